/-
  A part of the proof that the law HerdSums returns true for every input; conditions: none beyond the statement's own. (part 3 of 6)
-/
import Derived.RangeFuncIn
import Derived.Laws.Externs
import Derived.ProofKit
import Derived.SizedLaws
import Derived.Test.YtcldiigclhgafaaGreatChecked
import Derived.KernelRfl
import Derived.Test.YtcldiigclhgafaaGreatNdb
set_option linter.unusedSimpArgs false
set_option linter.unusedVariables false
set_option maxHeartbeats 16000000
set_option maxRecDepth 100000
namespace Go.Abs
open Go Go.RowKit
open Enc (enc)
mutual
theorem iK{p q:Nat→Bool}(h:∀ n,p n=true→q n=true):∀ x:I,x.only p=true→x.only q=true
 | .agg fs,hx | .tuple fs,hx=>by simp only[I.only] at *;exact ik h fs hx
 | .slice _ es,hx=>by simp only[I.only] at *;exact ik h es hx
 | .ref x,hx=>by simp only[I.only] at *;exact iK h x hx
 | .func _ caps,hx=>by simp only[I.only] at *;exact ik h caps hx
 | .iface _ v,hx=>by simp only[I.only] at *;exact iK h v hx
 | .ptr _ _,hx | .own _ _,hx | .view _ _ _ _ _,hx | .mref _,hx | .dg _,hx=>by simp only[I.only] at *;exact h _ hx
 | .cM ks vs,hx=>by simp only[I.only,Bool.and_eq_true] at *;exact ⟨ik h ks hx.1,ik h vs hx.2⟩
 | .bool _,_ | .int _ _,_ | .cR _,_ | .nilp,_ | .da,_ | .dL,_ | .raw _,_ | .nils _,_ | .c0 _,_ | .undef,_ | .c8,_=>by simp[I.only]
theorem ik{p q:Nat→Bool}(h:∀ n,p n=true→q n=true):∀ xs:List I,I.bV p xs=true→I.bV q xs=true
 | [],_=>rfl
 |x::xs,hx=>by
  simp only[I.bV,Bool.and_eq_true] at *
  exact ⟨iK h x hx.1,ik h xs hx.2⟩
end
theorem ah.iK{p q:Nat→Bool}(h:∀ n,p n=true→q n=true)(x:ah)(hx:x.only p=true):x.only q=true:=by
 cases x with
 |box y=>simp only[ah.only] at *;exact Abs.iK h y hx
 |bS T sz es=>simp only[ah.only] at *;exact ik h es hx
 |dB o=>rfl
 |cO T xs=>rfl
 |cu ks vs=>simp only[ah.only,Bool.and_eq_true] at *;exact ⟨ik h ks hx.1,ik h vs hx.2⟩
 |it ks vs left cur=>simp only[ah.only,Bool.and_eq_true] at *;exact ⟨ik h ks hx.1,ik h vs hx.2⟩
theorem II{x:I}(h:x.bl=true):x.b9=true:=by
 cases x <;>first | rfl | simp[I.bl] at h
theorem ue{aw:Bool}{A0:ab}{ρ:List (Nat×Nat)}{os:List (Nat×ah)} : ∀ xs:List I,I.bT xs=true→iX aw A0 ρ os xs xs
 | [],_=>trivial
 |x::xs,h=>by
  simp only[I.bT,Bool.and_eq_true] at h
  exact ⟨.inl ⟨(qO _ x h.1).symm,mf _ x h.1,II h.1⟩,ue xs h.2⟩
structure fh (os os':List (Nat×ah)):Prop where
 same:∀ m,al os' m=al os m
 ok:∀ m x,aj os' m=some x→x.only (al os')=true∧x.eL=true
 nL:∀ m,al os m=true→1000000≤m
def tX(P:Program)(g:FuncId)(caps:List I)(N:Nat)(item:Nat→List I):Prop :=
 ∀ (Y:Value→List I→List (Nat×ah)→cS→Prop) (v:Value) (ai:Nat→List (Nat×ah)→Prop) (Ix:List (Nat×ah)→Prop) (os:List (Nat×ah)),v.oneCell'=true →
  (∀ k os' post,k<N→ai k os'→(∀ r os2,(r=.bool true∧ai (k+1) os2)∨(r=.bool false∧Ix os2)→post r os2)→Y v (item k) os' post) →
  (∀ k os',ai k os'→fh os os')→(∀ os',Ix os'→fh os os')→ai 0 os→kd P g Y (.raw v::caps) os (fun r os'=>r=.tuple []∧(ai N os'∨Ix os'))
def dy(o:Obj)(os:List (Nat×ah)):List (Nat×ah):=(1999999,.dB o)::os
theorem lu(o:Obj)(os:List (Nat×ah))(m:Nat):al (dy o os) m=(decide (m=1999999)||al os m):=by
 simp only[dy,al,aj]
 by_cases h:m=1999999 <;>simp[h]
theorem pc(o:Obj)(os:List (Nat×ah))(m:Nat):aj (dy o os) m=if m=1999999 then some (.dB o) else aj os m:=rfl
theorem fh.dy{os os':List (Nat×ah)}(h:fh os os')(o o':Obj):fh (dy o os) (dy o' os'):=by
 refine ⟨fun m=>by rw[lu,lu,h.same],fun m x hx =>?_,fun m hm =>?_⟩
 ·rw[pc] at hx
  split at hx
  ·cases hx;exact ⟨rfl,rfl⟩
  ·obtain ⟨h1,h2⟩:=h.ok m x hx
   exact ⟨x.iK (fun n hn=>by rw[lu,hn];simp) h1,h2⟩
 ·rw[lu] at hm
  simp only[Bool.or_eq_true,decide_eq_true_eq] at hm
  rcases hm with rfl | hm
  ·decide
  ·exact h.nL m hm
def qL:List Nat→List I→List (Nat×I)→List (Nat×I)
 |p::ps,v::vs,ts=>qL ps vs ((p,v)::ts)
 |_,_,ts=>ts
def mD(ρ:List (Nat×Nat))(p:Nat→Bool)(ts:List (Nat×I)):List (Nat×I)→Prop
 | []=>True
 |(k,v)::r=>cj ts k=v.aK (bA ρ)∧v.only p=true∧mD ρ p ts r
theorem Mn{ρ:List (Nat×Nat)}{p:Nat→Bool}{ts:List (Nat×I)} : ∀ {tsR:List (Nat×I)},mD ρ p ts tsR→∀ k,cj tsR k=.c8∨(cj ts k=(cj tsR k).aK (bA ρ)∧(cj tsR k).only p=true)
 | [],_,k=>.inl rfl
 |(j,v)::r,h,k=>by
  simp only[mD] at h
  simp only[cj]
  split
  ·rename_i hk;subst hk;exact .inr ⟨h.1,h.2.1⟩
  ·exact Mn h.2.2 k
section
variable {c:cK} {a:Act} {w:World} {D:aH} {E:aS}
theorem aN.xZ{A:ab}(h:aN c A a w D E){n b:Nat}{o o':Obj}(hn:A.o n=some (.dB o))(aq:E n=some (.op b))(ho:o8 o'=true):aN c (A.aL n (.dB o')) a (w.putObj b o') D E:=by
 have hob:=h.bR n
 rw[hn] at hob
 obtain ⟨b',k1,k2,k3,k4,k5⟩:=hob
 rw[aq] at k1
 cases k1
 have hnc:o.isCells=false:=by cases o <;>first | rfl | cases k4
 have hlt:b<w.heap.size:=fK k3
 have hl:dE w D E (w.putObj b o') D E:=⟨fun _ _ h=>h,fun b1 o1 v _ hv=>uy k3 hnc hv,fun _ _ _ h=>h,fun _ aA l h=>⟨aA,l,h,Nat.le_refl _,fun _=>rfl⟩,fun _ _ h=>h,fun _ _ h=>h,fun b1 es ck hd hm=>(World.putObj_heap_other (fun e1=>k5 0 (by rw[←e1];exact hd))).trans hm⟩
 refine ⟨h.sz,h.eK.mono fun B _ hB=>(World.putObj_heap_other (fun e=>by rw[e,k3] at hB;cases hB;cases k4)).trans hB,fun t=>aR.bC hl (h.eb t),h.dN.trans ⟨rfl,rfl,rfl,by simp,fun k hk=>World.putObj_heap_other (fun e=>hk (e▸k2))⟩,h.cY,
  fun b1 o1 hd=>by have:=h.c9 b1 o1 hd;simpa using this,fun m =>?_,h.cN,h.dP,h.eU,h.cG,h.eY,h.kL hl⟩
 simp only[ab.aL]
 by_cases hm:m=n
 ·subst hm
  simp only[if_true,cZ]
  exact ⟨b,aq,k2,World.putObj_heap_same hlt,ho,k5⟩
 ·simp only[if_neg hm]
  exact (h.bR m).bC hl rfl fun e b1 he hb=>⟨World.putObj_heap_other (fun e1=>hm (h.cN m n e _ b1 he aq hb (by rw[e1];rfl))),fun _ ho=>ho⟩
theorem aN.Wb{A:ab}(h:aN c A a w D E){n b:Nat}(aq:E n=some (.op b)):aN c ⟨A.t,fun m=>if m=n then none else A.o m⟩ a w D (fun m=>if m=n then none else E m):=by
 have hne:∀ {m:Nat} {e:bO},E m=some e→(∀ b,e≠.op b)→m≠n:=fun he h2 e'=>by
  subst e';rw[aq] at he;cases he;exact h2 _ rfl
 have hl:dE w D E w D (fun m=>if m=n then none else E m):=by
  refine ⟨fun _ _ h=>h,fun _ _ _ _ h=>h,fun m b aJ he =>?_,fun m aA l he=>⟨aA,l,?_,Nat.le_refl _,fun _=>rfl⟩,fun m b he =>?_,fun m b he =>?_,fun _ _ _ _ h=>h⟩
  ·simp only[if_neg (hne he (fun b=>by simp))];exact he
  ·simp only[if_neg (hne he (fun b=>by simp))];exact he
  ·simp only[if_neg (hne he (fun b=>by simp))];exact he
  ·simp only[if_neg (hne he (fun b=>by simp))];exact he
 refine ⟨h.sz,h.eK,fun t=>aR.bC hl (h.eb t),h.dN,h.cY,h.c9,fun m =>?_,fun m m' e e' b h1 h2 h3 h4 =>?_,fun m e hm =>?_,h.eU,h.cG,h.eY,h.fr⟩
 ·by_cases hm:m=n
  ·simp only[hm,if_true,cZ]
  ·simp only[if_neg hm]
   exact (h.bR m).bC hl (by simp only[if_neg hm]) fun _ _ _ _=>⟨rfl,fun _ ho=>ho⟩
 ·split at h1
  ·cases h1
  ·split at h2
   ·cases h2
   ·exact h.cN m m' e e' b h1 h2 h3 h4
 ·by_cases hmn:m=n
  ·left;simp only[hmn,if_true]
  ·simp only[if_neg hmn];exact h.dP m e hm
theorem aN.enter{ts:List (Nat×I)}{os0:List (Nat×ah)}(h:aN c (au ts os0) a w D E)(hfree:aj os0 999999=none)(hE0:c.dz 999999=none){o:Obj}(ho:o8 o=true) :
  ∃ E1,aN c (au ts ((999999,.dB o)::os0)) { a with defers := { target:=.collected w.heap.size,args := #[] } :: a.defers } ((w.alloc (.deferred (some []))).alloc o) D E1∧E1 999999=some (.op (w.heap.size+1))∧∀ xs vs,aD w D E xs vs→aD ((w.alloc (.deferred (some []))).alloc o) D E1 xs vs:=by
 have hb:Below w.heap.size w ((w.alloc (.deferred (some []))).alloc o):=((Below.refl _ w).alloc (Nat.le_refl _) _).alloc (by simp) _
 have h1:=h.grow (D':=D) hb (fun _ _ h=>h) (fun _ _ h _=>h) (fun b o' hd=>by have:=h.c9 b o' hd;simp;omega)
 obtain ⟨W,hW⟩:∃ W,W=(w.alloc (.deferred (some []))).alloc o:=⟨_,rfl⟩
 have hL:W.heap[w.heap.size+1]?=some o:=by
  rw[hW];have:=World.alloc_heap_new (w.alloc (.deferred (some []))) o;rwa [World.size_alloc] at this
 have hK:W.heap[w.heap.size]?=some (.deferred (some [])):=by
  rw[hW];exact (Below.heap_alloc _ _ _ (by simp)).trans (World.alloc_heap_new w _)
 rw[←hW] at h1 hb ⊢
 have hEn:E 999999=none:=by have:=h.bR 999999;simp only[au,hfree] at this;exact this
 have hl:dE W D E W D (fun m=>if m=999999 then some (.op (w.heap.size+1)) else E m):=by
  refine ⟨fun _ _ h=>h,fun _ _ _ _ h=>h,fun m b aJ he =>?_,fun m aA l he=>⟨aA,l,?_,Nat.le_refl _,fun _=>rfl⟩,fun m b he =>?_,fun m b he =>?_,fun _ _ _ _ h=>h⟩
  all_goals
   have:m≠999999:=fun e=>by rw[e,hEn] at he;cases he
   simp only[if_neg this];exact he
 have hsz:c.eX.heap.size≤w.heap.size:=h.dN.size
 have nb:∀ {m:Nat} {e:bO} {b:Nat},E m=some e→e.aA=some b→b<w.heap.size:=fun he hb'=>h.fI he hb'
 refine ⟨fun m=>if m=999999 then some (.op (w.heap.size+1)) else E m,⟨h1.sz,?_,fun t=>aR.bC hl (h1.eb t),h1.dN,h1.cY,h1.c9,fun m =>?_,fun m m' e e' b g1 g2 g3 g4 =>?_,fun m e hm =>?_,h1.eU,h1.cG,h1.eY,h1.fr⟩,by simp,fun xs vs hx=>aD.bC hl xs vs (aD.bC (dE.grow hb fun _ _ h=>h) xs vs hx)⟩
 ·obtain ⟨Bs,k1,k2,k3⟩:=h1.eK
  refine ⟨w.heap.size::Bs,by simp only[List.map_cons];rw[←k1],List.nodup_cons.2 ⟨fun hin =>?_,k2⟩,fun B hB =>?_⟩
  ·obtain ⟨Bs',j1,_,j3⟩:=h.eK
   have e1:Bs=Bs':=by
    have:Bs.map (fun B=>({ target:=.collected B,args := #[] } : Deferred))=Bs'.map (fun B => { target:=.collected B,args := #[] }):=by rw[←k1,←j1]
    exact (List.map_inj_right (fun x y hxy=>by simpa using hxy)).1 this
   rw[e1] at hin
   have:=fK (j3 _ hin).2
   omega
  ·rcases List.mem_cons.1 hB with rfl | hB
   ·exact ⟨hsz,hK⟩
   ·exact k3 B hB
 ·simp only[au,aj]
  by_cases hm:m=999999
  ·subst hm
   simp only[if_true,cZ]
   exact ⟨_,rfl,.inl (by omega),hL,ho,fun o' hd=>by have:=h.c9 _ o' hd;omega⟩
  ·simp only[if_neg hm]
   exact (h1.bR m).bC hl (by simp only[if_neg hm]) fun _ _ _ _=>⟨rfl,fun _ ho=>ho⟩
 ·by_cases hm:m=999999 <;>by_cases hm':m'=999999
  ·rw[hm,hm']
  ·simp only[if_pos hm,Option.some.injEq] at g1
   simp only[if_neg hm'] at g2
   subst g1
   simp only[bO.aA,Option.some.injEq] at g3
   have:=nb g2 g4;omega
  ·simp only[if_neg hm] at g1
   simp only[if_pos hm',Option.some.injEq] at g2
   subst g2
   simp only[bO.aA,Option.some.injEq] at g4
   have:=nb g1 g3;omega
  ·simp only[if_neg hm] at g1;simp only[if_neg hm'] at g2;exact h.cN m m' e e' b g1 g2 g3 g4
 ·have hmn:m≠999999:=fun e=>by rw[e,hE0] at hm;cases hm
  simp only[if_neg hmn]
  exact h.dP m e hm
theorem cZ.ma{M M':Nat→Prop}{n:Nat}{x:Option ah}(h:cZ M w D E n x)(hM:∀ e b,E n=some e→e.aA=some b→M' b):cZ M' w D E n x:=by
 unfold cZ at *
 split
 ·exact h
 ·obtain ⟨b,cs,T,h1,_,h3⟩:=h
  exact ⟨b,cs,T,h1,hM _ b h1 rfl,h3⟩
 ·obtain ⟨aA,h1,h2,h3⟩:=h
  refine ⟨aA,h1,h2,?_⟩
  split
  ·exact h3
  ·obtain ⟨cs,pre,rest,_,h4⟩:=h3
   exact ⟨cs,pre,rest,hM _ _ h1 rfl,h4⟩
 ·obtain ⟨b,h1,_,h3⟩:=h
  exact ⟨b,h1,hM _ b h1 rfl,h3⟩
 ·obtain ⟨b,es,ck,h1,_,h3⟩:=h
  exact ⟨b,es,ck,h1,hM _ b h1 rfl,h3⟩
 ·obtain ⟨r,b,es,ck,si,se,la,h1,_,h3⟩:=h
  exact ⟨r,b,es,ck,si,se,la,h1,hM _ r h1 rfl,h3⟩
 ·obtain ⟨aA,h1,h2,h3⟩:=h
  refine ⟨aA,h1,h2,?_⟩
  split
  ·exact h3
  ·obtain ⟨cs,m,_,h4⟩:=h3
   exact ⟨cs,m,hM _ _ h1 rfl,h4⟩
theorem aN.J5{os:List (Nat×ah)} : ∀ (ps:List Nat) (vs:List Value) (xs:List I) (ts:List (Nat×I)) (a:Act),aN c (au ts os) a w D E→(∀ p∈ps,p<c.n)→aD w D E xs vs→ps.length=vs.length →
  aN c (au (qL ps xs ts) os) { a with tmps:=(ps.zip vs).foldl (fun t q=>t.setIfInBounds q.1 q.2) a.tmps } w D E
 | [],[],xs,ts,a,h,_,hv,_=>by
  cases xs with
  |nil=>exact h
  |cons x xs=>simp[aD] at hv
 | [],_::_,_,_,_,_,_,_,hl=>by simp at hl
 |_::_,[],_,_,_,_,_,_,hl=>by simp at hl
 |p::ps,v::vs,xs,ts,a,h,hp,hv,hl=>by
  cases xs with
  |nil=>simp[aD] at hv
  |cons x xs =>
   simp only[aD] at hv
   obtain ⟨v',rest,cs,e,h1,h2,h3⟩:=hv
   simp only[List.cons.injEq] at e
   obtain ⟨rfl,rfl⟩:=e
   have h4:=h.put (hp p (by simp)) (mb h1 h2)
   rw[sH] at h4
   have:=aN.J5 ps vs xs ((p,x)::ts) (a.put (some p) v) h4 (fun q hq=>hp q (by simp[hq])) h3 (by simpa using hl)
   exact this
end
end Go.Abs
namespace Go.Abs
open Go Go.RowKit
def iS:bZ→Bool
 | .mv _ | .pick .. | .bin .. | .eqv .. | .conv .. | .un .. | .fl .. | .ix .. | .lenT _ | .bld .. | .ext .. | .mk .. | .nilC _ | .ptrE .. =>true
 | .ld .. | .fa .. | .ia .. | .is .. | .len _ | .va .. | .bs .. | .sl .. | .cap _ | .bs0 _ | .lk .. =>true
 |_=>false
def sV:bZ→Bool
 | .alloc _ | .box _ | .br .. | .call .. | .eG .. | .dF .. =>true
 |op=>iS op
def o9(hs:List FuncId):bZ→Bool
 | .alloc _ | .box _=>true
 | .call f _ => !hs.contains f
 |op=>iS op
abbrev eO:=List (Nat×List Nat)
def je(aC:eO)(s:Nat):Option (List Nat):=(aC.find? fun q=>q.1==s).map (·.2)
def eZ(aC:eO)(A:ab):Prop:=∀ s ns,je aC s=some ns→(A.t s).only (fun n=>ns.contains n)=true
def qw(aC:eO):aG→Option (List Nat)
 | .t s=>je aC s
 | .c x=>if x.bl then some [] else none
def tE(a:Option (List Nat))(ns:List Nat):Bool:=match a with
 |some ms=>ms.all fun m=>ns.contains m
 |none=>false
def ji(aC:eO)(g:av):Bool:=match g.dst with
 |none=>true
 |some d=>match je aC d with
  |none=>true
  |some ns=>match g.op with
   | .mv x | .nilC x | .fa _ _ x | .ia _ _ x _=>tE (qw aC x) ns
   | .bin .. | .len _ | .bs .. | .bs0 _ | .conv .. | .lenT _=>true
   | .box _ | .alloc _=>ns.contains d
   |_=>false
def m9:bZ→Option (List Nat)
 | .ld _ (.t x) | .fa _ _ (.t x) | .ia _ _ (.t x) _ | .is _ (.t x) _ | .len (.t x) | .va _ _ (.t x) | .sl _ (.t x) _ _ _ | .cap (.t x) | .lk _ _ _ (.t x) _=>some [x]
 | .bs _ ps=>if (ps.all fun x=>match x with | .t _=>true | .c _=>false)=true then some (jI ps) else none
 | .bs0 _=>some []
 |op=>if op.gi=0∧iS op=true then some [] else none
def rF(aC:eO)(g:av)(p:Nat→Bool):Bool:=match m9 g.op with
 |some xs=>xs.all fun s=>match je aC s with | some ns=>ns.all p | none=>false
 |none=>false
def nZ(hs:List FuncId)(aC:eO)(g h:av):Bool:=o9 hs h.op||match h.op with
 | .br _ (.t y) _=>match m9 g.op with
  |some []=>true
  |_=>match je aC y with
   |some ms=>rF aC g fun n => !ms.contains n
   |none=>false
 | .br .. =>match m9 g.op with
  |some []=>true
  |_=>false
 | .dF _ _ _ _ s _=>rF aC g (fun _=>false)||tE (qw aC s) []
 |_=>false
def nO(hs:List FuncId)(aC:eO)(g h:av):Bool:=iS g.op&&(nZ hs aC g h&&((match g.dst with
  |some d => !h.cX.contains d&&h.dst != some d
  |none=>true)&&(match h.dst with
  |some d => !g.cX.contains d
  |none=>true)))
theorem vQ{op:bZ}(h:iS op=true)(A:ab)(dst:Option Nat)(rest:List av)(k:ab→cF):aY A dst op rest k=cJ (a8 A op) fun v=>k (A.aI dst v):=by
 cases op <;>first | rfl | cases h
inductive cB (P:Program) (hs:List FuncId) (K:ab→Prop):cF→Prop where
 |done {A:ab} : K A→cB P hs K (.done A)
 |flat {f:FuncId} {avs cargs:List I} {a2:Option (List I)} {dst:Option Nat} {rest:List av} {A:ab} (r:I):aB P f cargs r→r.flat=true→cB P hs K (az rest (A.aI dst r))→cB P hs K (.call f avs (some cargs) a2 dst rest A)
 |lead {f:FuncId} {avs cargs:List I} {a1:Option (List I)} {dst:Option Nat} {rest:List av} {A:ab} (r:I):aB P f cargs r→cB P hs K (az rest (A.aI dst r))→cB P hs K (.call f avs a1 (some cargs) dst rest A)
 |bR {f:FuncId} {avs:List I} {a1 a2:Option (List I)} {dst:Option Nat} {rest:List av} {ts:List (Nat×I)} {os0:List (Nat×ah)} (ρ:List (Nat×Nat)) (cargs:List I) (post:cS):cD P f cargs [] post →
   fT ρ [] os0→iX false (au ts os0) ρ [] avs cargs→(∀ r os',post r os'→er false ρ [] os0 r os') →
   (∀ r os',post r os'→cB P hs K (az rest ((au ts (dI ρ os'++os0)).aI dst (r.aK (bA ρ)))))→cB P hs K (.call f avs a1 a2 dst rest (au ts os0))
 |any {p:Nat→Prop} {k:Nat→cF} : (∀ m,p m→cB P hs K (k m))→cB P hs K (.any p k)
 |xb {f:FuncId} {avs:List I} {a1 a2:Option (List I)} {dst:Option Nat} {rest:List av} {ts:List (Nat×I)} {os0:List (Nat×ah)} (aw:Bool) (ρ:List (Nat×Nat)) (os:List (Nat×ah)) (cargs:List I) (post:cS):hs.contains f=true→cD P f cargs os post →
   fT ρ os os0→iX aw (au ts (c4 (jD ρ os) os0)) ρ os avs cargs→(∀ r os',post r os'→er aw ρ os os0 r os') →
   (∀ r os',post r os'→cB P hs K (az rest ((au ts (dI ρ os'++os0)).aI dst (r.aK (bA ρ)))))→cB P hs K (.call f avs a1 a2 dst rest (au ts os0))
theorem Wa(os:List (Nat×ah)):c4 [] os=os:=by simp[c4]
section
variable {P:Program} {hs:List FuncId} {K:ab→Prop} {Y:Value→List I→List (Nat×ah)→cS→Prop}
theorem cB.yX{p:Nat→Prop}{k:Nat→cF}(h:cB P hs K (.any p k)):∀ m,p m→cB P hs K (k m):=by cases h;assumption
theorem eZ.put{aC:eO}{A B:ab}(h:eZ aC A)(ht:∀ k,B.t k=A.t k){dst:Option Nat}{v:I}(hv:∀ d,dst=some d→∀ ns,je aC d=some ns→v.only (fun n=>ns.contains n)=true):eZ aC (B.aI dst v):=by
 intro s ns hs'
 cases dst with
 |none=>exact (ht s).symm▸h s ns hs'
 |some d =>
  simp only[ab.aI,ab.put]
  by_cases hd:s=d
  ·rw[if_pos hd];exact hv d rfl ns (hd▸hs')
  ·rw[if_neg hd,ht];exact h s ns hs'
theorem qY{aC:eO}{A:ab}(h:eZ aC A){x:aG}{ns:List Nat}(hx:tE (qw aC x) ns=true):(ae A x).only (fun n=>ns.contains n)=true:=by
 cases x with
 |c x =>
  simp only[qw] at hx
  split at hx
  ·rename_i hc;exact mf _ x hc
  ·cases hx
 |t s =>
  simp only[qw] at hx
  cases hl:je aC s with
  |none=>rw[hl] at hx;cases hx
  |some ms =>
   rw[hl] at hx
   simp only[tE,List.all_eq_true] at hx
   exact iK (fun n hn=>hx n (by simpa using hn)) _ (h s ms hl)
theorem Pg{op:BinOp}{x y v:I}(p:Nat→Bool)(h:cE op x y=some v):v.only p=true:=by
 unfold cE at h
 (repeat' split at h) <;>first | (cases h;done) | (simp only[Option.some.injEq] at h;subst h;rfl)
theorem xq{p:Nat→Bool} : ∀ {xs:List I} {i:Nat} {x:I},I.bV p xs=true→xs[i]?=some x→x.only p=true
 | [],_,_,_,h=>by simp at h
 |a::xs,0,x,h,e=>by
  simp only[I.bV,Bool.and_eq_true] at h
  simp only[List.getElem?_cons_zero,Option.some.injEq] at e
  exact e▸h.1
 |a::xs,i+1,x,h,e=>by
  simp only[I.bV,Bool.and_eq_true] at h
  exact xq (xs:=xs) h.2 (by simpa using e)
theorem Ju{aC:eO}{A:ab}{g:av}(h:eZ aC A)(hg:ji aC g=true){v:I}(hv:a8 A g.op=some v):∀ d,g.dst=some d→∀ ns,je aC d=some ns→v.only (fun n=>ns.contains n)=true:=by
 intro d hd ns hn
 obtain ⟨dst,op,gd⟩:=g
 simp only at hd hv
 subst hd
 simp only[ji,hn] at hg
 cases op <;>simp only at hg <;>(try (cases hg;done)) <;>simp only[a8] at hv <;>(try (cases hv;done))
 case mv x=>simp only[Option.some.injEq] at hv;exact hv▸qY h hg
 case nilC x =>
  have:=qY h hg
  generalize ae A x=u at hv this
  cases u <;>simp only[mc] at hv <;>first | (cases hv;done) | (simp only[Option.some.injEq] at hv;exact hv▸this)
 case bin op x y=>exact Pg _ hv
 case conv k x=>split at hv <;>first | (cases hv;done) | (simp only[Option.some.injEq] at hv;subst hv;rfl)
 case lenT x=>split at hv <;>first | (cases hv;done) | (simp only[Option.some.injEq] at hv;subst hv;rfl)
 case len x=>(repeat' split at hv) <;>first | (cases hv;done) | (simp only[Option.some.injEq] at hv;subst hv;rfl)
 case bs0 e=>simp only[Option.some.injEq] at hv;subst hv;rfl
 case bs e ps =>
  split at hv
  ·split at hv
   ·rename_i hc
    simp only[Option.some.injEq] at hv;subst hv
    simp only[I.only];exact j0 _ _ hc.2
   ·cases hv
  ·cases hv
 case fa f off x =>
  have hx:=qY h hg
  split at hv
  ·rename_i fs he
   rw[he] at hx
   simp only[I.only] at hx
   split at hv
   ·rename_i u hu
    split at hv
    ·simp only[Option.some.injEq] at hv;subst hv
     simp only[I.only];exact xq hx hu
    ·cases hv
   ·cases hv
  ·rename_i n q he
   rw[he] at hx
   simp only[I.only] at hx
   split at hv
   ·split at hv
    ·simp only[Option.some.injEq] at hv;subst hv;simpa only[I.only] using hx
    ·cases hv
   ·cases hv
  ·cases hv
 case ia n esz x i =>
  have hx:=qY h hg
  split at hv
  case h_2=>cases hv
  split at hv
  case isFalse=>cases hv
  split at hv
  ·rename_i fs he
   rw[he] at hx
   simp only[I.only] at hx
   split at hv
   ·simp only[Option.map_eq_some_iff] at hv
    obtain ⟨u,hu,rfl⟩:=hv
    simp only[I.only];exact xq hx hu
   ·cases hv
  ·rename_i m q he
   rw[he] at hx
   simp only[I.only] at hx
   split at hv
   ·split at hv
    ·simp only[Option.some.injEq] at hv;subst hv;simpa only[I.only] using hx
    ·cases hv
   ·cases hv
  ·cases hv
def ry(A:ab)(dst:Option Nat)(s:I)(B:ab):Prop:=(∀ t,dst≠some t→B.t t=A.t t)∧(s.only (fun _=>false)=true→ec A B)
def nv(A:ab)(dst:Option Nat)(s:I)(R:(ab→cF)→cF):Prop :=
 (∀ k,R k=.fail)∨(∃ B,(∀ k,R k=k B)∧ry A dst s B)∨∃ (p:Nat→Prop) (bn:Nat→ab),(∀ k,R k=.any p fun m=>k (bn m))∧∀ m,ry A dst s (bn m)
theorem qK{A B:ab}{dst:Option Nat}{v:I}{t:Nat}(ht:∀ k,B.t k=A.t k)(h:dst≠some t):(B.aI dst v).t t=A.t t:=by
 cases dst with
 |none=>exact ht t
 |some d =>
  have:t≠d:=fun e=>h (by rw[e])
  simp only[ab.aI,ab.put,if_neg this]
  exact ht t
theorem ON(A:ab)(dst:Option Nat)(esz bytes:Nat)(z s:I)(es ys:List I):nv A dst s (gD A dst esz bytes z es ys):=by
 cases dst with
 |none=>exact .inl fun _=>rfl
 |some d =>
  cases ho:A.o d with
  |some y=>exact .inl fun k=>by simp only[gD,ho]
  |none =>
   by_cases hc:(es.length+ys.length)*bytes≤140737488355328∧es.length+ys.length≤maxLen
   ·refine .inr (.inr ⟨_,fun m=>(A.aL d (.box (.agg (es++(ys++List.replicate m z))))).aI (some d) (.view d [] esz 0 (es.length+ys.length)),fun k=>by simp only[gD,ho];rw[if_pos hc],fun m=>⟨fun t ht=>qK (A:=A) (B:=A.aL d _) (fun _=>rfl) ht,fun _ n y hy =>?_⟩⟩)
    have:n≠d:=fun e=>by rw[e,ho] at hy;cases hy
    rw[im]
    simp only[ab.aL,if_neg this];exact hy
   ·exact .inl fun k=>by simp only[gD,ho];rw[if_neg hc]
theorem OP(A:ab)(dst:Option Nat)(esz bytes:Nat)(z s:I)(es ys:Option (List I)):nv A dst s (fm A dst esz bytes z s es ys):=by
 cases es with
 |none=>exact .inl fun _=>rfl
 |some es =>
  cases ys with
  |none=>exact .inl fun _=>rfl
  |some ys =>
   by_cases h0:ys=[]
   ·exact .inr (.inl ⟨A.aI dst s,fun k=>by simp only[fm,if_pos h0],fun t ht=>qK (A:=A) (fun _=>rfl) ht,fun _ n y hy=>by rw[im];exact hy⟩)
   ·have gg:=fun s'=>ON A dst esz bytes z s' es ys
    cases s
    case nils=>simp only[nv,fm,if_neg h0];exact gg _
    case c0=>simp only[nv,fm,if_neg h0];exact gg _
    case view n p sz lo l =>
     cases ho:A.o n with
     |none=>exact .inl fun k=>by simp only[fm,if_neg h0,ho]
     |some y =>
      cases y with
      |box b =>
       cases hb:b.at p with
       |none=>exact .inl fun k=>by simp only[fm,if_neg h0,ho,hb]
       |some c =>
        cases c
        case agg fs =>
         by_cases h1:lo+l+ys.length≤fs.length
         ·by_cases h2:sz=esz∧I.cQ ys=I.cQ ((fs.drop (lo+l)).take ys.length)
          ·exact .inr (.inl ⟨(A.aL n (.box (iQ b p (lo+l) fs ys))).aI dst (.view n p esz lo (l+ys.length)),fun k=>by simp only[fm,if_neg h0,ho,hb,if_pos h1];rw[if_pos h2],fun t ht=>qK (A:=A) (B:=A.aL n _) (fun _=>rfl) ht,fun h=>by simp[I.only] at h⟩)
          ·exact .inl fun k=>by simp only[fm,if_neg h0,ho,hb,if_pos h1];rw[if_neg h2]
         ·simp only[nv,fm,if_neg h0,ho,hb,if_neg h1];exact gg _
        all_goals exact .inl fun k=>by simp only[fm,if_neg h0,ho,hb]
      |_=>exact .inl fun k=>by simp only[fm,if_neg h0,ho]
    all_goals exact .inl fun k=>by simp only[fm,if_neg h0]
theorem y5(A:ab)(dst:Option Nat)(e esz bytes:Nat)(z:I)(s x:aG)(rest:List av):nv A dst (ae A s) (aY A dst (.dF e esz bytes z s x) rest):=by
 generalize hs:ae A s=yb
 cases yb
 case own n l =>
  cases hx:ae A x
  case slice sz ys =>
   cases ho:A.o n with
   |none=>exact .inl fun k=>by simp only[aY,hs,hx,ho]
   |some y =>
    cases y with
    |bS T sz' es =>
     by_cases hc:xe e esz bytes l sz ys T sz' es
     ·exact .inr (.inl ⟨(A.aL n (.bS e esz (es++ys))).aI dst (.own n (es.length+ys.length)),fun k=>by simp only[aY,hs,hx,ho];rw[if_pos hc],fun t ht=>qK (A:=A) (B:=A.aL n _) (fun _=>rfl) ht,fun h=>by simp[I.only] at h⟩)
     ·exact .inl fun k=>by simp only[aY,hs,hx,ho];rw[if_neg hc]
    |cO T xs =>
     by_cases hc:xf e esz bytes l ys T xs z
     ·exact .inr (.inl ⟨(A.aL n (.cO e (xs++qp ys))).aI dst (.own n (xs.length+ys.length)),fun k=>by simp only[aY,hs,hx,ho];rw[if_pos hc],fun t ht=>qK (A:=A) (B:=A.aL n _) (fun _=>rfl) ht,fun h=>by simp[I.only] at h⟩)
     ·exact .inl fun k=>by simp only[aY,hs,hx,ho];rw[if_neg hc]
    |_=>exact .inl fun k=>by simp only[aY,hs,hx,ho]
  all_goals exact .inl fun k=>by simp only[aY,hs,hx]
 all_goals (simp only[nv,aY,hs];exact OP ..)
theorem xB{A:ab}{d:Nat}{v:I}{n:Nat}{y:ah}{dst:Option Nat}{u:I}(h:dst≠some d):((A.put d v).aL n y).aI dst u=((A.aL n y).aI dst u).put d v:=by
 cases dst with
 |none=>rfl
 |some e =>
  have:e≠d:=fun he=>h (by rw[he])
  simp only[ab.aI,ab.put,ab.aL,ab.mk.injEq,and_true]
  funext k
  by_cases h1:k=e <;>by_cases h2:k=d <;>simp_all
theorem agx{A:ab}{d:Nat}{v:I}{dst:Option Nat}{u:I}(h:dst≠some d):(A.put d v).aI dst u=(A.aI dst u).put d v:=by
 cases dst with
 |none=>rfl
 |some e =>
  have:e≠d:=fun he=>h (by rw[he])
  simp only[ab.aI,ab.put,ab.mk.injEq,and_true]
  funext k
  by_cases h1:k=e <;>by_cases h2:k=d <;>simp_all
theorem OO{A:ab}{d:Nat}{v:I}{dst:Option Nat}(h:dst≠some d)(esz bytes:Nat)(z:I)(es ys:List I)(k:ab→cF):gD (A.put d v) dst esz bytes z es ys k=gD A dst esz bytes z es ys fun B=>k (B.put d v):=by
 cases dst with
 |none=>rfl
 |some e =>
  simp only[gD]
  have:(A.put d v).o=A.o:=rfl
  rw[this]
  cases A.o e with
  |some _=>rfl
  |none =>
   simp only
   split
   ·simp only[xB h]
   ·rfl
theorem OQ{A:ab}{d:Nat}{v:I}{dst:Option Nat}(h:dst≠some d)(esz bytes:Nat)(z s:I)(es ys:Option (List I))(k:ab→cF):fm (A.put d v) dst esz bytes z s es ys k=fm A dst esz bytes z s es ys fun B=>k (B.put d v):=by
 have ho:(A.put d v).o=A.o:=rfl
 cases es with
 |none=>rfl
 |some es =>
  cases ys with
  |none=>rfl
  |some ys =>
   simp only[fm]
   split
   ·rw[agx h]
   ·cases s <;>simp only[OO h,ho]
    rename_i n p sz lo l
    cases A.o n with
    |none=>rfl
    |some y =>
     cases y with
     |box b =>
      simp only
      cases b.at p with
      |none=>rfl
      |some c =>
       cases c <;>simp only[xB h]
     |_=>rfl
theorem OT{A:ab}{d:Nat}{v:I}{dst:Option Nat}(h:dst≠some d){e esz bytes:Nat}{z:I}{s x:aG}(hag:dX A (A.put d v) (s.sl++x.sl))(rest rest':List av)(k:ab→cF) :
  aY (A.put d v) dst (.dF e esz bytes z s x) rest k=aY A dst (.dF e esz bytes z s x) rest' fun B=>k (B.put d v):=by
 have ho:(A.put d v).o=A.o:=rfl
 have hsrc:∀ y,en (A.put d v) esz y=en A esz y:=fun y=>by cases y <;>rfl
 simp only[aY,c6 hag.l,c6 hag.r,hsrc]
 cases ae A s <;>simp only[OQ h]
 rename_i n l
 cases ae A x <;>simp only[ho]
 cases A.o n with
 |none=>rfl
 |some y=>cases y <;>simp only[xB h]
theorem cB.Bi{aC:eO}{f:FuncId}{avs:List I}{a1 a2:Option (List I)}{dst:Option Nat}{rest:List av}{A:ab}(hi:eZ aC A)(hd:∀ d,dst=some d→je aC d=none)(h:cB P hs K (.call f avs a1 a2 dst rest A)) :
  a7 P Y false (fun B=>cB P hs K (az rest B)∧eZ aC B) (.call f avs a1 a2 dst [] A):=by
 have no:∀ {v:I},∀ d,dst=some d→∀ ns,je aC d=some ns→v.only (fun n=>ns.contains n)=true:=fun d e ns hn=>by rw[hd d e] at hn;cases hn
 cases h with
 |flat r hc hf hw=>exact .flat r hc hf (.done ⟨hw,hi.put (fun _=>rfl) no⟩)
 |lead r hc hw=>exact .lead r hc (.done ⟨hw,hi.put (fun _=>rfl) no⟩)
 |bR ρ cargs post hc hg ha hb hw=>exact .bR false ρ [] cargs post rfl hc hg (by simp only[jD,List.map_nil,Wa];exact ha) hb fun r os' hp=>.done ⟨hw r os' hp,hi.put (B:=au _ (dI ρ os'++_)) (fun _=>rfl) no⟩
 |xb aw ρ os cargs post _ hc hg ha hb hw=>exact .bR aw ρ os cargs post rfl hc hg ha hb fun r os' hp=>.done ⟨hw r os' hp,hi.put (B:=au _ (dI ρ os'++_)) (fun _=>rfl) no⟩
theorem cB.one{aC:eO}{A:ab}{g:av}{rest:List av}(hi:eZ aC A)(ho:sV g.op=true)(hL:ji aC g=true)(h:cB P hs K (aY A g.dst g.op rest (az rest))):a7 P Y false (fun B=>cB P hs K (az rest B)∧eZ aC B) (aY A g.dst g.op [] (az [])):=by
 have hval:=fun v (hv:a8 A g.op=some v)=>Ju hi hL hv
 obtain ⟨dst,op,gd⟩:=g
 simp only at ho h hval ⊢
 have pure:iS op=true→a7 P Y false (fun B=>cB P hs K (az rest B)∧eZ aC B) (aY A dst op [] (az [])):=by
  intro hsm
  rw[vQ hsm] at h ⊢
  cases hv:a8 A op with
  |none=>rw[hv] at h;cases h
  |some v=>rw[hv] at h;exact .done ⟨h,hi.put (fun _=>rfl) (hval v hv)⟩
 have unl:(∀ ns d,dst=some d→je aC d=some ns→ji aC ⟨dst,op,gd⟩=false)→∀ d,dst=some d→je aC d=none:=fun h1 d hd=>by
  cases hn:je aC d with
  |none=>rfl
  |some ns=>rw[h1 ns d hd hn] at hL;cases hL
 cases op with
 |alloc z =>
  cases dst with
  |none=>simp only[aY] at h;cases h
  |some d =>
   simp only[aY] at h ⊢
   split at h
   case h_2=>cases h
   refine .done ⟨h,hi.put (B:=A.aL d _) (dst:=some d) (fun _=>rfl) fun d' e ns hn =>?_⟩
   simp only[Option.some.injEq] at e;subst e
   simpa only[ji,hn,I.only] using hL
 |box x =>
  cases dst with
  |none=>simp only[aY] at h;cases h
  |some d =>
   simp only[aY] at h ⊢
   split at h
   case h_2=>cases h
   split at h
   case isFalse=>cases h
   rename_i hv
   rw[if_pos hv]
   refine .done ⟨h,hi.put (B:=A.aL d _) (dst:=some d) (fun _=>rfl) fun d' e ns hn =>?_⟩
   simp only[Option.some.injEq] at e;subst e
   simpa only[ji,hn,I.only] using hL
 |br s x v =>
  cases dst with
  |some d=>simp only[aY] at h;cases h
  |none =>
   simp only[aY] at h ⊢
   split at h
   case h_2=>cases h
   rename_i n p hx
   split at h
   case h_2=>cases h
   rename_i b hb
   split at h
   case h_2=>cases h
   rename_i old hold
   split at h
   case isFalse=>cases h
   rename_i hok
   simp only[if_pos hok]
   exact .done ⟨h,fun s ns hn=>hi s ns hn⟩
 |call f args=>exact cB.Bi hi (unl fun ns d e hn=>by subst e;simp only[ji,hn]) h
 |eG x args =>
  have hu:=unl fun ns d e hn=>by subst e;simp only[ji,hn]
  simp only[aY] at h ⊢
  split at h
  ·exact cB.Bi hi hu h
  ·cases h
  ·cases h
 |dF e esz bytes z s x =>
  have hu:=unl fun ns d e hn=>by subst e;simp only[ji,hn]
  have sq:∀ B,ry A dst (ae A s) B→eZ aC B:=fun B hB t ns hn=>by
   rw[hB.1 t fun e=>by rw[hu t e] at hn;cases hn]
   exact hi t ns hn
  have hf:=y5 A dst e esz bytes z s x
  rcases hf rest with h1 | ⟨B,h1,h2⟩ | ⟨p,bn,h1,h2⟩
  ·rw[h1] at h;cases h
  ·rw[h1] at h
   have:aY A dst (.dF e esz bytes z s x) [] (az [])=az [] B:=(show aY A dst (.dF e esz bytes z s x) [] (az [])=aY A dst (.dF e esz bytes z s x) rest (az []) from rfl).trans (h1 _)
   rw[this]
   exact .done ⟨h,sq B h2⟩
  ·rw[h1] at h
   have:aY A dst (.dF e esz bytes z s x) [] (az [])=.any p fun m=>az [] (bn m):=(show aY A dst (.dF e esz bytes z s x) [] (az [])=aY A dst (.dF e esz bytes z s x) rest (az []) from rfl).trans (h1 _)
   rw[this]
   exact .any rfl fun m hm=>.done ⟨h.yX m hm,sq _ (h2 m)⟩
 |_=>first | exact pure rfl | cases ho
def fU(g:av)(A:ab)(v:I):Prop:=(ga A g∧v=.undef)∨(pass A g∧a8 A g.op=some v)
theorem cB.x5{A:ab}{g:av}{rest:List av}(hs':iS g.op=true)(h:cB P hs K (az (g::rest) A)):∃ v,fU g A v∧cB P hs K (az rest (A.aI g.dst v)):=by
 have step:pass A g→cB P hs K (aY A g.dst g.op rest (az rest))→∃ v,fU g A v∧cB P hs K (az rest (A.aI g.dst v)):=by
  intro hp h
  rw[vQ hs'] at h
  cases hv:a8 A g.op with
  |none=>rw[hv] at h;cases h
  |some v=>rw[hv] at h;exact ⟨v,.inr ⟨hp,hv⟩,h⟩
 simp only[az] at h
 split at h
 ·rename_i hg
  exact step (by simp only[pass,hg]) h
 ·rename_i t b hg
  split at h
  ·rename_i b' hb
   split at h
   ·rename_i hbb
    subst hbb
    exact step (by simp only[pass,hg];exact hb) h
   ·rename_i hbb
    exact ⟨_,.inl ⟨by simp only[ga,hg];exact .inl (by rw[hb,uh hbb]),rfl⟩,h⟩
  ·rename_i hb
   exact ⟨_,.inl ⟨by simp only[ga,hg];exact .inr hb,rfl⟩,h⟩
  ·cases h
theorem rE{A:ab}{g:av}{rest:List av}(hn:ga A g):az (g::rest) A=az rest (A.aI g.dst .undef):=by
 simp only[az]
 cases hg:g.guard with
 |none=>simp only[ga,hg] at hn
 |some tb =>
  obtain ⟨t,b⟩:=tb
  simp only[ga,hg] at hn
  rcases hn with hn | hn
  ·simp only[hn];rw[if_neg (by cases b <;>simp)]
  ·simp only[hn]
theorem fU.to{A:ab}{g:av}{rest:List av}{v:I}(hs':iS g.op=true)(h:fU g A v):az (g::rest) A=az rest (A.aI g.dst v):=by
 rcases h with ⟨hn,rfl⟩ | ⟨hp,hv⟩
 ·exact rE hn
 ·rw[nz hp,vQ hs',hv];rfl
theorem VS{A A':ab}{p:Nat→Bool}(ho:∀ n,p n=true→A'.o n=A.o n){x:I}(hx:x.only p=true):cz A' x=cz A x:=by
 cases x <;>simp only[cz]
 rename_i n q
 rw[ho n (by simpa[I.only] using hx)]
mutual
theorem WN{A A':ab}{p:Nat→Bool}(ho:∀ n,p n=true→A'.o n=A.o n):∀ {x:I},x.only p=true→a6 false A' x=a6 false A x
 | .own n k,h=>by simp only[a6];rw[ho n (by simpa[I.only] using h)]
 | .func f caps,h=>by simp only[a6];rw[r3 ho (xs:=caps) (by simpa[I.only] using h)]
 | .agg fs,h=>by simp only[a6];rw[r3 ho (xs:=fs) (by simpa[I.only] using h)]
 | .undef,_ | .c8,_ | .bool _,_ | .int _ _,_ | .cR _,_ | .nilp,_ | .da,_ | .dL,_ | .raw _,_ | .nils _,_ | .c0 _,_ | .slice _ _,_ | .tuple _,_ | .ref _,_ | .iface _ _,_ | .ptr _ _,_ | .view _ _ _ _ _,_ | .mref _,_ | .dg _,_ | .cM _ _,_=>by simp[a6]
theorem r3{A A':ab}{p:Nat→Bool}(ho:∀ n,p n=true→A'.o n=A.o n):∀ {xs:List I},I.bV p xs=true→bY false A' xs=bY false A xs
 | [],_=>rfl
 |x::xs,h=>by
  simp only[I.bV,Bool.and_eq_true] at h
  simp only[bY,WN ho h.1,r3 ho h.2]
end
theorem JM{p:Nat→Bool}{f:aG→I} : ∀ {xs:List aG},(∀ x∈xs,(f x).only p=true)→I.bV p (xs.map f)=true
 | [],_=>rfl
 |x::xs,h=>by
  simp only[List.map_cons,I.bV,Bool.and_eq_true]
  exact ⟨h x (by simp),JM fun y hy=>h y (by simp[hy])⟩
theorem aeh{A A':ab}{p:Nat→Bool}(ho:∀ n,p n=true→A'.o n=A.o n){x:I}(hx:x.only p=true):fZ A' x=fZ A x:=by
 cases x with
 |mref n=>simp only[fZ];rw[ho n (by simpa[I.only] using hx)]
 |raw v=>cases v <;>first | rfl | (rename_i o;cases o <;>rfl)
 |_=>rfl
theorem agm{A A':ab}{op:bZ}{xs:List Nat}{p:Nat→Bool}(hm:m9 op=some xs)(h:dX A A' op.cX)(hx:∀ s∈xs,(A.t s).only p=true)(ho:∀ n,p n=true→A'.o n=A.o n):a8 A' op=a8 A op:=by
 have ib:op.gi=0→a8 A' op=a8 A op:=fun hc=>xA hc h
 have dl:=fun {x:I} (hx:x.only p=true)=>VS ho hx
 unfold m9 at hm
 split at hm
 ·rename_i s x
  simp only[Option.some.injEq] at hm;subst hm
  have e:=h x (by simp[bZ.cX,aG.sl])
  simp only[a8,ae,e,dl (hx x (by simp))]
 ·rename_i f off x
  simp only[Option.some.injEq] at hm;subst hm
  have e:=h x (by simp[bZ.cX,aG.sl])
  have k:=hx x (by simp)
  simp only[a8,ae,e]
  generalize A.t x=u at k ⊢
  cases u with
  |ptr n q=>simp only[dl (x:=.ptr n q) k]
  |ref c=>cases c <;>rfl
  |_=>rfl
 ·rename_i n esz x i
  simp only[Option.some.injEq] at hm;subst hm
  have e:=h x (by simp[bZ.cX,aG.sl])
  have ei:=c6 (x:=i) (fun m hm=>h m (by simp[bZ.cX,hm]))
  have k:=hx x (by simp)
  simp only[a8,ei]
  generalize ae A i=w
  simp only[ae,e]
  generalize A.t x=u at k ⊢
  cases u with
  |ptr n q=>simp only[dl (x:=.ptr n q) k]
  |ref c=>cases c <;>rfl
  |_=>rfl
 ·rename_i esz x i
  simp only[Option.some.injEq] at hm;subst hm
  have e:=h x (by simp[bZ.cX,aG.sl])
  have ei:=c6 (x:=i) (fun m hm=>h m (by simp[bZ.cX,hm]))
  have k:=hx x (by simp)
  simp only[a8,ei]
  generalize ae A i=w
  simp only[ae,e]
  generalize A.t x=u at k ⊢
  cases u with
  |own n l=>simp only[ho n (by simpa[I.only] using k)]
  |view n q=>simp only[dl (x:=.ptr n q) (by simpa[I.only] using k)]
  |_=>rfl
 ·rename_i x
  simp only[Option.some.injEq] at hm;subst hm
  have e:=h x (by simp[bZ.cX,aG.sl])
  have k:=hx x (by simp)
  simp only[a8,ae,e]
  generalize A.t x=u at k ⊢
  cases u with
  |own n l=>simp only[ho n (by simpa[I.only] using k)]
  |_=>rfl
 ·rename_i n esz x
  simp only[Option.some.injEq] at hm;subst hm
  have e:=h x (by simp[bZ.cX,aG.sl])
  have k:=hx x (by simp)
  simp only[a8,ae,e]
  generalize A.t x=u at k ⊢
  cases u with
  |ptr n q=>simp only[dl (x:=.ptr n q) k]
  |ref c=>cases c <;>rfl
  |_=>rfl
 ·rename_i esz x lo hi mx
  simp only[Option.some.injEq] at hm;subst hm
  have e:=h x (by simp[bZ.cX,aG.sl])
  have e1:=oU (x:=lo) (fun m hm=>h m (by simp[bZ.cX,hm]))
  have e2:=oU (x:=hi) (fun m hm=>h m (by simp[bZ.cX,hm]))
  have e3:=oU (x:=mx) (fun m hm=>h m (by simp[bZ.cX,hm]))
  have k:=hx x (by simp)
  simp only[a8,e1,e2,e3]
  generalize lo.map (ae A)=w1
  generalize hi.map (ae A)=w2
  generalize mx.map (ae A)=w3
  simp only[ae,e]
  generalize A.t x=u at k ⊢
  cases u with
  |view n q=>simp only[dl (x:=.ptr n q) (by simpa[I.only] using k)]
  |_=>rfl
 ·rename_i x
  simp only[Option.some.injEq] at hm;subst hm
  have e:=h x (by simp[bZ.cX,aG.sl])
  have k:=hx x (by simp)
  simp only[a8,ae,e]
  generalize A.t x=u at k ⊢
  cases u with
  |view n q=>simp only[dl (x:=.ptr n q) (by simpa[I.only] using k)]
  |_=>rfl
 ·rename_i ty z ok x kk
  simp only[Option.some.injEq] at hm;subst hm
  have e:=h x (by simp[bZ.cX,aG.sl])
  have ek:=c6 (x:=kk) (fun m hm=>h m (by simp[bZ.cX,hm]))
  have k:=hx x (by simp)
  simp only[a8,ek]
  generalize ae A kk=w
  simp only[ae,e,aeh ho k]
 ·rename_i esz ps
  split at hm
  case isFalse=>cases hm
  rename_i hall
  simp only[Option.some.injEq] at hm;subst hm
  have hev:ps.map (ae A')=ps.map (ae A):=lY h
  have hon:I.bV p (ps.map (ae A))=true:=JM fun x hx'=>by
   have h1:=List.all_eq_true.1 hall x hx'
   cases x with
   |c _=>cases h1
   |t s=>exact hx s (by simp only[jI,List.mem_flatMap];exact ⟨_,hx',by simp[aG.sl]⟩)
  simp only[a8,hev,r3 ho hon]
 ·rfl
 ·split at hm
  ·rename_i hc;exact ib hc.1
  ·cases hm
theorem yZ{aC:eO}{A:ab}{g:av}{p:Nat→Bool}(hi:eZ aC A)(h:rF aC g p=true):∃ xs,m9 g.op=some xs∧∀ s∈xs,(A.t s).only p=true:=by
 unfold rF at h
 split at h
 case h_2=>cases h
 rename_i xs hm
 refine ⟨xs,hm,fun s hs' =>?_⟩
 have h1:=List.all_eq_true.1 h s hs'
 split at h1
 case h_2=>cases h1
 rename_i ns hn
 exact iK (fun n h2=>List.all_eq_true.1 h1 n (by simpa using h2)) _ (hi s ns hn)
theorem fU.wE{A A':ab}{g:av}{v:I}{xs:List Nat}{p:Nat→Bool}(h:fU g A v)(hm:m9 g.op=some xs)(ha:dX A A' g.cX)(hx:∀ s∈xs,(A.t s).only p=true)(ho:∀ n,p n=true→A'.o n=A.o n):fU g A' v:=by
 rcases h with ⟨h,rfl⟩ | ⟨h,k⟩
 ·exact .inl ⟨pw ha h,rfl⟩
 ·exact .inr ⟨nf ha h,by rw[agm hm (av.j4 ha) hx ho];exact k⟩
theorem fU.sq{aC:eO}{A:ab}{g:av}{v:I}(hi:eZ aC A)(hg:ji aC g=true)(h:fU g A v):eZ aC (A.aI g.dst v):=by
 rcases h with ⟨_,rfl⟩ | ⟨_,k⟩
 ·exact hi.put (fun _=>rfl) fun _ _ _ _=>rfl
 ·exact hi.put (fun _=>rfl) (Ju hi hg k)
theorem fU.cG{A A':ab}{g:av}{v:I}(h:fU g A v)(hu:ec A A')(ha:dX A A' g.cX):fU g A' v:=by
 rcases h with ⟨h,rfl⟩ | ⟨h,k⟩
 ·exact .inl ⟨pw ha h,rfl⟩
 ·exact .inr ⟨nf ha h,J4 hu (av.j4 ha) k⟩
theorem Iu{aC:eO}{g h:av}(hi:nO hs aC g h=true):iS g.op=true∧nZ hs aC g h=true∧(∀ d,g.dst=some d→d∉h.cX)∧(∀ d,g.dst=some d→h.dst≠some d)∧(∀ d,h.dst=some d→d∉g.cX):=by
 simp only[nO,Bool.and_eq_true] at hi
 obtain ⟨h1,h2,h3,h4⟩:=hi
 refine ⟨h1,h2,fun d hd =>?_,fun d hd =>?_,fun d hd =>?_⟩
 ·rw[hd] at h3;simp at h3;exact h3.1
 ·rw[hd] at h3;simp at h3;exact h3.2
 ·rw[hd] at h4;simpa using h4
theorem y8{aw:Bool}{A A':ab}{ρ:List (Nat×Nat)}{os:List (Nat×ah)}(hu:ec A A'):∀ {xs cs:List I},iX aw A ρ os xs cs→iX aw A' ρ os xs cs
 | [],[],_=>trivial
 |x::xs,c::cs,h=>⟨h.1.imp id fun h=>Ci hu h,y8 hu h.2⟩
 | [],_::_,h=>h.elim
 |_::_,[],h=>h.elim
theorem aet{A:ab}{d:Option Nat}{v:I}{ts:List (Nat×I)}{os:List (Nat×ah)}(h:A.aI d v=au ts os):∃ ts2,A=au ts2 os∧∀ X:List (Nat×ah),(au ts2 X).aI d v=au ts X:=by
 cases d with
 |none=>exact ⟨ts,h,fun _=>rfl⟩
 |some d =>
  have ht:∀ k,(A.aI (some d) v).t k=cj ts k:=fun k=>by rw[h];rfl
  have ho:A.o=aj os:=by
   have:(A.aI (some d) v).o=aj os:=by rw[h];rfl
   rwa [im] at this
  refine ⟨(d,A.t d)::ts,?_,fun X =>?_⟩
  ·cases A with
   |mk t o =>
    simp only[au,ab.mk.injEq]
    refine ⟨funext fun k =>?_,ho⟩
    have:=ht k
    simp only[ab.aI,ab.put] at this
    simp only[cj]
    by_cases hk:k=d
    ·subst hk;simp
    ·rw[if_neg hk] at this
     have hk':¬ d=k:=fun e=>hk e.symm
     simp only[hk,if_false]
     exact this
  ·simp only[ab.aI,ab.put,au,ab.mk.injEq,and_true]
   funext k
   have:=ht k
   simp only[ab.aI,ab.put] at this
   by_cases hk:k=d
   ·subst hk;simp at this ⊢;exact this
   ·have hk':¬ d=k:=fun e=>hk e.symm
    simp only[cj,hk,if_false]
theorem agk{ρ:List (Nat×Nat)}{os0 os':List (Nat×ah)}{r:I}(hb:er false ρ [] os0 r os'){n:Nat}{x:ah}(hx:aj os0 n=some x):aj (dI ρ os'++os0) n=some x:=by
 rw[qz]
 cases hp:pre ρ os' n with
 |none=>exact hx
 |some m =>
  obtain ⟨h1,h2⟩:=lD hp
  have:=(hb.po m h1 (by simp[al,aj])).1
  rw[h2,hx] at this
  cases this
theorem cB.Ri{A B:ab}{j:av}{v:I}{f:FuncId}{args:List aG}{dst:Option Nat}{rest:List av}(hj:iS j.op=true)(hv:fU j A v)(hB:B=A.aI j.dst v)(hf:hs.contains f=false)(hag:dX A B (jI args))(hd:∀ d,j.dst=some d→dst≠some d)(hr:∀ d,dst=some d→d∉j.cX)
  (h:cB P hs K (.call f (args.map (ae B)) (bY true B (args.map (ae B))) (bY false B (args.map (ae B))) dst rest B)):cB P hs K (.call f (args.map (ae A)) (bY true A (args.map (ae A))) (bY false A (args.map (ae A))) dst (j::rest) A):=by
 have eo:B.o=A.o:=by rw[hB,im]
 have cG:ec B A:=fun n x hx=>by rwa [←eo]
 have up':ec A B:=fun n x hx=>by rwa [eo]
 have eav:args.map (ae B)=args.map (ae A):=lY hag
 rw[eav] at h
 have cont:∀ r:I,cB P hs K (az rest (B.aI dst r))→cB P hs K (az (j::rest) (A.aI dst r)):=fun r hw=>by
  have h1:fU j (A.aI dst r) v:=hv.cG (fun n x hx=>by rwa [im]) (mi hr)
  rw[h1.to hj,pE (fun d hd'=>fun e=>hd d e hd'),←hB]
  exact hw
 generalize e1:bY true B (args.map (ae A))=a1 at h
 generalize e2:bY false B (args.map (ae A))=a2 at h
 generalize hBm:B=B0 at h
 cases h with
 |flat r hc hfl hw =>
  subst hBm
  rw[lj cG e1]
  exact .flat r hc hfl (cont r hw)
 |lead r hc hw =>
  subst hBm
  rw[lj cG e2]
  exact .lead r hc (cont r hw)
 |bR ρ cargs post hc hg ha hb hw =>
  rename_i ts os0
  rw[hB] at hBm
  obtain ⟨ts2,hA,hts⟩:=aet hBm
  have hA':=hA
  clear cont
  subst hA
  refine .bR ρ cargs post hc hg (y8 (A:=au ts os0) (A':=au ts2 os0) (fun n x hx=>hx) ha) hb fun r os' hp =>?_
  have h1:fU j ((au ts2 (dI ρ os'++os0)).aI dst (r.aK (bA ρ))) v:=hv.cG (fun n x hx=>by
   rw[im]
   exact agk (hb r os' hp) hx) (fun k hk=>by
    have:=mi (A:=au ts2 (dI ρ os'++os0)) (v:=r.aK (bA ρ)) hr k hk
    rw[this];rfl)
  rw[h1.to hj,pE (fun d hd'=>fun e=>hd d e hd'),hts]
  exact hw r os' hp
 |xb aw ρ os cargs post hfs =>
  rw[hf] at hfs;cases hfs
theorem cB.swap{aC:eO}{A:ab}{j g:av}{rest:List av}(hinv:eZ aC A)(hi:nO hs aC j g=true)(hw:cB P hs K (az (j::g::rest) A)):cB P hs K (az (g::j::rest) A):=by
 obtain ⟨hj,hl,i1,i2,i3⟩:=Iu hi
 obtain ⟨v,hv,hw⟩:=cB.x5 hj hw
 have ag:dX (A.aI j.dst v) A g.cX:=(mi i1).symm
 have ag':dX A (A.aI j.dst v) g.cX:=mi i1
 have cG:ec (A.aI j.dst v) A:=fun n x hx=>by rwa [im] at hx
 have up':∀ (d:Option Nat) (u:I),ec A (A.aI d u):=fun d u n x hx=>by rwa [im]
 by_cases hsg:iS g.op=true
 ·obtain ⟨u,hu,hw⟩:=cB.x5 hsg hw
  rw[(hu.cG cG ag).to hsg,(hv.cG (up' _ _) (mi i3)).to hj,←pE i2]
  exact hw
 ·-- the guard
  have guard:(ga (A.aI j.dst v) g∧az (g::rest) (A.aI j.dst v)=az rest ((A.aI j.dst v).aI g.dst .undef))∨(pass (A.aI j.dst v) g∧az (g::rest) (A.aI j.dst v)=aY (A.aI j.dst v) g.dst g.op rest (az rest))∨az (g::rest) (A.aI j.dst v)=.fail:=by
   cases hg:g.guard with
   |none=>exact .inr (.inl ⟨by simp only[pass,hg],by simp only[az,hg]⟩)
   |some tb =>
    obtain ⟨t,b⟩:=tb
    cases ht:(A.aI j.dst v).t t with
    |bool b' =>
     by_cases hbb:b'=b
     ·subst hbb
      have hp:pass (A.aI j.dst v) g:=by simp only[pass,hg,ht]
      exact .inr (.inl ⟨hp,nz hp⟩)
     ·have hn:ga (A.aI j.dst v) g:=by simp only[ga,hg];exact .inl (by rw[ht,uh hbb])
      exact .inl ⟨hn,rE hn⟩
    |undef =>
     have hn:ga (A.aI j.dst v) g:=by simp only[ga,hg];exact .inr ht
     exact .inl ⟨hn,rE hn⟩
    |_=>exact .inr (.inr (by simp only[az,hg,ht]))
  rcases guard with ⟨hn,he⟩ | ⟨hp,he⟩ | he
  ·rw[he] at hw
   rw[rE (pw ag hn),(hv.cG (up' _ _) (mi i3)).to hj,←pE i2]
   exact hw
  ·rw[he] at hw
   rw[nz (nf ag hp)]
   obtain ⟨dst,op,gd⟩:=g
   simp only at hw hsg i2 i3 ⊢
   cases op with
   |alloc z =>
    cases dst with
    |none=>simp only[aY] at hw;cases hw
    |some d =>
    simp only[aY] at hw ⊢
    split at hw
    case h_2=>cases hw
    rename_i ho
    rw[im] at ho
    simp only[ho]
    have h1:fU j ((A.aL d (.box z)).put d (.ptr d [])) v:=hv.cG (fun n y hy=>by
     have:n≠d:=fun he=>by rw[he,ho] at hy;cases hy
     simp only[ab.put,ab.aL,this,if_false];exact hy) (fun k hk=>by
     have:k≠d:=fun he=>i3 d rfl (he▸hk)
     simp only[ab.put,ab.aL,this,if_false])
    rw[h1.to hj]
    have e:((A.aI j.dst v).aL d (.box z)).put d (.ptr d [])=((A.aL d (.box z)).put d (.ptr d [])).aI j.dst v:=by
     cases hgd:j.dst with
     |none=>rfl
     |some e =>
      have hne:e≠d:=fun he=>i2 e hgd (by rw[he])
      simp only[ab.aI,ab.put,ab.aL,ab.mk.injEq,and_true]
      funext k
      by_cases h1:k=e <;>by_cases h2:k=d <;>simp_all
    rw[←e];exact hw
   |box x =>
    have ex:ae (A.aI j.dst v) x=ae A x:=c6 (av.j4 ag')
    cases dst with
    |none=>simp only[aY] at hw;cases hw
    |some d =>
    simp only[aY] at hw ⊢
    split at hw
    case h_2=>cases hw
    rename_i ho
    rw[im] at ho
    simp only[ho]
    rw[ex] at hw
    split at hw
    case isFalse=>cases hw
    rename_i hval
    rw[if_pos hval]
    have h1:fU j ((A.aL d (.box (ae A x))).put d (.ptr d [])) v:=hv.cG (fun n y hy=>by
     have:n≠d:=fun he=>by rw[he,ho] at hy;cases hy
     simp only[ab.put,ab.aL,this,if_false];exact hy) (fun k hk=>by
     have:k≠d:=fun he=>i3 d rfl (he▸hk)
     simp only[ab.put,ab.aL,this,if_false])
    rw[h1.to hj]
    have e:((A.aI j.dst v).aL d (.box (ae A x))).put d (.ptr d [])=((A.aL d (.box (ae A x))).put d (.ptr d [])).aI j.dst v:=by
     cases hgd:j.dst with
     |none=>rfl
     |some e =>
      have hne:e≠d:=fun he=>i2 e hgd (by rw[he])
      simp only[ab.aI,ab.put,ab.aL,ab.mk.injEq,and_true]
      funext k
      by_cases h1:k=e <;>by_cases h2:k=d <;>simp_all
    rw[←e];exact hw
   |call f args =>
    simp only[aY] at hw ⊢
    refine cB.Ri hj hv rfl (by simpa[nZ,o9] using hl) (av.j4 ag') i2 i3 hw
   |br s y u =>
    cases dst with
    |some d=>simp only[aY] at hw;cases hw
    |none =>
    have ey:ae (A.aI j.dst v) y=ae A y:=c6 (av.j4 ag').l
    have eu:ae (A.aI j.dst v) u=ae A u:=c6 (av.j4 ag').r
    simp only[aY] at hw ⊢
    rw[ey,eu,im] at hw
    cases hx:ae A y <;>simp only[hx] at hw ⊢ <;>try (cases hw;done)
    rename_i n q
    cases ho:A.o n with
    |none=>rw[ho] at hw;cases hw
    |some ob =>
    rw[ho] at hw
    cases ob <;>simp only at hw ⊢ <;>try (cases hw;done)
    rename_i b
    cases hb:b.at q with
    |none=>rw[hb] at hw;cases hw
    |some old =>
    rw[hb] at hw
    simp only at hw ⊢
    split at hw
    case isFalse=>cases hw
    rename_i hok
    rw[if_pos hok]
    have h1:fU j (A.aL n (.box (b.dx q (ae A u)))) v:=by
     have none0:m9 j.op=some []→fU j (A.aL n (.box (b.dx q (ae A u)))) v:=fun hm=>hv.wE (p:=fun _=>false) hm (fun _ _=>rfl) (fun s hs'=>by cases hs') (fun m hm=>by cases hm)
     cases y with
     |c y =>
      simp only[nZ,o9,iS,Bool.false_or] at hl
      split at hl
      ·rename_i hm;exact none0 hm
      ·cases hl
     |t y =>
      simp only[nZ,o9,iS,Bool.false_or] at hl
      split at hl
      ·rename_i hm;exact none0 hm
      ·split at hl
       case h_2=>cases hl
       rename_i ms hms
       obtain ⟨xs,hm,hx2⟩:=yZ hinv hl
       refine hv.wE hm (fun _ _=>rfl) hx2 fun m hm2 =>?_
       have hn:=hinv y ms hms
       simp only[ae] at hx
       rw[hx] at hn
       have:m≠n:=fun e=>by subst e;simp[I.only] at hn hm2;exact hm2 hn
       simp only[ab.aL,if_neg this]
    rw[h1.to hj]
    have e:(A.aI j.dst v).aL n (.box (b.dx q (ae A u)))=(A.aL n (.box (b.dx q (ae A u)))).aI j.dst v:=by cases j.dst <;>rfl
    rw[←e];exact hw
   |dF e esz bytes z s x =>
    have hag:dX A (A.aI j.dst v) (s.sl++x.sl):=av.j4 ag'
    have he2:aY (A.aI j.dst v) dst (.dF e esz bytes z s x) rest (az rest)=aY A dst (.dF e esz bytes z s x) (j::rest) fun B=>az rest (B.aI j.dst v):=by
     cases hjd:j.dst with
     |none=>rfl
     |some d =>
      rw[hjd] at hag
      exact OT (fun e=>i2 d hjd e) hag rest (j::rest) (az rest)
    rw[he2] at hw
    have jT:∀ B,ry A dst (ae A s) B→az (j::rest) B=az rest (B.aI j.dst v):=fun B hB=>by
     have hagB:dX A B j.cX:=fun k hk=>hB.1 k fun e=>i3 k e hk
     have:fU j B v:=by
      simp only[nZ,o9,iS,Bool.false_or,Bool.or_eq_true] at hl
      rcases hl with hl | hl
      ·obtain ⟨xs,hm,hx2⟩:=yZ hinv hl
       exact hv.wE hm hagB hx2 fun m hm2=>by cases hm2
      ·have:=qY hinv hl
       exact hv.cG (hB.2 (by simpa using this)) hagB
     rw[this.to hj]
    rcases y5 A dst e esz bytes z s x (j::rest) with h1 | ⟨B,h1,h2⟩ | ⟨p,bn,h1,h2⟩
    ·rw[h1] at hw;cases hw
    ·rw[h1] at hw ⊢;rw[jT B h2];exact hw
    ·rw[h1] at hw ⊢
     exact .any fun m hm=>by rw[jT _ (h2 m)];exact hw.yX m hm
   |_=>first | exact absurd rfl hsg | (simp[nZ,o9,iS] at hl)
  ·rw[he] at hw;cases hw
theorem cB.pZ{aC:eO}{g:av} : ∀ {l:List av} {r:List av} {A:ab},eZ aC A→(∀ j∈l,nO hs aC j g=true∧ji aC j=true)→cB P hs K (az (l++g::r) A)→cB P hs K (az (g::(l++r)) A)
 | [],r,A,_,_,h=>h
 |j::l,r,A,hinv,hi,h=>by
  have hj:=(Iu (hi j (by simp)).1).1
  obtain ⟨v,hv,h2⟩:=cB.x5 (g:=j) (rest:=l++g::r) hj h
  have h3:=cB.pZ (l:=l) (r:=r) (hv.sq hinv (hi j (by simp)).2) (fun k hk=>hi k (by simp[hk])) h2
  refine cB.swap hinv (hi j (by simp)).1 ?_
  rw[hv.to hj];exact h3
end
def sQ:List Nat→Bool
 | []=>true
 |a::l => !l.contains a&&sQ l
def rD(hs:List FuncId)(aC:eO)(gs:List av)(cl:List Nat):List Nat→List Nat→Bool
 |_,[]=>true
 |before,i::σ=>(before.all fun j=>(cl.getD i 0).testBit j||nO hs aC (gs.getD j default) (gs.getD i default))&&rD hs aC gs cl (i::before) σ
def s7(hs:List FuncId)(aC:eO)(on:List (List Nat))(gs:List av)(cl:List Nat)(σ:List Nat):Bool :=
 (Nat.beq σ.length gs.length&&(sQ σ&&(σ.all (fun i=>decide (i<gs.length))&&((List.range gs.length).all (fun i=>σ.contains i)&&gs.all fun g=>sV g.op&&ji aC g))))&&(rD hs aC gs cl [] σ&&(List.range gs.length).all fun i=>(on.getD i []).all (fun k=>decide (k<i))&&Nat.beq (cl.getD i 0) (oz cl (on.getD i [])))
theorem Ji:∀ {l:List Nat},sQ l=true→l.Nodup
 | [],_=>List.nodup_nil
 |a::l,h=>by
  simp only[sQ,Bool.and_eq_true,Bool.not_eq_true',List.contains_eq_mem,decide_eq_false_iff_not] at h
  exact List.nodup_cons.2 ⟨h.1,Ji h.2⟩
theorem yV{hs:List FuncId}{aC:eO}{gs:List av}{cl:List Nat} : ∀ {σ before:List Nat},rD hs aC gs cl before σ=true→∀ s1 i s2,σ=s1++i::s2→∀ j,j∈before∨j∈s1→(cl.getD i 0).testBit j=true∨nO hs aC (gs.getD j default) (gs.getD i default)=true
 | [],_,_,s1,i,s2,e,_,_=>by cases s1 <;>cases e
 |a::σ,before,h,s1,i,s2,e,j,hj=>by
  simp only[rD,Bool.and_eq_true,List.all_eq_true,Bool.or_eq_true] at h
  cases s1 with
  |nil =>
   simp only[List.nil_append,List.cons.injEq] at e
   obtain ⟨rfl,rfl⟩:=e
   rcases hj with hj | hj
   ·exact h.1 j hj
   ·cases hj
  |cons b s1 =>
   simp only[List.cons_append,List.cons.injEq] at e
   obtain ⟨rfl,rfl⟩:=e
   refine yV h.2 s1 i s2 rfl j ?_
   rcases hj with hj | hj
   ·exact .inl (List.mem_cons_of_mem _ hj)
   ·rcases List.mem_cons.1 hj with hj | hj
    ·exact .inl (by rw[hj];exact List.mem_cons_self)
    ·exact .inr hj
def iN(σ:List Nat)(listed:Array Bool):List Nat:=σ.filter fun i => !listed.getD i true
def oa(gs:List av)(σ:List Nat)(listed:Array Bool):List av:=(iN σ listed).map fun i=>gs.getD i default
theorem agE{σ:List Nat}{listed:Array Bool}{i:Nat}(hn:σ.Nodup)(hi:i∈σ)(hl:i<listed.size)(hu:listed.getD i true=false):∃ s1 s2,σ=s1++i::s2∧iN σ listed=(s1.filter fun j => !listed.getD j true)++i::(s2.filter fun j => !listed.getD j true) ∧
  iN σ (listed.setIfInBounds i true)=(s1.filter fun j => !listed.getD j true)++(s2.filter fun j => !listed.getD j true):=by
 obtain ⟨s1,s2,rfl⟩:=List.append_of_mem hi
 have same:∀ j,j≠i→(listed.setIfInBounds i true).getD j true=listed.getD j true:=fun j hj=>getD_set_ne true (Ne.symm hj)
 have hit:(listed.setIfInBounds i true).getD i true=true:=by simp[hl]
 have hnd:=List.nodup_append.1 hn
 have h1:∀ j∈s1,j≠i:=fun j hj=>hnd.2.2 j hj i List.mem_cons_self
 have h2:∀ j∈s2,j≠i:=fun j hj e=>(List.nodup_cons.1 hnd.2.1).1 (e▸hj)
 refine ⟨s1,s2,rfl,?_,?_⟩
 ·simp only[iN,List.filter_append,List.filter_cons,hu,Bool.not_false,if_true]
 ·simp only[iN,List.filter_append,List.filter_cons,hit,Bool.not_true,Bool.false_eq_true,if_false]
  congr 1
  ·exact List.filter_congr fun j hj=>by rw[same j (h1 j hj)]
  ·exact List.filter_congr fun j hj=>by rw[same j (h2 j hj)]
structure yO (hs:List FuncId) (aC:eO) (l:List Oper) (gs:List av) (σ:List Nat):Prop where
 aeM:σ.Nodup
 lt:∀ i∈σ,i<gs.length
 all:∀ i,i<gs.length→i∈σ
 ok:∀ g∈gs,sV g.op=true∧ji aC g=true
 len:σ.length=gs.length
 oL:∀ i o,l[i]?=some o→∀ k∈ej o,k<i
 wc:∀ (S:Nat→Prop),(∀ i o,l[i]?=some o→S i→∀ k∈ej o,S k)→∀ s1 i s2 o,σ=s1++i::s2→l[i]?=some o→(∀ k∈ej o,S k)→∀ j∈s1,¬ S j→nO hs aC (gs.getD j default) (gs.getD i default)=true
theorem agf{hs:List FuncId}{aC:eO}{l:List Oper}{gs:List av}{cl σ:List Nat}(hlen:gs.length=l.length)(h:s7 hs aC (l.map ej) gs cl σ=true):yO hs aC l gs σ:=by
 simp only[s7,Bool.and_eq_true,List.all_eq_true,decide_eq_true_eq,List.mem_range,List.contains_eq_mem] at h
 obtain ⟨⟨h1,h2,h3,h4,h5⟩,h6,h7⟩:=h
 have bL:∀ i o,l[i]?=some o→(∀ k∈ej o,k<i)∧(∀ j,(cl.getD i 0).testBit j=true→j∈ej o∨∃ k∈ej o,(cl.getD k 0).testBit j=true):=by
  intro i o ho
  have hi:i<l.length:=(List.getElem?_eq_some_iff.1 ho).1
  have h8:=h7 i (by omega)
  have hon:(l.map ej).getD i []=ej o:=by simp[List.getD_eq_getElem?_getD,ho]
  rw[hon] at h8
  have hb:=Nat.eq_of_beq_eq_true h8.2
  exact ⟨h8.1,fun j hj=>yg (by rw[←hb];exact hj)⟩
 refine ⟨Ji h2,h3,h4,h5,Nat.eq_of_beq_eq_true h1,fun i o ho=>(bL i o ho).1,?_⟩
 intro S hS s1 i s2 o e ho hon j hj hnj
 have key:∀ n i o,i≤n→l[i]?=some o→(∀ k∈ej o,S k)→∀ j,(cl.getD i 0).testBit j=true→S j:=by
  intro n
  induction n with
  |zero =>
   intro i o hi ho hon j hj
   obtain ⟨h8,h9⟩:=bL i o ho
   rcases h9 j hj with h | ⟨k,hk,_⟩
   ·exact hon j h
   ·have:=h8 k hk;omega
  |succ n ih =>
   intro i o hi ho hon j hj
   obtain ⟨h8,h9⟩:=bL i o ho
   rcases h9 j hj with h | ⟨k,hk,hjk⟩
   ·exact hon j h
   ·have hki:=h8 k hk
    have hkl:k<l.length:=Nat.lt_trans hki (List.getElem?_eq_some_iff.1 ho).1
    obtain ⟨ok,hok⟩:∃ ok,l[k]?=some ok:=⟨l[k],List.getElem?_eq_getElem hkl⟩
    exact ih k ok (by omega) hok (hS k ok hok (hon k hk)) j hjk
 rcases yV h6 s1 i s2 e j (.inr hj) with h | h
 ·exact absurd (key i i o (Nat.le_refl _) ho hon j h) hnj
 ·exact h
section
variable {c:cK}
theorem acB{K:ab→Prop}{hs:List FuncId}{aC:eO}{bQ:Array Oper}{Q:Exit→Act→World→Prop}{o:Oper}{g:av}{rest:List av}{A:ab}{a:Act}{w:World}{Kw:Act→World→Prop}(hg:oN c.P c.n bQ o=some g)(hi:eZ aC A)(ho:sV g.op=true∧ji aC g=true)(hwp:cB c.P hs K (az (g::rest) A))(hs':ct c A a w)
  (hK:∀ B a' w',cB c.P hs K (az rest B)→eZ aC B→ct c B a' w'→Kw a' w'):if Region.wanted o (yielded bQ a.tmps) then o.wpIn c.bn 9 c.P a w Kw Q else (∀ f,o.about c.P w a.eval=some f→c.bn.fn f)∧Kw (a.put o.dst undef) w:=by
 obtain ⟨h1,h2,h3,h4⟩:=uo hg
 have step:cB c.P hs K (aY A g.dst g.op rest (az rest))→o.wpIn c.bn 9 c.P a w Kw Q:=fun h =>
  vR h1 h2.symm (by rw[h2];exact h3) (cB.one (Y:=c.Y) hi ho.1 ho.2 h) hs' (fun B a' w' hw hs2=>by
   cases hw with
   |done hk=>exact hK B a' w' hk.1 hk.2 hs2)
 simp only[az] at hwp
 rcases h4 with ⟨h5,h6⟩ | ⟨j,b,t,h5,h6,h7⟩
 ·rw[h6] at hwp
  have hw:Region.wanted o (yielded bQ a.tmps)=true:=by simp[Region.wanted,h5]
  rw[hw,if_pos rfl]
  exact step hwp
 ·rw[h7] at hwp
  simp only at hwp
  split at hwp
  ·rename_i b' hb'
   rw[vY hs' h5 h6 hb']
   split at hwp
   ·rename_i hbb
    subst hbb
    simp only[BEq.rfl,if_true]
    exact step hwp
   ·rename_i hbb
    have:(b'==b)=false:=by simpa using hbb
    rw[this]
    simp only[Bool.false_eq_true,if_false]
    exact ⟨fun f _=>nI c f,hK _ _ _ hwp (hi.put (fun _=>rfl) fun _ _ _ _=>rfl) (by rw[h2];exact hs'.pD h3)⟩
  ·rename_i hb'
   rw[vZ hs' h5 h6 hb']
   simp only[Bool.false_eq_true,if_false]
   exact ⟨fun f _=>nI c f,hK _ _ _ hwp (hi.put (fun _=>rfl) fun _ _ _ _=>rfl) (by rw[h2];exact hs'.pD h3)⟩
  ·cases hwp
theorem OL{K:ab→Prop}{fs:List FuncId}{aC:eO}{bQ:Array Oper}{gs:List av}{σ:List Nat}{Q:Exit→Act→World→Prop}(hQ:∀ B a w,K B→ct c B a w→Q .normal a w)(hgs:kh c.P c.n bQ bQ.toList=some gs)(hd:yO fs aC bQ.toList gs σ) :
  ∀ (fuel:Nat) (listed:Array Bool) (A:ab) (a:Act) (w:World),listed.size=bQ.size→(∀ i o,bQ.toList[i]?=some o→listed.getD i false=true→∀ k∈ej o,listed.getD k false=true)→(iN σ listed).length≤fuel →
   eZ aC A→cB c.P fs K (az (oa gs σ listed) A)→ct c A a w→wpAnyIn c.bn 9 c.P .any bQ Q fuel listed a w:=by
 obtain ⟨hlen,hat⟩:=mK hgs
 have onOf_mem:∀ (o:Oper) (e:Edge),e∈o.after→Region.binds .any e=true→e.on∈ej o:=fun o e he hb=>by
  simp only[ej,List.mem_map,List.mem_filter]
  exact ⟨e,⟨by simpa using he,hb⟩,rfl⟩
 have of_onOf:∀ (o:Oper) (k:Nat),k∈ej o→∃ e∈o.after,Region.binds .any e=true∧e.on=k:=fun o k hk=>by
  simp only[ej,List.mem_map,List.mem_filter] at hk
  obtain ⟨e,⟨h1,h2⟩,h3⟩:=hk
  exact ⟨e,by simpa using h1,h2,h3⟩
 have hgl:gs.length=bQ.size:=by rw[hlen,Array.length_toList]
 have last:∀ (listed:Array Bool) (A:ab) (a:Act) (w:World),listed.size=bQ.size→Region.ready .any bQ listed=[]→cB c.P fs K (az (oa gs σ listed) A)→ct c A a w→Q .normal a w:=by
  intro listed A a w hsz hr hwp hs
  have hnone:iN σ listed=[]:=by
   have all:∀ n,∀ i,i<n→i<bQ.size→listed.getD i true=true:=by
    intro n
    induction n with
    |zero=>intro i hi;omega
    |succ n ih =>
     intro i hi his
     cases hb:listed.getD i true with
     |true=>rfl
     |false =>
      exfalso
      have ho:bQ[i]?=some bQ[i]:=Array.getElem?_eq_getElem his
      have:i∈Region.ready .any bQ listed:=mem_ready.2 ⟨hb,bQ[i],ho,fun e he hbd=>by
       have hlt:=hd.oL i bQ[i] (by simp) e.on (onOf_mem _ e he hbd)
       have h1:=ih e.on (by omega) (by omega)
       have h2:e.on<listed.size:=by omega
       simpa[Array.getD_eq_getD_getElem?,h2] using h1⟩
      rw[hr] at this
      cases this
   simp only[iN]
   refine List.filter_eq_nil_iff.2 fun i hi =>?_
   have:=all (i+1) i (by omega) (by rw[←hgl];exact hd.lt i hi)
   simp only[this,Bool.not_true,Bool.false_eq_true,not_false_eq_true]
  simp only[oa,hnone,List.map_nil,az] at hwp
  cases hwp with
  |done hk=>exact hQ A a w hk hs
 intro fuel
 induction fuel with
 |zero =>
  intro listed A a w hsz hcl hcnt hinv hwp hs
  have hnone:iN σ listed=[]:=List.length_eq_zero_iff.1 (by omega)
  have hr:Region.ready .any bQ listed=[]:=by
   refine List.eq_nil_iff_forall_not_mem.2 fun i hi =>?_
   obtain ⟨h1,o,ho,_⟩:=mem_ready.1 hi
   have:i∈iN σ listed:=by
    simp only[iN,List.mem_filter,h1,Bool.not_false,and_true]
    exact hd.all i (by rw[hgl];exact (Array.getElem?_eq_some_iff.1 ho).1)
   rw[hnone] at this
   cases this
  exact ⟨hr,last listed A a w hsz hr hwp hs⟩
 |succ fuel ih =>
  intro listed A a w hsz hcl hcnt hinv hwp hs
  refine ⟨fun hr=>last listed A a w hsz hr hwp hs,fun i hi =>?_⟩
  obtain ⟨hun,o,ho,hall⟩:=mem_ready.1 hi
  have hin:i<bQ.size:=(Array.getElem?_eq_some_iff.1 ho).1
  obtain ⟨s1,s2,hσ,e1,e2⟩:=agE hd.aeM (hd.all i (by omega)) (by omega) hun
  have hol:bQ.toList[i]?=some o:=by simpa using ho
  obtain ⟨g,hgi,hcg⟩:=hat i o hol
  have hon:∀ k∈ej o,listed.getD k false=true:=fun k hk=>by
   obtain ⟨e,h1,h2,h3⟩:=of_onOf o k hk
   exact h3▸hall e h1 h2
  have hgd:gs.getD i default=g:=by simp[List.getD_eq_getElem?_getD,hgi]
  have hwp':cB c.P fs K (az (g::oa gs σ (listed.setIfInBounds i true)) A):=by
   simp only[oa,e1,List.map_append,List.map_cons,hgd] at hwp
   simp only[oa,e2,List.map_append]
   refine cB.pZ hinv (fun j hj =>?_) hwp
   obtain ⟨k,hk,rfl⟩:=List.mem_map.1 hj
   obtain ⟨hk1,hk2⟩:=List.mem_filter.1 hk
   have:=hd.wc (fun k=>listed.getD k false=true) hcl s1 i s2 o hσ hol hon k hk1 (by
    have hks:k<listed.size:=by
     have:=hd.lt k (by rw[hσ];exact List.mem_append_left _ hk1)
     omega
    simp[Array.getD_eq_getD_getElem?,hks] at hk2 ⊢
    exact hk2)
   rw[hgd] at this
   refine ⟨this,(hd.ok _ ?_).2⟩
   have hkl:=hd.lt k (by rw[hσ];exact List.mem_append_left _ hk1)
   rw[List.getD_eq_getElem?_getD,List.getElem?_eq_getElem hkl]
   exact List.getElem_mem _
  unfold wpOpIn
  rw[ho]
  refine acB hcg hinv (hd.ok g (List.mem_of_getElem? hgi)) hwp' hs fun B a' w' hw hiB hs'=>ih _ B a' w' (by simpa using hsz) ?_ ?_ hiB hw hs'
  ·intro m om hom hm k hk
   by_cases hmi:m=i
   ·subst hmi
    rw[hol,Option.some.injEq] at hom
    subst hom
    exact getD_set_true (hon k hk)
   ·rw[getD_set_ne false (Ne.symm hmi)] at hm
    exact getD_set_true (hcl m om hom hm k hk)
  ·have:(iN σ listed).length=(iN σ (listed.setIfInBounds i true)).length+1:=by
    rw[e1,e2];simp;omega
   omega
def pC(σ:List Nat)(gs:List av):List av:=σ.map fun i=>gs.getD i default
theorem U.agB{Q:Exit→ab→Prop}{A:ab}{on:List (List Nat)}{gs:List av}(hs:List FuncId)(aC:eO)(cl σ:List Nat)(hd:s7 hs aC on gs cl σ=true)(hi:eZ aC A)(h:∀ K:ab→Prop,(∀ B,Q .normal B→K B)→cB c.P hs K (az (pC σ gs) A)):U c (.ca (some on) gs) Q A:=by
 intro code hc a w hs'
 cases code <;>simp only[e9] at hc <;>try (first | (cases hc;done) | ((repeat' split at hc) <;>cases hc;done))
 rename_i id bQ draw
 split at hc
 ·rename_i gs' hgs
  split at hc
  case isFalse=>cases hc
  rename_i hok
  simp only[Option.some.injEq,aP.ca.injEq] at hc
  obtain ⟨he,rfl⟩:=hc
  cases draw with
  |false=>cases he
  |true =>
   simp only[cond_true,Option.some.injEq] at he
   subst he
   simp only[Bool.not_true,Bool.false_or] at hok
   have hp:=agf (mK hgs).1 hd
   refine wpIn_region_any hok (OL (K:=Q .normal) (fun B a w hk hs=>⟨B,hk,hs⟩) hgs hp bQ.size (Array.replicate bQ.size false) A a _ (by simp) ?_ ?_ hi ?_ ?_)
   ·intro i o _ h
    exfalso
    simp only[Array.getD_eq_getD_getElem?,Array.getElem?_replicate] at h
    split at h <;>simp at h
   ·refine Nat.le_trans (List.length_filter_le _ _) ?_
    rw[hp.len,(mK hgs).1,Array.length_toList];exact Nat.le_refl _
   ·have hall:iN σ (Array.replicate bQ.size false)=σ:=by
     simp only[iN]
     refine List.filter_eq_self.2 fun i hi =>?_
     have h1:=hp.lt i hi
     rw[(mK hgs).1,Array.length_toList] at h1
     simp[h1]
    simp only[oa,hall]
    exact h _ fun _ hb=>hb
   ·obtain ⟨D,E,hs'⟩:=hs'
    exact ⟨D,E,hs'.grow (w' := { w with drawn:=w.drawn+1 }) ⟨rfl,rfl,rfl,Nat.le_refl _,fun _ _=>rfl⟩ (fun _ _ h=>h) (fun _ _ h _=>h) (fun b o h=>hs'.c9 b o h)⟩
 ·cases hc
def o6(ts:List (Nat×I)):eO→Prop
 | []=>True
 |(s,ns)::aC=>(cj ts s).only (fun n=>ns.contains n)=true∧o6 ts aC
theorem eZ.of{ts:List (Nat×I)}{os:List (Nat×ah)}{aC:eO}(h:o6 ts aC):eZ aC (au ts os):=by
 intro s ns hn
 simp only[au]
 induction aC with
 |nil=>cases hn
 |cons q aC ih =>
  obtain ⟨s',ns'⟩:=q
  simp only[o6] at h
  simp only[je,List.find?_cons] at hn
  split at hn
  ·rename_i e
   simp only[Option.map_some,Option.some.injEq] at hn
   simp only[beq_iff_eq] at e
   subst e hn
   exact h.1
  ·exact ih h.2 hn
end
end Go.Abs
namespace Go.Abs
open Go Go.RowKit
open Enc (enc)
section
variable {α:Type} [Enc α] {P:Program} {Y:Value→List I→List (Nat×ah)→cS→Prop} {K:ab→Prop} {A:ab} {rest:List av} {esz bytes:Nat}
theorem tz{n lo k:Nat}{xs:List α}(ho:A.o n=some (.box (.agg (xs.map enc))))(h:lo+k≤xs.length):en A esz (.view n [] esz lo k)=some (((xs.drop lo).take k).map enc):=by
 have h1:cz A (.ptr n [])=some (.agg (xs.map enc)):=by simp only[cz,ho];rfl
 simp only[en,h1,List.length_map]
 rw[if_pos ⟨h,trivial⟩,List.map_take,List.map_drop]
theorem ag8{xs ys:List α}(h:xs.length=ys.length):I.cQ (xs.map enc)=I.cQ (ys.map enc):=by
 rw[qW,qW,h]
end
theorem ahe{n:Nat}{p:List Nat}{sz k total i:Nat}(h:i≤k)(hk:k≤total):∃ y,gS n p sz 0 k total (some (.int .i64 i)) none none=some y:=by
 simp only[gS,hJ]
 rw[if_pos ⟨by omega,by omega,by omega⟩]
 split <;>exact ⟨_,rfl⟩
theorem IZ(k:Nat):cj [] k=.c8:=rfl
def gL(aC:List Nat):List (Nat×I)→List (Nat×I)
 | []=>[]
 |(s,v)::ts=>if aC.contains s=true then (s,v)::gL aC ts else gL aC ts
theorem adJ(aC:List Nat):gL aC []=[]:=rfl
theorem adI(aC:List Nat)(s:Nat)(v:I)(ts:List (Nat×I)):gL aC ((s,v)::ts)=if aC.contains s=true then (s,v)::gL aC ts else gL aC ts:=rfl
theorem IY(aC:List Nat)(t:Nat):∀ ts,cj (gL aC ts) t=.c8∨cj (gL aC ts) t=cj ts t
 | []=>.inl rfl
 |(s,v)::ts=>by
  simp only[gL]
  have ih:=IY aC t ts
  by_cases hs:aC.contains s=true
  ·rw[if_pos hs]
   simp only[cj]
   split
   ·exact .inr rfl
   ·exact ih
  ·rw[if_neg hs]
   simp only[cj]
   split
   ·rename_i e
    subst e
    left
    have:∀ ts,cj (gL aC ts) t=.c8:=by
     intro ts
     induction ts with
     |nil=>rfl
     |cons q ts ih2 =>
      obtain ⟨s',v'⟩:=q
      simp only[gL]
      split
      ·rename_i h'
       simp only[cj]
       have:t≠s':=fun e=>hs (e▸h')
       rw[if_neg this];exact ih2
      ·exact ih2
    exact this ts
   ·exact ih
theorem U.fB(aC:List Nat){c:cK}{x:aP}{Q:Exit→ab→Prop}{ts:List (Nat×I)}{os:List (Nat×ah)}(h:U c x Q (au (gL aC ts) os)):U c x Q (au ts os):=by
 refine U.sub ?_ h
 rintro cc a w ⟨D,E,hs⟩
 refine ⟨D,E,hs.sz,hs.eK,fun t =>?_,hs.dN,hs.cY,hs.c9,hs.bR,hs.cN,hs.dP,hs.eU,hs.cG,hs.eY,hs.fr⟩
 simp only[au]
 rcases IY aC t ts with e | e
 ·rw[e];simp[aR]
 ·rw[e];exact hs.eb t
theorem wy:(∀ aC,gL aC []=[])∧(∀ aC s v ts,gL aC ((s,v)::ts)=if aC.contains s=true then (s,v)::gL aC ts else gL aC ts)∧(∀ (a:Nat) l b,(a::l).contains b=(b==a||l.contains b))∧(∀ b:Nat,([]:List Nat).contains b=false)∧(∀ b,(false||b)=b)∧(∀ b,(true||b)=true)∧(∀ b,(b||true)=true)∧(∀ b,(b||false)=b)∧((false=true)=False) :=
 ⟨adJ,adI,fun _ _ _=>List.contains_cons,fun _=>rfl,fun _=>rfl,fun _=>rfl,fun b=>by cases b <;>rfl,fun b=>by cases b <;>rfl,by simp⟩
end Go.Abs
namespace Go.Abs
open Go Go.RowKit
open Enc (enc)
def wM:Option ah→Option (List I×List I)
 |some (.cu ks vs)=>some (ks,vs)
 |_=>none
noncomputable def wW(A:ab)(n:Nat)(rest:List av):Option (List I×List I)→cF
 |some (ks,vs)=>az rest (A.aL n (.cu ks vs))
 |none=>.fail
noncomputable def wV(A:ab)(n:Nat)(ty:cH)(k v:I)(rest:List av):Option ah→cF
 |some (.cu ks vs)=>wW A n rest (fR ty k v ks vs)
 |_=>.fail
noncomputable def wU(A:ab)(ty:cH)(k v:I)(rest:List av):I→cF
 | .mref n=>wV A n ty k v rest (A.o n)
 |_=>.fail
noncomputable def wT(A:ab)(d:Nat)(rest:List av):Option ah→cF
 |none=>az rest ((A.aL d (.cu [] [])).put d (.mref d))
 |some _=>.fail
open Classical in
noncomputable def sL(A:ab)(d bytes:Nat)(z:I)(rest:List av):I→cF
 | .int _ n=>if 0≤n∧n.toNat*bytes≤281474976710656∧n.toNat≤maxLen then az rest ((A.aL d (.box (.agg (List.replicate n.toNat z)))).put d (.view d [] 1 0 n.toNat)) else .fail
 |_=>.fail
noncomputable def sK(A:ab)(d bytes:Nat)(z n:I)(rest:List av):Option ah→cF
 |none=>sL A d bytes z rest n
 |some _=>.fail
noncomputable def xM(A:ab)(d:Nat)(rest:List av):I→cF
 | .cM ks vs=>az rest ((A.aL d (.it ks vs (List.range ks.length) none)).put d (.dg d))
 |_=>.fail
noncomputable def tt(A:ab)(d:Nat)(x:I)(rest:List av):Option ah→cF
 |none=>xM A d rest x
 |some _=>.fail
def uQ:Option ah→Option I
 |some (.it ks vs _ cur)=>oS ks vs cur
 |_=>none
def uP(A:ab):I→Option I
 | .dg n=>uQ (A.o n)
 |_=>none
open Classical in
noncomputable def px(A:ab)(d:Option Nat)(n:Nat)(rest:List av):Option ah→cF
 |some (.it ks vs left _)=>if left=[] then az rest (A.aI d (.tuple [.bool false])) else
   .any (fun i=>i∈left) fun i=>match ks[i]?,vs[i]? with
    |some kk,some x=>az rest ((A.aL n (.it ks vs (left.filter (· != i)) (some i))).aI d (.tuple [.bool true,kk,x]))
    |_,_=>.fail
 |_=>.fail
noncomputable def w0(A:ab)(d:Option Nat)(rest:List av):I→cF
 | .dg n=>px A d n rest (A.o n)
 |_=>.fail
section
variable (d:Option Nat) (rest:List av) (A:ab)
theorem afn(x:aG):bM A d (.nilC x) rest=cJ (mc (ae A x)) (c7 d rest A):=rfl
theorem afr(neg:Bool)(x y:aG):bM A d (.ptrE neg x y) rest=cJ (mh neg (iF (ae A x)) (iF (ae A y))) (c7 d rest A):=rfl
theorem afh(ty:cH)(z:I)(ok:Bool)(m k:aG):bM A d (.lk ty z ok m k) rest=cJ (qx ty z ok (ae A k) (fZ A (ae A m))) (c7 d rest A):=rfl
theorem aej(n:Nat):fZ A (.mref n)=wM (A.o n):=by
 simp only[fZ];cases A.o n with
 |none=>rfl
 |some y=>cases y <;>rfl
theorem afl(ty:cH)(m k v:aG):bM A none (.gp ty m k v) rest=wU A ty (ae A k) (ae A v) rest (ae A m):=by
 simp only[bM,aY]
 cases ae A m <;>rfl
theorem afj(d:Nat):bM A (some d) .jB rest=wT A d rest (A.o d):=by
 simp only[bM,aY];cases A.o d <;>rfl
theorem afk(d e bytes:Nat)(z:I)(n:aG):bM A (some d) (.jY e bytes z n) rest=sK A d bytes z (ae A n) rest (A.o d):=by
 simp only[bM,aY]
 cases A.o d with
 |some _=>rfl
 |none=>simp only[sK];cases ae A n <;>rfl
theorem afs(d:Nat)(x:aG):bM A (some d) (.j7 x) rest=tt A d (ae A x) rest (A.o d):=by
 simp only[bM,aY]
 cases A.o d with
 |some _=>rfl
 |none=>simp only[tt];cases ae A x <;>rfl
theorem ae6(x:aG):bM A d (.ent x) rest=cJ (uP A (ae A x)) (c7 d rest A):=by
 simp only[bM,aY,a8]
 cases ae A x <;>rfl
theorem afp(x:aG):bM A d (.jg x) rest=w0 A d rest (ae A x):=by
 simp only[bM,aY]
 cases ae A x <;>rfl
end
theorem eA :
  (∀ d rest A x,bM A d (.nilC x) rest=cJ (mc (ae A x)) (c7 d rest A))∧(∀ n p,mc (.ptr n p)=some (.ptr n p))∧(∀ x,mc (.ref x)=some (.ref x)) ∧
  (∀ d rest A neg x y,bM A d (.ptrE neg x y) rest=cJ (mh neg (iF (ae A x)) (iF (ae A y))) (c7 d rest A))∧(iF .nilp=some true)∧(∀ n p,iF (.ptr n p)=some false)∧(∀ x,iF (.ref x)=some false) ∧
  (mh false (some true) (some true)=some (.bool true))∧(mh false (some false) (some true)=some (.bool false))∧(mh true (some true) (some true)=some (.bool false))∧(mh true (some false) (some true)=some (.bool true)) ∧
  (∀ d rest A ty z ok m k,bM A d (.lk ty z ok m k) rest=cJ (qx ty z ok (ae A k) (fZ A (ae A m))) (c7 d rest A))∧(∀ A n,fZ A (.mref n)=wM (A.o n))∧(∀ A ks vs,fZ A (.cM ks vs)=some (ks,vs))∧(∀ ks vs,wM (some (.cu ks vs))=some (ks,vs)) ∧
  (∀ ty z ok k ks vs,qx ty z ok k (some (ks,vs))=qy ok (fY ty z k ks vs))∧(∀ v b,qy false (some (v,b))=some v)∧(∀ v b,qy true (some (v,b))=some (.tuple [v,.bool b])) ∧
  (∀ rest A ty m k v,bM A none (.gp ty m k v) rest=wU A ty (ae A k) (ae A v) rest (ae A m))∧(∀ A ty k v rest n,wU A ty k v rest (.mref n)=wV A n ty k v rest (A.o n))∧(∀ A n ty k v rest ks vs,wV A n ty k v rest (some (.cu ks vs))=wW A n rest (fR ty k v ks vs)) ∧
  (∀ A n rest ks vs,wW A n rest (some (ks,vs))=az rest (A.aL n (.cu ks vs))) ∧
  (∀ rest A d,bM A (some d) .jB rest=wT A d rest (A.o d))∧(∀ A d rest,wT A d rest none=az rest ((A.aL d (.cu [] [])).put d (.mref d))) ∧
  (∀ rest A d e bytes z n,bM A (some d) (.jY e bytes z n) rest=sK A d bytes z (ae A n) rest (A.o d))∧(∀ A d bytes z n rest,sK A d bytes z n rest none=sL A d bytes z rest n) ∧
  (∀ rest A d x,bM A (some d) (.j7 x) rest=tt A d (ae A x) rest (A.o d))∧(∀ A d x rest,tt A d x rest none=xM A d rest x)∧(∀ A d rest ks vs,xM A d rest (.cM ks vs)=az rest ((A.aL d (.it ks vs (List.range ks.length) none)).put d (.dg d))) ∧
  (∀ d rest A x,bM A d (.ent x) rest=cJ (uP A (ae A x)) (c7 d rest A))∧(∀ A n,uP A (.dg n)=uQ (A.o n))∧(∀ ks vs l cur,uQ (some (.it ks vs l cur))=oS ks vs cur) ∧
  (∀ d rest A x,bM A d (.jg x) rest=w0 A d rest (ae A x))∧(∀ A d rest n,w0 A d rest (.dg n)=px A d n rest (A.o n)) :=
 ⟨afn,fun _ _=>rfl,fun _=>rfl,afr,rfl,fun _ _=>rfl,fun _=>rfl,rfl,rfl,rfl,rfl,afh,aej,fun _ _ _=>rfl,fun _ _=>rfl,fun _ _ _ _ _ _=>rfl,fun _ _=>rfl,fun _ _=>rfl,
  fun rest A ty m k v=>afl rest A ty m k v,fun _ _ _ _ _ _=>rfl,fun _ _ _ _ _ _ _ _=>rfl,fun _ _ _ _ _=>rfl,fun rest A d=>afj rest A d,fun _ _ _=>rfl,fun rest A d e bytes z n=>afk rest A d e bytes z n,fun _ _ _ _ _ _=>rfl,
  fun rest A d x=>afs rest A d x,fun _ _ _ _=>rfl,fun _ _ _ _ _=>rfl,ae6,fun _ _=>rfl,fun _ _ _ _=>rfl,afp,fun _ _ _ _=>rfl⟩
theorem eJ:(∀ n p z lo k,bU none (.view n p z lo k)=true)∧(∀ n,bU none (.mref n)=true)∧(∀ n p,bU none (.ptr n p)=true)∧(∀ x,bU none (.ref x)=true)∧bU none .nilp=true∧bU none .da=true∧bU none (.raw (.map none))=true∧(∀ ks vs,bU none (.cM ks vs)=true)∧(∀ {α:Type} [Enc α] (l:List α),bU none (enc l)=true) :=
 ⟨fun _ _ _ _ _=>rfl,fun _=>rfl,fun _ _=>rfl,fun _=>rfl,rfl,rfl,rfl,fun _ _=>rfl,fun l=>by simp[lW,mP]⟩
theorem aey{A:ab}{d bytes:Nat}{z:I}{rest:List av}{n:Nat}(h1:n*bytes≤281474976710656)(h2:n≤maxLen):sL A d bytes z rest (.int .i64 n)=az rest ((A.aL d (.box (.agg (List.replicate n z)))).put d (.view d [] 1 0 n)):=by
 simp only[sL,Int.toNat_natCast]
 rw[if_pos ⟨Int.natCast_nonneg n,h1,h2⟩]
section
variable {α:Type} [Enc α] [DecidableEq α] {ty:cH}
theorem u2(aq:∀ x y:α,cn ty (enc x) (enc y)=some (decide (x=y)))(k:α):∀ (ks:List α) (i:Nat),eS ty (enc k) (ks.map enc) i=some ((ks.findIdx? fun x=>decide (k=x)).map (· + i))
 | [],i=>rfl
 |x::ks,i=>by
  simp only[List.map_cons,eS,aq,List.findIdx?_cons]
  by_cases h:k=x
  ·simp[h]
  ·simp only[h,decide_false,Bool.false_eq_true,if_false]
   rw[u2 aq k ks (i+1)]
   cases ks.findIdx? fun x=>decide (k=x) with
   |none=>rfl
   |some j=>simp;omega
theorem wD(aq:∀ x y:α,cn ty (enc x) (enc y)=some (decide (x=y)))(z:I)(k:α)(ks:List α)(vs:List I) :
  fY ty z (enc k) (ks.map enc) vs=match ks.findIdx? fun x=>decide (k=x) with
   |some i=>(vs[i]?).map fun v=>(v,true)
   |none=>some (z,false):=by
 simp only[fY,aq,Option.isSome_some,if_true,u2 aq]
 cases ks.findIdx? fun x=>decide (k=x) <;>rfl
theorem Je(aq:∀ x y:α,cn ty (enc x) (enc y)=some (decide (x=y)))(k:α)(v:I)(hv:v.b9=true)(ks:List α)(vs:List I) :
  fR ty (enc k) v (ks.map enc) vs=match ks.findIdx? fun x=>decide (k=x) with
   |some i=>some (ks.map enc,vs.set i v)
   |none=>some ((ks++[k]).map enc,vs++[v]):=by
 simp only[fR,aq,Option.isSome_some,hv,II (dT k),and_self,if_true,u2 aq]
 cases ks.findIdx? fun x=>decide (k=x) with
 |none=>simp
 |some i=>rfl
omit [Enc α] in
theorem Ck{k:α}{ks:List α} : (ks.findIdx? fun x=>decide (k=x)).isSome=decide (k∈ks):=by
 induction ks with
 |nil=>rfl
 |cons x ks ih =>
  simp only[List.findIdx?_cons,List.mem_cons]
  by_cases h:k=x
  ·simp[h]
  ·simp only[h,decide_false,Bool.false_eq_true,if_false,Option.isSome_map,ih,false_or]
theorem aec(aq:∀ x y:α,cn ty (enc x) (enc y)=some (decide (x=y)))(k:α)(ks:List α):fY ty (.bool false) (enc k) (ks.map enc) (List.replicate ks.length (.bool true))=some (.bool (decide (k∈ks)),decide (k∈ks)):=by
 rw[wD aq,←Ck]
 cases h:ks.findIdx? fun x=>decide (k=x) with
 |none=>rfl
 |some i =>
  have:=(List.findIdx?_eq_some_iff_getElem.1 h).1
  simp[this]
def mH{α:Type}[DecidableEq α](ks:List α)(k:α):List α:=if k∈ks then ks else ks++[k]
omit [Enc α] in
theorem aes{ks:List α}{k x:α} : x∈mH ks k↔x=k∨x∈ks:=by
 unfold mH
 split
 ·rename_i h
  exact ⟨.inr,fun h2=>h2.elim (fun e=>e▸h) id⟩
 ·simp[or_comm]
theorem aeF(aq:∀ x y:α,cn ty (enc x) (enc y)=some (decide (x=y)))(k:α)(ks:List α):fR ty (enc k) (.bool true) (ks.map enc) (List.replicate ks.length (.bool true))=some ((mH ks k).map enc,List.replicate (mH ks k).length (.bool true)):=by
 rw[Je aq k _ rfl]
 have hm:=Ck (k:=k) (ks:=ks)
 cases h:ks.findIdx? fun x=>decide (k=x) with
 |none =>
  rw[h] at hm
  have:k∉ks:=by simpa using hm.symm
  simp only[mH,if_neg this]
  congr 2
  rw[List.length_append,List.length_singleton,List.replicate_succ']
 |some i =>
  rw[h] at hm
  have:k∈ks:=by simpa using hm.symm
  simp only[mH,if_pos this]
  congr 2
  have:=(List.findIdx?_eq_some_iff_getElem.1 h).1
  exact List.ext_getElem (by simp) fun j h1 h2=>by
   simp only[List.getElem_set,List.getElem_replicate];split <;>rfl
end
section
variable {α:Type} [Enc α]
theorem y9{xs:List α}{i:Nat}(d:α)(h:i<xs.length):fO i [] (some (xs.map enc))=some (enc (xs.getD i d)):=by
 simp[fO,oK,h,I.at,List.getD_eq_getElem?_getD]
theorem My{A:ab}{n i:Nat}{xs:List α}(v u:α){rest:List av}(hA:Enc.fQ α=false)(h:i<xs.length):dS A none n [i] (.agg (xs.map enc)) (enc v) rest (some (enc u))=az rest (A.aL n (.box (.agg ((xs.set i v).map enc)))):=by
 rw[ep (dG v) (by rw[lW,hA];rfl) ((eH v).trans (eH u).symm)]
 have h2:(xs.map (enc (α:=α)))[i]?=some (enc (xs[i])):=by simp[h]
 simp only[I.dx,h2,List.map_set]
end
theorem aht{A:ab}{n i:Nat}{xs:List Bool}(h:i<xs.length)(v u:Bool)(rest:List av):dS A none n [i] (.agg (xs.map enc)) (.bool v) rest (some (.bool u))=az rest (A.aL n (.box (.agg ((xs.set i v).map enc)))):=My v u rfl h
theorem nt{A:ab}{n i:Nat}{xs:List Int}(h:i<xs.length)(v u:Int)(rest:List av):dS A none n [i] (.agg (xs.map enc)) (.int .i64 v) rest (some (.int .i64 u))=az rest (A.aL n (.box (.agg ((xs.set i v).map enc)))):=My v u rfl h
theorem za{xs:List Bool}{i:Nat}(h:i<xs.length):fO i [] (some (xs.map enc))=some (.bool (xs.getD i false)):=y9 false h
theorem gE{xs:List Int}{i:Nat}(h:i<xs.length):fO i [] (some (xs.map enc))=some (.int .i64 (xs.getD i 0)):=y9 0 h
theorem IH{m sz lo l i:Nat}{fs:List I}(h:i<l):l7 m [] sz lo l sz (i:Int) (some fs)=some (.ptr m [lo+i]):=by rw[wu h];rfl
theorem WH{α:Type}[Enc α]{A:ab}{m n sz k:Nat}{xs:List α}(ho:A.o n=some (.box (.agg (xs.map enc))))(hs:Enc.sz α=sz)(hk:k=xs.length):dU A (m+1) (.view n [] sz 0 k)=some (enc xs):=by
 subst hk hs
 have h1:cz A (.ptr n [])=some (.agg (xs.map enc)):=by simp only[cz,ho];rfl
 simp only[dU,I.bl,Bool.false_eq_true,if_false,h1]
 have h2:((xs.map (enc (α:=α))).drop 0).take xs.length=xs.map enc:=by rw[List.drop_zero,List.take_of_length_le (by simp)]
 rw[h2,if_pos (kj xs),fW]
theorem ki:(∀ {α:Type} [Enc α] (x:α),(enc x).bl=true)∧(∀ n p z lo k,(I.view n p z lo k).bl=false)∧(∀ n,(I.mref n).bl=false)∧(∀ n p,(I.ptr n p).bl=false)∧(∀ n k,(I.own n k).bl=false) :=
 ⟨@dT,fun _ _ _ _ _=>rfl,fun _=>rfl,fun _ _=>rfl,fun _ _=>rfl⟩
end Go.Abs
namespace Go.Abs
open Go Go.RowKit
open Enc (enc)
theorem aE.OG{A:ab}{d n T z:Nat}(hd:A.t d=.nils z)(hn:A.o n=none)(hlt:n<1000000):aE A ((A.aL n (.cO T [])).put d (.own n 0)):=by
 rintro c a w ⟨D,E,h⟩
 have aq:E n=none:=by have:=h.bR n;rw[hn] at this;exact this
 have hl:dE w D E w D (fun m=>if m=n then some (.rw none 0) else E m):=by
  have ef:∀ {m:Nat} {e:bO},E m=some e→(if m=n then some (.rw none 0) else E m)=some e:=fun {m e} he=>by
   have:m≠n:=fun e=>by rw[e,aq] at he;cases he
   rw[if_neg this];exact he
  refine ⟨fun _ _ h=>h,fun _ _ _ _ h=>h,fun m b aJ he=>ef he,fun m aA l he =>?_,fun m b he=>ef he,fun m b he=>ef he,fun _ _ _ _ h=>h⟩
  ·have:m≠n:=fun e=>by rw[e,aq] at he;cases he
   exact ⟨aA,l,by simp only[if_neg this];exact he,Nat.le_refl _,fun _=>rfl⟩
 refine ⟨D,fun m=>if m=n then some (.rw none 0) else E m,h.sz,h.eK,fun t =>?_,h.dN,h.cY,h.c9,fun m =>?_,fun m m' e e' b h1 h2 h3 h4 =>?_,fun m e hm =>?_,h.eU,h.cG,h.eY,h.fr⟩
 ·simp only[ab.put,ab.aL]
  by_cases ht:t=d
  ·subst ht
   simp only[if_true]
   have hv:=h.eb t
   rw[hd] at hv
   obtain ⟨cs,q1,q2⟩:=hv
   simp only[af] at q2
   subst q2
   refine ⟨[.slice none 0 0],by simpa[bB,I.isAgg] using q1,?_⟩
   simp only[af,if_true]
   exact ⟨none,0,rfl,Nat.le_refl _,⟨_,_,_,rfl⟩,fun _=>trivial⟩
  ·simp only[if_neg ht]
   exact aR.bC hl (h.eb t)
 ·simp only[ab.put,ab.aL]
  by_cases hm:m=n
  ·subst hm
   simp only[if_true,cZ]
   exact ⟨none,by simp,by simp,trivial⟩
  ·simp only[if_neg hm]
   exact (h.bR m).bC hl (by simp only[if_neg hm]) fun _ _ _ _=>⟨rfl,fun _ ho=>ho⟩
 ·by_cases hm:m=n <;>by_cases hm':m'=n
  ·rw[hm,hm']
  ·simp only[if_pos hm,Option.some.injEq] at h1;subst h1;simp[bO.aA] at h3
  ·simp only[if_pos hm',Option.some.injEq] at h2;subst h2;simp[bO.aA] at h4
  ·simp only[if_neg hm] at h1;simp only[if_neg hm'] at h2;exact h.cN m m' e e' b h1 h2 h3 h4
 ·have hmn:m≠n:=fun e=>by rw[e,h.jS (.inr hlt)] at hm;cases hm
  simp only[if_neg hmn]
  exact h.dP m e hm
theorem aE.yU{ts:List (Nat×I)}{os:List (Nat×ah)}(d n T z:Nat)(hd:cj ts d=.nils z)(hn:aj os n=none){B:ab}(h:aE (au ((d,.own n 0)::ts) ((n,.cO T [])::os)) B)(hlt:n<1000000:=by decide):aE (au ts os) B :=
 ((aE.OG (A:=au ts os) (T:=T) hd hn hlt).trans (by rw[nV,sH];exact aE.refl _)).trans h
theorem aE.OH{A:ab}{m n T z:Nat}{p:List Nat}{b:I}(hm:A.o m=some (.box b))(hp:b.at p=some (.nils z))(hn:A.o n=none)(hlt:n<1000000):aE A ((A.aL n (.cO T [])).aL m (.box (b.dx p (.own n 0)))):=by
 rintro c a w ⟨D,E,h⟩
 have aq:E n=none:=by have:=h.bR n;rw[hn] at this;exact this
 have hmn:m≠n:=fun e=>by rw[e,hn] at hm;cases hm
 have hl:dE w D E w D (fun m=>if m=n then some (.rw none 0) else E m):=by
  have ef:∀ {m:Nat} {e:bO},E m=some e→(if m=n then some (.rw none 0) else E m)=some e:=fun {m e} he=>by
   have:m≠n:=fun e=>by rw[e,aq] at he;cases he
   rw[if_neg this];exact he
  refine ⟨fun _ _ h=>h,fun _ _ _ _ h=>h,fun m b aJ he=>ef he,fun m aA l he =>?_,fun m b he=>ef he,fun m b he=>ef he,fun _ _ _ _ h=>h⟩
  ·have:m≠n:=fun e=>by rw[e,aq] at he;cases he
   exact ⟨aA,l,by simp only[if_neg this];exact he,Nat.le_refl _,fun _=>rfl⟩
 refine ⟨D,fun m=>if m=n then some (.rw none 0) else E m,h.sz,h.eK,fun t=>aR.bC hl (h.eb t),h.dN,h.cY,h.c9,fun k =>?_,fun m m' e e' b h1 h2 h3 h4 =>?_,fun m e hm =>?_,h.eU,h.cG,h.eY,h.fr⟩
 ·simp only[ab.aL]
  by_cases hk:k=m
  ·subst hk
   have ho:=h.bR k
   rw[hm] at ho
   obtain ⟨b',cs,T',h1,h2,h3,h4,h5⟩:=ho
   obtain ⟨q1,q2⟩:=LN (y:=.own n 0) (af.bC hl _ _ h4) hp (fun ds hd=>by
    simp only[af] at hd
    subst hd
    simp only[af,if_true]
    exact ⟨none,0,rfl,Nat.le_refl _,⟨_,_,_,rfl⟩,fun _=>trivial⟩) rfl
   simp only[if_true,cZ]
   exact ⟨b',cs,T',by rw[q2];simp only[if_neg hmn];exact h1,h2,h3,q1,h5⟩
  ·simp only[if_neg hk]
   by_cases hkn:k=n
   ·subst hkn
    simp only[if_true,cZ]
    exact ⟨none,by simp,by simp,trivial⟩
   ·simp only[if_neg hkn]
    exact (h.bR k).bC hl (by simp only[if_neg hkn]) fun _ _ _ _=>⟨rfl,fun _ ho=>ho⟩
 ·by_cases hm:m=n <;>by_cases hm':m'=n
  ·rw[hm,hm']
  ·simp only[if_pos hm,Option.some.injEq] at h1;subst h1;simp[bO.aA] at h3
  ·simp only[if_pos hm',Option.some.injEq] at h2;subst h2;simp[bO.aA] at h4
  ·simp only[if_neg hm] at h1;simp only[if_neg hm'] at h2;exact h.cN m m' e e' b h1 h2 h3 h4
 ·have hmn:m≠n:=fun e=>by rw[e,h.jS (.inr hlt)] at hm;cases hm
  simp only[if_neg hmn]
  exact h.dP m e hm
theorem aE.OI{ts:List (Nat×I)}{os:List (Nat×ah)}(m n T z:Nat)(p:List Nat)(b:I)(hm:aj os m=some (.box b))(hp:b.at p=some (.nils z))(hn:aj os n=none){B:ab}(h:aE (au ts ((m,.box (b.dx p (.own n 0)))::(n,.cO T [])::os)) B)(hlt:n<1000000:=by decide):aE (au ts os) B :=
 ((aE.OH (A:=au ts os) (T:=T) hm hp hn hlt).trans (by rw[nV,nV];exact aE.refl _)).trans h
theorem ub{A:ab}{d:Option Nat}{e bytes n l:Nat}{xs:List Int}{y:Int}{rest:List av}(hl:l=xs.length)(h1:xs.length+1≤maxLen)(h2:(xs.length+1)*bytes≤140737488355328) :
  oH A d e 1 bytes (.int .i64 0) n l e xs rest (enc [y])=az rest ((A.aL n (.cO e (xs++[y]))).aI d (.own n (xs.length+1))):=by
 show oH A d e 1 bytes (.int .i64 0) n l e xs rest (.slice 1 [.int .i64 y])=_
 simp only[oH]
 rw[if_pos ⟨hl,rfl,rfl,rfl,rfl,by simp,h1,h2⟩]
 rfl
def fu(n k:Nat):I→I
 | .own n' k'=>if n'=n∧k'=k then .view n [] 1 0 k else .own n' k'
 |v=>v
def ft(n:Nat):I→I
 | .own n' k'=>if n'=n∧k'=0 then .nils 1 else .own n' k'
 |v=>v
def iu(f:I→I):ah→ah
 | .box v=>.box (f v)
 |y=>y
def nd(n k:Nat)(v:I):Prop:=v=.own n k∨v.only (fun j=>j != n)=true
def afQ(n k:Nat)(y:ah):Prop:=y=.box (.own n k)∨y.only (fun j=>j != n)=true
theorem qZ{n k:Nat}{v:I}(h:v.only (fun j=>j != n)=true):fu n k v=v:=by
 cases v <;>try rfl
 rename_i n' k'
 simp only[I.only,bne_iff_ne,ne_eq] at h
 simp only[fu,h,false_and,if_false]
theorem yc{n:Nat}{v:I}(h:v.only (fun j=>j != n)=true):ft n v=v:=by
 cases v <;>try rfl
 rename_i n' k'
 simp only[I.only,bne_iff_ne,ne_eq] at h
 simp only[ft,h,false_and,if_false]
theorem pd(f:I→I)(hf:f .c8=.c8)(ts:List (Nat×I))(t:Nat):cj (ts.map fun q=>(q.1,f q.2)) t=f (cj ts t):=by
 induction ts with
 |nil=>exact hf.symm
 |cons q ts ih =>
  obtain ⟨k,v⟩:=q
  simp only[List.map_cons,cj]
  split
  ·rfl
  ·exact ih
theorem sB(f:ah→ah)(os:List (Nat×ah))(t:Nat):aj (os.map fun q=>(q.1,f q.2)) t=(aj os t).map f:=by
 induction os with
 |nil=>rfl
 |cons q os ih =>
  obtain ⟨k,v⟩:=q
  simp only[List.map_cons,aj]
  split
  ·rfl
  ·exact ih
theorem cZ.dn{M:Nat→Prop}{w:World}{D:aH}{E E':aS}{p:Nat→Bool}(hp:∀ n,p n=true→E' n=E n){m:Nat}(aq:E' m=E m){y:ah}(hon:y.only p=true)(ho:cZ M w D E m (some y)):cZ M w D E' m (some y):=by
 cases y with
 |box x =>
  obtain ⟨b,cs,T,k1,k2,k3,k4,k5⟩:=ho
  exact ⟨b,cs,T,aq.trans k1,k2,k3,af.dn hp _ _ (by simpa[ah.only] using hon) k4,k5⟩
 |bS T sz es =>
  obtain ⟨aA,k1,k2,k3⟩:=ho
  refine ⟨aA,aq.trans k1,k2,?_⟩
  cases aA with
  |none=>exact k3
  |some bc =>
   obtain ⟨b,cap⟩:=bc
   obtain ⟨cs,pre,rest,q1,q2,q3,q4,q5⟩:=k3
   exact ⟨cs,pre,rest,q1,q2,q3,aF.dn hp _ _ (by simpa[ah.only] using hon) q4,q5⟩
 |cO T xs =>
  obtain ⟨aA,k1,k2,k3⟩:=ho
  exact ⟨aA,aq.trans k1,k2,k3⟩
 |dB x =>
  obtain ⟨b,k1,k2⟩:=ho
  exact ⟨b,aq.trans k1,k2⟩
 |cu ks vs =>
  obtain ⟨b,es,ck,k1,k2,k3,k4,k5,k6,k7⟩:=ho
  simp only[ah.only,Bool.and_eq_true] at hon
  exact ⟨b,es,ck,aq.trans k1,k2,k3,k4,aD.dn hp _ _ hon.1 k5,aD.dn hp _ _ hon.2 k6,k7⟩
 |it ks vs left cur =>
  obtain ⟨r,b,es,ck,si,se,la,k1,k2,k3,k4,k5,k6,k7⟩:=ho
  simp only[ah.only,Bool.and_eq_true] at hon
  exact ⟨r,b,es,ck,si,se,la,aq.trans k1,k2,k3,k4,aD.dn hp _ _ hon.1 k5,aD.dn hp _ _ hon.2 k6,k7⟩
theorem qV(xs:List Int):(I.agg (xs.map enc)).aJ=.dZ (List.replicate xs.length .one):=by
 show cI.dZ (I.cQ _)=_
 congr 1
 induction xs with
 |nil=>rfl
 |cons x xs ih=>simp only[List.map_cons,I.cQ,ih,List.length_cons,List.replicate_succ];rfl
theorem qM{w:World}{D:aH}{E:aS} : ∀ {xs:List Int},(∀ x∈xs,IntKind.i64.min≤x∧x≤IntKind.i64.max)→aF w D E (xs.map enc) (xs.map (Value.int .i64))
 | [],_=>rfl
 |x::xs,h=>⟨[.int .i64 x],xs.map (Value.int .i64),rfl,⟨rfl,h x (by simp)⟩,qM fun y hy=>h y (by simp[hy])⟩
theorem aE.MN{ts:List (Nat×I)}{os:List (Nat×ah)}{n T:Nat}{B:ab}(hn:aj os n=some (.cO T []))
  (h:aE (au (ts.map fun q=>(q.1,ft n q.2)) (os.map fun q=>(q.1,iu (ft n) q.2))) B):aE (au ts os) B:=by
 refine aE.trans ?_ h
 rintro c a w ⟨D,E,hs⟩
 obtain ⟨aA,aq,-,hblk⟩:=hs.q0 (n:=n) (T:=T) (xs:=[]) hn
 have hnone:aA=none:=by
  cases aA with
  |none=>rfl
  |some bc=>obtain ⟨b,cap⟩:=bc;obtain ⟨_,_,_,_,_,h,_⟩:=hblk;exact absurd rfl h
 subst hnone
 have conv:∀ (v:I) (cs:List Value),af w D E v cs→af w D E (ft n v) cs:=fun v cs hr=>by
  cases v <;>try exact hr
  rename_i n' k'
  simp only[ft]
  split
  ·rename_i hh
   obtain ⟨rfl,rfl⟩:=hh
   obtain ⟨blk',l,q3,q4,q5,q6⟩:=hr
   rw[aq] at q3
   simp only[Option.some.injEq,bO.rw.injEq,List.length_nil] at q3
   obtain ⟨rfl,rfl⟩:=q3
   exact q6 rfl
  ·exact hr
 refine ⟨D,E,hs.sz,hs.eK,fun t =>?_,hs.dN,hs.cY,hs.c9,fun m =>?_,hs.cN,hs.dP,hs.eU,hs.cG,hs.eY,hs.fr⟩
 ·show aR w D E (cj _ t) _
  rw[pd _ rfl]
  have:=hs.eb t
  simp only[au] at this
  revert this
  generalize cj ts t=v
  intro hv
  cases v <;>try exact hv
  rename_i n' k'
  obtain ⟨cs,q1,q2⟩:=hv
  have:=conv _ _ q2
  revert this
  simp only[ft]
  split
  ·intro this;exact ⟨cs,q1,this⟩
  ·intro this;exact ⟨cs,q1,this⟩
 ·show cZ _ w D E m (aj _ m)
  rw[sB]
  have:=hs.bR m
  simp only[au] at this
  revert this
  cases aj os m with
  |none=>exact id
  |some y =>
   cases y <;>try exact id
   rename_i x
   rintro ⟨b,cs,T,k1,k2,k3,k4,k5⟩
   refine ⟨b,cs,T,?_,k2,k3,conv _ _ k4,k5⟩
   rw[k1]
   have:(ft n x).aJ=x.aJ:=by
    cases x <;>try rfl
    simp only[ft]
    split <;>rfl
   rw[this]
theorem U.ML{c:cK}{x:aP}{Q:Exit→ab→Prop}{ts:List (Nat×I)}{os:List (Nat×ah)}{n T:Nat}{xs:List Int}(hn:aj os n=some (.cO T xs))(hne:xs≠[])(hlt:n<1000000)
  (ht:∀ t,nd n xs.length (cj ts t)) (ho:∀ m y,aj os m=some y→m≠n→afQ n xs.length y)
  (h:∀ q:Nat,U c x Q (au (ts.map fun p=>(p.1,fu n xs.length p.2)) ((n,.box (.agg ((xs++List.replicate q 0).map enc)))::os.map fun p=>(p.1,iu (fu n xs.length) p.2)))):U c x Q (au ts os):=by
 rintro code hc a w ⟨D,E,hs⟩
 obtain ⟨aA,aq,hr,hblk⟩:=hs.q0 (n:=n) hn
 cases aA with
 |none=>exact absurd hblk hne
 |some bc =>
 obtain ⟨b,cap⟩:=bc
 obtain ⟨cs,q,hM,hb,hcs,-,hcap,hmax,hD⟩:=hblk
 have hp:∀ j,(fun j=>j != n) j=true→(fun j=>if j=n then some (bO.aw b (.dZ (List.replicate (xs.length+q) .one))) else E j) j=E j:=fun j hj=>by
  have:j≠n:=by simpa using hj
  simp only[if_neg this]
 have conv:∀ cs0,af w D E (.own n xs.length) cs0→af w D (fun j=>if j=n then some (bO.aw b (.dZ (List.replicate (xs.length+q) .one))) else E j) (.view n [] 1 0 xs.length) cs0:=fun cs0 hr=>by
  obtain ⟨blk',l,q3,q4,q5,q6⟩:=hr
  rw[aq] at q3
  simp only[Option.some.injEq,bO.rw.injEq] at q3
  obtain ⟨rfl,rfl⟩:=q3
  have:=q6 rfl
  refine ⟨b,_,0,List.replicate (xs.length+q) .one,if_pos rfl,rfl,rfl,?_,by rw[List.length_replicate];omega,by rw[List.length_replicate];omega,fun s hs =>?_⟩
  ·rw[this,List.length_replicate]
   simp only[Nat.zero_mul,Nat.add_zero,Nat.sub_zero,hcap]
  ·rw[List.eq_of_mem_replicate hs];rfl
 refine h q code hc a w ⟨D,fun j=>if j=n then some (.aw b (.dZ (List.replicate (xs.length+q) .one))) else E j,hs.sz,hs.eK,fun t =>?_,hs.dN,hs.cY,hs.c9,fun m =>?_,fun m m' e e' b1 h1 h2 h3 h4 =>?_,fun m e hm =>?_,hs.eU,hs.cG,hs.eY,hs.fr⟩
 ·show aR w D _ (cj _ t) _
  rw[pd _ rfl]
  have hv:=hs.eb t
  simp only[au] at hv
  rcases ht t with h1 | h1
  ·rw[h1] at hv ⊢
   simp only[fu,and_self,if_true]
   obtain ⟨cs0,q1,q2⟩:=hv
   exact ⟨cs0,q1,conv _ q2⟩
  ·rw[qZ h1]
   exact aR.dn hp h1 hv
 ·show cZ _ w D _ m (aj _ m)
  simp only[aj]
  by_cases hm:m=n
  ·subst hm
   simp only[if_true]
   refine ⟨b,cs,T,?_,hM,hb,?_,hD⟩
   ·simp only[if_true]
    rw[qV,List.length_append,List.length_replicate]
   ·show aF w D _ _ _
    rw[hcs]
    refine qM fun y hy =>?_
    rcases List.mem_append.1 hy with hy | hy
    ·exact hr y hy
    ·rw[List.eq_of_mem_replicate hy];decide
  ·simp only[if_neg hm]
   rw[sB]
   have hob:=hs.bR m
   simp only[au] at hob
   cases hy:aj os m with
   |none=>rw[hy] at hob;simp only[cZ,Option.map_none] at hob ⊢;rw[if_neg hm];exact hob
   |some y =>
    rw[hy] at hob
    rcases ho m y hy hm with rfl | h1
    ·obtain ⟨b1,cs1,T1,k1,k2,k3,k4,k5⟩:=hob
     refine ⟨b1,cs1,T1,?_,k2,k3,?_,k5⟩
     ·simp only[if_neg hm]
      rw[k1]
      simp only[fu,and_self,if_true];rfl
     ·simp only[fu,and_self,if_true]
      exact conv _ k4
    ·have e:iu (fu n xs.length) y=y:=by
      cases y <;>try rfl
      simp only[ah.only] at h1
      simp only[iu,qZ h1]
     simp only[Option.map_some,e]
     exact hob.dn hp (if_neg hm) h1
 ·have cut:∀ m e,(if m=n then some (bO.aw b (.dZ (List.replicate (xs.length+q) .one))) else E m)=some e→∃ e2,E m=some e2∧e2.aA=e.aA:=fun m e he=>by
   by_cases hm:m=n
   ·subst hm
    rw[if_pos rfl] at he
    cases he
    exact ⟨_,aq,rfl⟩
   ·rw[if_neg hm] at he
    exact ⟨e,he,rfl⟩
  obtain ⟨e2,k1,k2⟩:=cut m e h1
  obtain ⟨e3,k3,k4⟩:=cut m' e' h2
  exact hs.cN m m' e2 e3 b1 k1 k3 (k2.trans h3) (k4.trans h4)
 ·have hmn:m≠n:=fun e=>by rw[e,hs.jS (.inr hlt)] at hm;cases hm
  simp only[if_neg hmn]
  exact hs.dP m e hm
def wv:Option Nat→Code
 |none=>.ret
 |some id=>.exit id
def B7:Option Nat→Exit
 |none=>.ret
 |some id=>.exit id
def pQ(o:Obj)(A:ab)(os:List (Nat×ah)):Prop:=∀ n x,aj (dy o os) n=some x→A.o n=some x∧x.only (al (dy o os))=true∧x.eL=true
def agV(o:Obj)(In:List (Nat×ah)→Prop)(Ix:Option Nat→List (Nat×ah)→Prop):Exit→ab→Prop
 | .normal,A=>∃ os,pQ o A os∧In os
 | .ret,A=>∃ os,pQ o A os∧Ix none os
 | .exit id,A=>∃ os,pQ o A os∧Ix (some id) os
 |_,_=>False
def Ot(P:Program)(nn:Nat)(x y:aP)(ps:List Nat)(tsR:List (Nat×I))(N:Nat)(item:Nat→List I)(ai:Nat→List (Nat×ah)→Prop)(Ix:Option Nat→List (Nat×ah)→Prop):Prop :=
 ∀ k osb,k<N→ai k osb→∀ (w:World) (D:aH) (E:aS) (l:Nat) (o1 o2:Obj),
  U ⟨P,w,D,nn,di E,E,ig,some l⟩ x (ao (fun B=>B.o 1999999=some (.dB o1)∧U ⟨P,w,D,nn,di E,E,ig,some l⟩ y (agV o2 (ai (k+1)) Ix) (B.aL 1999999 (.dB o2))) (fun _ _=>False)) (au (qL ps (item k) tsR) (dy o1 osb))
section
variable {c:cK} {Q:Exit→ab→Prop}
theorem adt{o:Obj}{A:ab}{os:List (Nat×ah)}(h:pQ o A os)(o':Obj):∀ n x,aj (dy o' os) n=some x→(A.aL 1999999 (.dB o')).o n=some x∧x.only (al (dy o' os))=true∧x.eL=true:=fun n x hx=>by
 have e:al (dy o' os)=al (dy o os):=by funext m;rw[lu,lu]
 rw[e]
 by_cases hn:n=1999999
 ·subst hn
  rw[pc,if_pos rfl,Option.some.injEq] at hx
  subst hx
  exact ⟨by simp[ab.aL],rfl,rfl⟩
 ·rw[pc,if_neg hn] at hx
  obtain ⟨h1,h2⟩:=h n x (by rw[pc,if_neg hn];exact hx)
  exact ⟨by simp only[ab.aL,if_neg hn];exact h1,h2⟩
theorem U.kF{f:aG}{ps:List Nat}{x y:aP}{ts tsR:List (Nat×I)}{os0 osb0:List (Nat×ah)}{ρ:List (Nat×Nat)}{g:FuncId}{caps:List I}{N:Nat}{item:Nat→List I}
  (ai:Nat→List (Nat×ah)→Prop) (Ix:Option Nat→List (Nat×ah)→Prop) (hr:c.mu=none) (hn6:c.n≤1000000)
  (hf:ae (au ts os0) f=.func g caps) (hcl:I.bT caps=true) (hcb:gG c.P g=true) (hit:tX c.P g caps N item) (hlen:∀ k,(item k).length=ps.length)
  (hfree:aj os0 999999=none) (h19:al osb0 1999999=false) (hρ:bA ρ 1999999=999999)
  (hgv:∀ o,fT ρ (dy o osb0) ((999999,.dB o)::os0)) (hts:mD ρ (al osb0) ts tsR)
  (hI:∀ k os,ai k os→fh osb0 os) (hIx:∀ e os,Ix e os→fh osb0 os) (h0:ai 0 osb0)
  (hround:Ot c.P c.n x y ps tsR N item ai Ix)
  (hdone:∀ os,ai N os→Q .normal (au ts (dI ρ os++os0))) (hexit:∀ e os,Ix e os→Q (B7 e) (au ts (dI ρ os++os0))) :
  U c (.kF f ps x y) Q (au ts os0):=by
 intro code hc a w hs
 cases code <;>simp only[e9] at hc <;>try (first | (cases hc;done) | ((repeat' split at hc) <;>cases hc;done))
 rename_i cf cps cx cy
 split at hc
 case h_2=>cases hc
 rename_i f' x' y' hcf hcx hcy
 split at hc
 case isFalse=>cases hc
 rename_i hpn
 simp only[Option.some.injEq,aP.kF.injEq] at hc
 obtain ⟨rfl,rfl,rfl,rfl⟩:=hc
 obtain ⟨D,E,hs⟩:=hs
 have hF:c.bn=Fence.wide:=by unfold cK.bn;rw[hr]
 have hE0:c.dz 999999=none:=hs.jS (.inr (by decide))
 have hval:∃ vs:List Value,a.eval cf=.func (.func g) #[] vs.toArray∧aD w D E caps vs:=by
  have hv:=b8 hs hcf
  rw[hf] at hv
  obtain ⟨cs,q1,q2⟩:=hv
  simp only[af] at q2
  obtain ⟨vs,q3,q4⟩:=q2
  exact ⟨vs,by simpa[bB,I.isAgg,q3] using q1.symm,q4⟩
 obtain ⟨vs,hval,hvs⟩:=hval
 rw[hF]
 refine wpIn_rangeFunc fun fn hfn =>?_
 obtain ⟨rec,hrec⟩:∃ rec:LoopState→Option Code→Loop,rec=fun br pe => { state:=br,pending:=pe,fn,tmps:=a.tmps,params:=cps,assign:=cx,body:=cy,defers:=w.heap.size } :=⟨_,rfl⟩
 obtain ⟨E1,hs1,hE1,hup⟩:=hs.enter hfree hE0 (o:=.loop (rec .ready none)) rfl
 obtain ⟨W1,hW1⟩:∃ W1,(w.alloc (.deferred (some []))).alloc (.loop (rec .ready none))=W1:=⟨_,rfl⟩
 rw[hW1] at hs1 hup
 obtain ⟨l,hl⟩:∃ l,l=w.heap.size+1:=⟨_,rfl⟩
 rw[←hl] at hE1
 obtain ⟨yv,hyv⟩:∃ yv:Value,yv=.func (.yield l) #[] #[]:=⟨_,rfl⟩
 obtain ⟨a1,ha1⟩:∃ a1:Act,a1 = { a with defers := { target:=.collected w.heap.size,args := #[] } :: a.defers } :=⟨_,rfl⟩
 rw[←ha1] at hs1
 refine ⟨l,[{ target:=.collected w.heap.size,args := #[] }],W1,{ target:=.fn (.func g) vs.toArray,args := #[yv] },W1,g,#[yv]++vs.toArray,W1,?_,?_,?_,?_,fun _=>by decide,?_⟩
 ·rw[←hW1,hrec,hl]
  exact run_enterLoop_outer _ _ _ _ _
 ·simp only[resolve,hval,hyv]
  simp[go_sem]
 ·intro f' _;trivial
 ·simp only[invoke,xP hcb]
 ·-- the iterator's own bargain
  have hG0:=hI 0 osb0 h0
  obtain ⟨I',hI'⟩:∃ I':Nat→List (Nat×ah)→Prop,I'=fun k os=>∃ osb,os=dy (.loop (rec .ready none)) osb∧ai k osb:=⟨_,rfl⟩
  obtain ⟨Ix',hIx'⟩:∃ Ix':List (Nat×ah)→Prop,Ix'=fun os=>∃ e osb,os=dy (.loop (rec .done (some (wv e)))) osb∧Ix e osb:=⟨_,rfl⟩
  obtain ⟨os1,hos1⟩:∃ os1,os1=dy (.loop (rec .ready none)) osb0:=⟨_,rfl⟩
  obtain ⟨Y,hY⟩:∃ Y:Value→List I→List (Nat×ah)→cS→Prop,Y=fun v args os post=>v=yv∧∃ k,args=item k∧k<N∧I' k os∧∀ r os2,(r=.bool true∧I' (k+1) os2)∨(r=.bool false∧Ix' os2)→post r os2:=⟨_,rfl⟩
  have jT:∀ k os',I' k os'→fh os1 os':=fun k os' h=>by
   rw[hI'] at h;obtain ⟨osb,rfl,h⟩:=h
   rw[hos1];exact (hI k osb h).dy _ _
  have goodx:∀ os',Ix' os'→fh os1 os':=fun os' h=>by
   rw[hIx'] at h;obtain ⟨e,osb,rfl,h⟩:=h
   rw[hos1];exact (hIx e osb h).dy _ _
  have hctr:=hit Y yv I' Ix' os1 (by rw[hyv];rfl) (fun k os' post hk h1 h2=>by rw[hY];exact ⟨rfl,k,rfl,hk,h1,h2⟩) jT goodx (by rw[hI'];exact ⟨osb0,hos1,h0⟩)
  have hgv1:fT ρ os1 ((999999,.dB (.loop (rec .ready none)))::os0):=by rw[hos1];exact hgv _
  obtain ⟨A0,hA0⟩:∃ A0:ab,A0=au ts ((999999,.dB (.loop (rec .ready none)))::os0):=⟨_,rfl⟩
  have hand:pS (Calls c.P g) (fun w D E=>∀ n,oF ⟨c.P,w,D,n,di E,E,Y,none⟩) (.raw yv::caps) os1 (fun r os'=>r=.tuple []∧(I' N os'∨Ix' os')):=fun w D E vs hy hlive hheld hv=>by
   refine (hctr.2 w D E vs hy hlive hheld hv).mono fun e w' ⟨v,he,D',E',r,os',q⟩=>⟨v,D',E',r,os',he,q⟩
  have hshare:=hs1.oo
  obtain ⟨Dh,hDh⟩:∃ Dh,Dh=oe (au ts ((999999,.dB (.loop (rec .ready none)))::os0)) D E1:=⟨_,rfl⟩
  rw[←hDh] at hshare
  have hsh:=hshare.1
  obtain ⟨Eh,hEh⟩:∃ Eh,Eh=aq ρ os1 E1:=⟨_,rfl⟩
  have isrec:al os1 1999999=true:=by rw[hos1,lu];simp
  have hEl:Eh 1999999=some (.op l):=by rw[hEh];simp only[aq,isrec,if_true,hρ];exact hE1
  have EhIn:∀ n e,Eh n=some e→al os1 n=true:=fun n e h=>by
   rw[hEh] at h;simp only[aq] at h;split at h
   ·assumption
   ·cases h
  have hyok:∀ n,oF ⟨c.P,W1,Dh,n,di Eh,Eh,Y,none⟩:=by
   intro n v' args os' post' hYv w2 D2 E2 vs2 hsince hlive hheld hrvs
   rw[hY] at hYv
   obtain ⟨rfl,k,rfl,hkN,hIk,hpost⟩:=hYv
   have hIk0:=hIk
   rw[hI'] at hIk
   obtain ⟨osb,rfl,hIk⟩:=hIk
   have gk:=jT k _ hIk0
   have gkb:=hI k osb hIk
   have in2:∀ m,al os1 m=true→E2 m≠none:=fun m hm=>by
    rw[←gk.same m] at hm
    cases hx:aj (dy (.loop (rec .ready none)) osb) m with
    |none=>simp[al,hx] at hm
    |some x=>have:=hheld.bR m;rw[hx] at this;exact sS this
   have same2:∀ m e,Eh m=some e→e.eL=true→E2 m=some e:=fun m e he hfx=>by
    rcases hsince.dP m e he with h | ⟨e',h,hle⟩
    ·exact absurd h (in2 m (EhIn m e he))
    ·rw[hle.eq hfx] at h;exact h
   have hEl2:E2 1999999=some (.op l):=same2 _ _ hEl rfl
   have hob:=hheld.bR 1999999
   rw[pc,if_pos rfl] at hob
   obtain ⟨b,j1,_,j3,_,_⟩:=hob
   rw[hEl2] at j1
   cases j1
   have hsz:vs2.toArray.size=cps.size:=by have:=xW hrvs;rw[hlen] at this;simpa using this
   have hyr:=run_yield (P:=c.P) (args:=vs2.toArray) j3 (by rw[hrec];exact hsz)
   rw[hrec] at hyr
   refine ⟨l,hyv,fn,_,cx,cy,hyr,roundIn_of_wpIn trivial ?_⟩
   clear hyr
   -- the round's own frame
   obtain ⟨cr,hcr⟩:∃ cr:cK,cr=⟨c.P,w2,D2,c.n,di E2,E2,ig,some l⟩:=⟨_,rfl⟩
   have hFr:cr.bn=Fence.wide.inRound l:=by rw[hcr];rfl
   have hlat:dE W1 Dh Eh w2 D2 E2:=by
    refine ⟨hsince.cG,hsince.fr.cell,fun m b aJ he=>same2 m _ he rfl,fun m aA l he =>?_,fun m b he=>same2 m _ he rfl,fun m b he=>same2 m _ he rfl,hsince.fr.jf⟩
    rcases hsince.dP m _ he with h | ⟨e',h,hle⟩
    ·exact absurd h (in2 m (EhIn m _ he))
    ·rcases hle with rfl | ⟨_,_,blk',l',e,rfl,k1,k2⟩
     ·exact ⟨aA,l,h,Nat.le_refl _,fun _=>rfl⟩
     ·cases e;exact ⟨blk',l',h,k1,k2⟩
   have hslots:mD ρ (al os1) ts tsR:=by
    have:∀ tsR:List (Nat×I),mD ρ (al osb0) ts tsR→mD ρ (al os1) ts tsR:=by
     intro tsR
     induction tsR with
     |nil=>exact fun h=>h
     |cons q r ih =>
      intro h
      obtain ⟨h1,h2,h3⟩:=h
      exact ⟨h1,iK (fun n hn=>by rw[hos1,lu,hn];simp) _ h2,ih h3⟩
    exact this tsR hts
   have hsr:aN cr (au tsR (dy (.loop (rec .ready none)) osb)) { tmps:=a.tmps,defers:=[] } w2 D2 E2:=by
    rw[hcr]
    refine ⟨hs.sz,⟨[],rfl,.nil,fun _ h=>by simp at h⟩,fun t =>?_,fw.refl _ _,fun _ _ h _=>h,hlive,fun m=>(hheld.bR m).ma fun e b he hb=>.inr ⟨m,e,he,hb⟩,hheld.cN,fun _ e h=>.inr ⟨e,h,.refl e⟩,fun m hm =>?_,fun _ _ h=>h,(fun _ _ _ _ h=>h.elim),.refl _ _⟩
    ·rcases Mn hslots t with h | ⟨h1,h2⟩
     ·simp only[au];rw[h];simp[aR]
     ·have h3:=hsh.eb t
      rw[ha1] at h3
      simp only[au] at h3 ⊢
      rw[h1] at h3
      have h4:=(aR.aK (w:=W1) (D:=Dh) (p:=al os1) (ρ:=bA ρ) (E:=Eh) (E':=E1) (fun n hn=>by rw[hEh];simp only[aq,hn,if_true]) h2).1 h3
      exact aR.bC hlat h4
    ·have hmi:al os1 m=true:=by
      rw[←gk.same m]
      have:=hheld.bR m
      cases hx:aj (dy (.loop (rec .ready none)) osb) m with
      |none=>rw[hx] at this;exact absurd this hm
      |some x=>simp[al,hx]
     have:=gk.nL m hmi
     exact ⟨Nat.le_trans hn6 this,this⟩
   have hsp:=aN.J5 cps.toList vs2 (item k) tsR _ hsr (fun p hp=>by rw[hcr];have:=List.all_eq_true.1 hpn p hp;simpa using this) hrvs (by have:=hsz;simpa using this.symm)
   have htm:(cps.zip vs2.toArray).foldl (fun t (q:Tmp×Value)=>t.setIfInBounds q.1 q.2) a.tmps=(cps.toList.zip vs2).foldl (fun t q=>t.setIfInBounds q.1 q.2) a.tmps:=by
    rw[←Array.foldl_toList];simp
   have hx:=hround k osb hkN hIk w2 D2 E2 l (.loop (rec .ready none)) (.loop { rec .ready none with state:=.busy })
   rw[←hcr] at hx
   have hx1:=hx cx (by rw[hcr];exact hcx) _ w2 ⟨D2,E2,hsp⟩
   rw[hFr] at hx1
   simp only[←htm] at hx1
   rw[hcr] at hx1
   refine wpIn_mono hx1 ?_
   rintro e ax wx ⟨B,hq,hsx⟩
   rw[←hcr] at hq hsx
   cases e <;>simp only[ao] at hq <;>try exact hq.elim
   simp only[Exit.then]
   obtain ⟨hB1,hB2⟩:=hq
   obtain ⟨Dx,Ex,hsx⟩:=hsx
   have hElx:Ex 1999999=some (.op l):=by
    have ho:=hsx.bR 1999999
    rw[hB1] at ho
    rcases hsx.Cn (n:=1999999) (by rw[hcr];exact hEl2) rfl with h | h
    ·exact absurd h (sS ho)
    ·exact h
   have hLx:wx.heap[l]?=some (.loop (rec .ready none)):=by
    have ho:=hsx.bR 1999999
    rw[hB1] at ho
    obtain ⟨b,k1,_,k3,_⟩:=ho
    rw[hElx] at k1;cases k1;exact k3
   refine ⟨_,run_beginRound hLx (by rw[hrec]),?_⟩
   have hsb:=hsx.xZ (o':=.loop { rec .ready none with state:=.busy }) hB1 hElx rfl
   have hy1:=hB2 cy (by rw[hcr];exact hcy) _ _ ⟨Dx,Ex,hsb⟩
   rw[hFr] at hy1
   rw[hcr] at hy1
   refine wpIn_mono hy1 ?_
   rintro e a3 w3 ⟨A3,hq3,D3,E3,hs3⟩
   rw[←hcr] at hs3
   -- the end of the round
   have a6:∀ (os:List (Nat×ah)) (jump:Option Code),pQ (.loop { rec .ready none with state:=.busy }) A3 os→(post' (.bool jump.isNone) (dy (.loop (rec (if jump.isNone then .ready else .done) jump)) os)) →
     ∃ v w',(Instr.endRound l jump).run c.P w3=.ok v w'∧(fun e w'=>∃ v D' E' r os',e=Ending.returned v∧post' r os'∧aR w' D' E' r v∧kO (fun b=>w2.heap.size≤b∨di E2 b) w' D' E' (aj os') ∧
      fw (fun b=>w2.heap.size≤b∨di E2 b) w2 w'∧(∀ b o,D2 b o→D' b o)∧(∀ b o,D' b o→b<w'.heap.size)∧(∀ b o,D' b o→b<w2.heap.size→¬ di E2 b→D2 b o) ∧
      (∀ n e,E2 n=some e→al os' n=true→∃ e',E' n=some e'∧e.le e')∧gX w2 D2 w') (.returned v) w':=fun os jump hbk hp=>by
    have hA3:A3.o 1999999=some (.dB (.loop { rec .ready none with state:=.busy })):=(hbk 1999999 _ (by rw[pc,if_pos rfl])).1
    have hEl3:E3 1999999=some (.op l):=by
     have ho:=hs3.bR 1999999
     rw[hA3] at ho
     rcases hs3.Cn (n:=1999999) (by rw[hcr];exact hEl2) rfl with h | h
     ·exact absurd h (sS ho)
     ·exact h
    have hL3:w3.heap[l]?=some (.loop { rec .ready none with state:=.busy }):=by
     have ho:=hs3.bR 1999999
     rw[hA3] at ho
     obtain ⟨b,k1,_,k3,_⟩:=ho
     rw[hEl3] at k1;cases k1;exact k3
    have hend:=run_endRound (P:=c.P) jump hL3
    have erec:({ rec .ready none with state:=if jump.isNone then LoopState.ready else .done,pending:=jump } : Loop)=rec (if jump.isNone then .ready else .done) jump:=by rw[hrec]
    have hend':(Instr.endRound l jump).run c.P w3=.ok (.bool jump.isNone) (w3.putObj l (.loop (rec (if jump.isNone then .ready else .done) jump))):=by
     rw[hend];rw[hrec]
    have hs4:=hs3.xZ (o':=.loop (rec (if jump.isNone then .ready else .done) jump)) hA3 hEl3 rfl
    rw[hcr] at hs4
    obtain ⟨D',E',_,_,_,q1,q2,q3,q4,q5,q6⟩:=hs4.IM (adt hbk _)
    exact ⟨_,_,hend',_,D',E',.bool jump.isNone,_,rfl,hp,⟨[.bool jump.isNone],by simp[bB,I.isAgg],by simp[af]⟩,q1,q2,q3,q4,q5,q6⟩
   cases e with
   |normal =>
    obtain ⟨os,hbk,hin⟩:=hq3
    exact a6 os none hbk (hpost _ _ (.inl ⟨rfl,by rw[hI'];exact ⟨os,rfl,hin⟩⟩))
   |ret =>
    obtain ⟨os,hbk,hin⟩:=hq3
    exact a6 os (some .ret) hbk (hpost _ _ (.inr ⟨rfl,by rw[hIx'];exact ⟨none,os,rfl,hin⟩⟩))
   |exit id =>
    obtain ⟨os,hbk,hin⟩:=hq3
    exact a6 os (some (.exit id)) hbk (hpost _ _ (.inr ⟨rfl,by rw[hIx'];exact ⟨some id,os,rfl,hin⟩⟩))
   |goto t=>exact hq3.elim
   |panic ch=>exact hq3.elim
   |outgrown=>exact hq3.elim
  -- the call
  have hargs:fH (aR W1 D E1) (.raw yv::caps) (yv::vs):=by
   exact .cons ⟨[yv],by simp[bB,I.isAgg],by rw[hyv];exact ⟨rfl,rfl⟩⟩ (xT (hup caps vs hvs))
  have hus:=hand.use (ρ:=ρ) hs1 false (fun h=>h.mono) ⟨(fun h=>by cases h),fun _=>by rw[←hDh,←hEh];exact hyok⟩ hgv1 (ue _ (by simp[I.bT,I.bl,hcl]))
   (fun r os' hp=>by
    have gg:fh os1 os':=by
     rcases hp.2 with h | h
     ·exact jT _ _ h
     ·exact goodx _ h
    refine ⟨fun m x hx=>⟨(gg.ok m x hx).1,(gg.ok m x hx).2,fun h=>by cases h⟩,fun m m' h1 h2=>hgv1.inj m m' (by rw[←gg.same];exact h1) (by rw[←gg.same];exact h2),fun m hm=>by rw[gg.same];exact hm,fun m h1 h2=>(by rw[gg.same,h2] at h1;cases h1),(by rw[hp.1];simp[I.only,I.bV]),fun h=>by cases h⟩) hargs
  have ecl : #[yv]++vs.toArray=(yv::vs).toArray:=by simp
  rw[ecl]
  refine CallsIn.mono (callsIn_wide.2 hus) ?_
  rintro e w3 ⟨v,r,os',D2,E2,rfl,hp,hs2,_,hE2⟩
  have key:∀ (o3:Obj) (osb:List (Nat×ah)),os'=dy o3 osb→o8 o3=true→E2 999999=some (.op l)∧w3.heap[l]?=some o3∧∀ o4,o8 o4=true→ct c (au ts (dI ρ osb++os0)) a1 (w3.putObj l o4):=fun o3 osb he h3=>by
   subst he
   have hn2:E2 999999=some (.op l):=by
    obtain ⟨e',h1,h2⟩:=hE2 1999999 (.op l) (by rw[←hEh];exact hEl) (by rw[lu];simp)
    rw[hρ] at h1
    rw[h1,h2.eq rfl]
   have eos:dI ρ (dy o3 osb)=(999999,.dB o3)::dI ρ osb:=by simp only[dy,dI,List.map_cons,hρ,ah.aK]
   rw[eos] at hs2
   have ha:(au ts ((999999,ah.dB o3)::dI ρ osb++(999999,.dB (.loop (rec .ready none)))::os0)).o 999999=some (.dB o3):=by simp[au,aj]
   have hgb:∀ m,al osb m=true→bA ρ m≠999999:=fun m hm e=>by
    have h5:al (dy o3 osb) m=true:=by rw[lu,hm];simp
    have g5:fh os1 (dy o3 osb):=by
     rcases hp.2 with h | h
     ·exact jT _ _ h
     ·exact goodx _ h
    have h6:=hgv1.inj m 1999999 (by rw[←g5.same];exact h5) isrec (by rw[hρ];exact e)
    subst h6
    have h7:fh osb0 osb:=by
     rcases hp.2 with h | h
     ·rw[hI'] at h;obtain ⟨osb',h8,h9⟩:=h
      simp only[dy,List.cons.injEq] at h8
      rw[h8.2];exact hI _ _ h9
     ·rw[hIx'] at h;obtain ⟨e,osb',h8,h9⟩:=h
      simp only[dy,List.cons.injEq] at h8
      rw[h8.2];exact hIx _ _ h9
    rw[h7.same,h19] at hm;cases hm
   refine ⟨hn2,?_,fun o4 h4 =>?_⟩
   ·have ho:=hs2.bR 999999
    rw[ha] at ho
    obtain ⟨b,k1,_,k3,_⟩:=ho
    rw[hn2] at k1;cases k1;exact k3
   ·have h5:=(hs2.xZ (o':=o4) ha hn2 h4).Wb hn2
    have hst:(⟨((au ts ((999999,ah.dB o3)::dI ρ osb++(999999,.dB (.loop (rec .ready none)))::os0)).aL 999999 (.dB o4)).t,fun m=>if m=999999 then none else
      ((au ts ((999999,ah.dB o3)::dI ρ osb++(999999,.dB (.loop (rec .ready none)))::os0)).aL 999999 (.dB o4)).o m⟩:ab)=au ts (dI ρ osb++os0):=by
     simp only[au,ab.aL]
     congr 1
     funext m
     by_cases hm:m=999999
     ·subst hm
      simp only[if_true,qz]
      cases hq:pre ρ osb 999999 with
      |none=>exact hfree.symm
      |some k=>exact absurd (lD hq).2 (hgb k (lD hq).1)
     ·simp only[if_neg hm,List.cons_append,aj,qz]
    rw[hst] at h5
    exact ⟨D2,_,h5⟩
  rcases hp.2 with h | h
  ·rw[hI'] at h
   obtain ⟨osb,he,hin⟩:=h
   obtain ⟨k1,k2,k3⟩:=key _ osb he rfl
   refine ⟨none,_,(by have:=run_endLoop (P:=c.P) k2 (by rw[hrec];simp);rw[hrec] at this;exact this),_,hdone osb hin,?_⟩
   have:=k3 (.loop { rec .ready none with state:=.exhausted }) rfl
   rw[ha1] at this
   rw[hrec] at this
   exact this
  ·rw[hIx'] at h
   obtain ⟨e,osb,he,hin⟩:=h
   obtain ⟨k1,k2,k3⟩:=key _ osb he rfl
   refine ⟨some (wv e),_,(by have:=run_endLoop (P:=c.P) k2 (by rw[hrec];simp);rw[hrec] at this;exact this),?_⟩
   have:=k3 (.loop { rec .done (some (wv e)) with state:=.exhausted }) rfl
   rw[ha1] at this
   rw[hrec] at this
   have hq:IS c Q (B7 e) { a with defers := { target:=.collected w.heap.size,args := #[] } :: a.defers } _:=⟨_,hexit e osb hin,this⟩
   cases e with
   |none=>exact wpIn_ret hq
   |some id=>exact wpIn_exit hq
end
mutual
theorem lE{ρ:Nat→Nat}(h:∀ n,ρ n=n):∀ x:I,x.aK ρ=x
 | .agg fs | .tuple fs=>by simp only[I.aK];rw[mn h fs]
 | .slice _ es=>by simp only[I.aK];rw[mn h es]
 | .ref x=>by simp only[I.aK];rw[lE h x]
 | .func _ caps=>by simp only[I.aK];rw[mn h caps]
 | .iface _ v=>by simp only[I.aK];rw[lE h v]
 | .ptr _ _ | .own _ _ | .view _ _ _ _ _ | .mref _ | .dg _=>by simp only[I.aK,h]
 | .cM ks vs=>by simp only[I.aK];rw[mn h ks,mn h vs]
 | .bool _ | .int _ _ | .cR _ | .nilp | .da | .dL | .raw _ | .nils _ | .c0 _ | .undef | .c8=>by simp only[I.aK]
theorem mn{ρ:Nat→Nat}(h:∀ n,ρ n=n):∀ xs:List I,I.cP ρ xs=xs
 | []=>rfl
 |x::xs=>by simp only[I.cP];rw[lE h x,mn h xs]
end
theorem ah.lE{ρ:Nat→Nat}(h:∀ n,ρ n=n):∀ x:ah,x.aK ρ=x
 | .box x=>by simp only[ah.aK,Abs.lE h]
 | .bS _ _ es=>by simp only[ah.aK,mn h]
 | .dB _=>rfl
 | .cO _ _=>rfl
 | .cu _ _=>by simp only[ah.aK,mn h]
 | .it _ _ _ _=>by simp only[ah.aK,mn h]
theorem tl(os:List (Nat×ah)):dI [] os=os:=by
 simp only[dI]
 have:(fun q:Nat×ah=>(bA [] q.1,q.2.aK (bA [])))=id:=by
  funext q
  rw[ah.lE (ρ:=bA []) (fun n=>rfl)];rfl
 rw[this,List.map_id]
theorem jX(a b:List (Nat×ah))(n:Nat):aj (a++b) n=match aj a n with
  |some x=>some x
  |none=>aj b n:=by
 induction a with
 |nil=>rfl
 |cons q a ih =>
  obtain ⟨k,v⟩:=q
  simp only[List.cons_append,aj]
  split
  ·rfl
  ·exact ih
theorem fh.none{os os':List (Nat×ah)}(h:fh os os'){n:Nat}(hn:n<1000000):aj os' n=none:=by
 cases hx:aj os' n with
 |none=>rfl
 |some x =>
  have h1:al os' n=true:=by simp[al,hx]
  rw[h.same] at h1
  exact absurd (h.nL n h1) (by omega)
theorem aE.c5{ts ts':List (Nat×I)}{os os':List (Nat×ah)}(h1:aT ts ts')(h2:∀ n,aj os n=aj os' n):aE (au ts os) (au ts' os'):=by
 have e:au ts os=au ts os':=by
  simp only[au];congr 1;funext n;exact h2 n
 rw[e]
 rintro c a w ⟨D,E,hs⟩
 refine ⟨D,E,hs.sz,hs.eK,fun t =>?_,hs.dN,hs.cY,hs.c9,hs.bR,hs.cN,hs.dP,hs.eU,hs.cG,hs.eY,hs.fr⟩
 rcases x9 h1 t with h | h
 ·simp only[au];rw[h];simp[aR]
 ·have:=hs.eb t
  simp only[au] at *
  rw[h];exact this
theorem zb{os osk os2 ow:List (Nat×ah)}{ts:List (Nat×I)}(h1:fh os osk)(h2:fh os os2)(how:∀ m,al ow m=true→m<1000000):au ts (dI [] os2++(ow++osk))=au ts (ow++os2):=by
 simp only[au,tl]
 congr 1
 funext n
 simp only[jX]
 cases hw:aj ow n with
 |none =>
  simp only
  cases h3:aj os2 n with
  |some x=>rfl
  |none =>
   simp only
   cases h4:aj osk n with
   |none=>rfl
   |some x =>
    have h5:al osk n=true:=by simp[al,h4]
    rw[h1.same,←h2.same] at h5
    simp[al,h3] at h5
 |some x =>
  simp only
  rw[h2.none (how n (by simp[al,hw]))]
theorem fT.jT{os osk ow:List (Nat×ah)}(h1:fh os osk)(how:∀ m,al ow m=true→m<1000000):fT [] osk (ow++osk):=by
 refine ⟨fun m x hx =>?_,fun m m' _ _ h=>h⟩
 have hm:al osk m=true:=by simp[al,hx]
 have hg:=h1.nL m (by rw[←h1.same];exact hm)
 obtain ⟨k1,k2⟩:=h1.ok m x hx
 refine ⟨?_,k1,k2⟩
 rw[ah.lE (ρ:=bA []) (fun n=>rfl)]
 simp only[bA,jX]
 cases hw:aj ow m with
 |none=>exact hx
 |some y=>have:=how m (by simp[al,hw]);omega
theorem er.jT{os osk os2 os0:List (Nat×ah)}{r:I}(h1:fh os osk)(h2:fh os os2)(hr:r.bl=true):er false [] osk os0 r os2:=by
 refine ⟨fun m x hx=>⟨(h2.ok m x hx).1,(h2.ok m x hx).2,fun h=>by cases h⟩,fun m m' _ _ h=>h,fun m hm=>by rw[h2.same,←h1.same];exact hm,fun m h3 h4 =>?_,mf _ r hr,fun h=>by cases h⟩
 rw[h2.same,←h1.same,h4] at h3;cases h3
theorem a7.MY{P:Program}{Y:Value→List I→List (Nat×ah)→cS→Prop}{K:ab→Prop}{v:Value}{vs:List I}{dst:Option Nat}{rest:List av}{ts:List (Nat×I)}{os osk ow:List (Nat×ah)}{In Ix:List (Nat×ah)→Prop}
  (hY:Y v vs osk (fun r os2=>(r=.bool true∧In os2)∨(r=.bool false∧Ix os2))) (hk:fh os osk) (hi:∀ os',In os'→fh os os') (hx:∀ os',Ix os'→fh os os') (hcl:I.bT vs=true) (how:∀ m,al ow m=true→m<1000000)
  (h1:∀ os2,In os2→a7 P Y false K (az rest ((au ts (ow++os2)).aI dst (.bool true)))) (h2:∀ os2,Ix os2→a7 P Y false K (az rest ((au ts (ow++os2)).aI dst (.bool false)))) :
  a7 P Y false K (.oO v vs dst rest (au ts (ow++osk))):=by
 refine .yj osk vs _ rfl hY (fT.jT hk how) (ue vs hcl) ?_ ?_
 ·rintro r os' (⟨rfl,h⟩ | ⟨rfl,h⟩)
  ·exact er.jT hk (hi _ h) rfl
  ·exact er.jT hk (hx _ h) rfl
 ·rintro r os' (⟨rfl,h⟩ | ⟨rfl,h⟩)
  ·rw[zb hk (hi _ h) how];exact h1 os' h
  ·rw[zb hk (hx _ h) how];exact h2 os' h
theorem Bk(A:ab)(d:Option Nat)(args:List I)(rest:List av)(v:Value):rN A d args rest (.raw v)=.oO v args d rest A:=rfl
def lQ(w:World):aH:=fun b _=>b<w.heap.size
structure jr (P:Program) (t:TypeId) (α:Type) [Enc α]:Prop where
 cells:P.cellsOf t=Enc.sz α
 J1:0<Enc.sz α
 sY:∀ {H:Type} {enc0:TypeId×Value→H} {w:World} {fuel:Nat} {cs:List Value} {x:DataW H×List MemPlace},DataW.trod enc0 P w 0 (fun _=>true) true fuel t cs=some x→∃ a:α,af w (lQ w) dz (enc a) cs
theorem af5{P:Program}{t:TypeId}(ht:P.underlying t=some (.int .i64))(hc:P.cellsOf t=1):jr P t Int :=
 ⟨hc,by decide,fun h=>by
  obtain ⟨n,rfl,_,hw⟩:=DataW.trod_int ht h
  refine ⟨n,?_⟩
  rw[iZ,af]
  simp only[Lit.wf,Bool.and_eq_true,decide_eq_true_eq] at hw
  exact ⟨rfl,hw.1,hw.2⟩⟩
theorem Bt{α:Type}[Enc α]{w:World}{D:aH}(c:Nat):∀ (n:Nat) (cs:List Value),cs.length=n*c→(∀ i,i<n→∃ a:α,af w D dz (enc a) ((cs.drop (i*c)).take c))→∃ l:List α,l.length=n∧aF w D dz (l.map enc) cs
 |0,cs,hl,_=>⟨[],rfl,by simp only[Nat.zero_mul,List.length_eq_zero_iff] at hl;subst hl;simp[aF]⟩
 |n+1,cs,hl,h=>by
  obtain ⟨a,ha⟩:=h 0 (by omega)
  simp only[Nat.zero_mul,List.drop_zero] at ha
  obtain ⟨l,h1,h2⟩:=Bt c n (cs.drop c) (by rw[List.length_drop,hl,Nat.succ_mul];omega) (fun i hi=>by
   obtain ⟨b,hb⟩:=h (i+1) (by omega)
   refine ⟨b,?_⟩
   rw[List.drop_drop]
   rwa [Nat.succ_mul,Nat.add_comm] at hb)
  refine ⟨a::l,by simp[h1],?_⟩
  simp only[List.map_cons,aF]
  exact ⟨cs.take c,cs.drop c,(List.take_append_drop c cs).symm,ha,h2⟩
theorem ahI{H:Type}{enc0:TypeId×Value→H}{P:Program}{w:World}{base:Nat}{spare:Nat→Bool}{held:Bool}{fuel n:Nat}{t e:TypeId}{cs:List Value}{x:DataW H×List MemPlace}(ht:P.underlying t=some (.array n e))(h:DataW.trod enc0 P w base spare held fuel t cs=some x) :
  ∃ (xs:List (DataW H×List MemPlace)) (m:Nat),cs.length=P.cellsOf t∧xs.length=n∧∀ (i:Nat),i<n→DataW.trod enc0 P w base spare held m e ((cs.drop (i*P.cellsOf e)).take (P.cellsOf e))=xs[i]?:=by
 cases fuel with
 |zero=>simp[DataW.trod] at h
 |succ m =>
  unfold DataW.trod at h
  rw[ht] at h
  split at h <;>simp_all
  obtain ⟨hl,xs,hp,hd⟩:=h
  exact ⟨xs,by simpa using mapM_some_length hp,m,fun i hi=>mapM_some_get hp i i (by simp[hi])⟩
theorem JO{P:Program}{t e:TypeId}{n:Nat}{α:Type}[Enc α](ht:P.underlying t=some (.array n e))(he:jr P e α)(hc:P.cellsOf t=n*Enc.sz α)(hn:0<n):jr P t (aM n α) :=
 ⟨hc,Nat.mul_pos hn he.J1,fun {H enc0 w fuel cs x} h=>by
  obtain ⟨xs,m,hl,hx,hp⟩:=ahI ht h
  obtain ⟨l,h1,h2⟩:=Bt (α:=α) (w:=w) (D:=lQ w) (Enc.sz α) n cs (by rw[hl,hc]) (fun i hi=>by
   have h3:=hp i hi
   rw[he.cells,List.getElem?_eq_getElem (by omega)] at h3
   exact he.sY h3)
  refine ⟨⟨l,h1⟩,?_⟩
  show af w (lQ w) dz (.agg (l.map enc)) cs
  simp only[af]
  exact h2⟩
theorem OC(a:Addr)(i j:Nat):(a.add i).add j=a.add (i+j):=by
 unfold Addr.add
 by_cases hi:i=0 <;>by_cases hj:j=0 <;>simp[hi,hj,Nat.add_assoc]
theorem JP{P:Program}{t e:TypeId}{α:Type}[Enc α](ht:P.underlying t=some (.slice e))(he:jr P e α)(hc:P.cellsOf t=1):jr P t (List α) :=
 ⟨hc,by rw[uO];exact Nat.one_pos,fun {H enc0 w fuel cs x} h=>by
  rcases DataW.trod_slice ht h with ⟨rfl,_⟩ | ⟨a,len,cap,elems,rest,n,_,rfl,_,hb,hl,hm,hlen,hel,_⟩
  ·refine ⟨[],?_⟩
   simp only[fW,List.map_nil]
   rw[af]
   exact ⟨none,0,rfl,Nat.le_refl _,by decide,.inl rfl,by simp⟩
  ·have key:∀ k,k≤len→∃ (l:List α) (cs':List Value),l.length=k∧aF w (lQ w) dz (l.map enc) cs'∧cs'.length=k*Enc.sz α∧∀ j v,cs'[j]?=some v→w.cell? (a.add j)=some v:=by
    intro k
    induction k with
    |zero=>exact fun _=>⟨[],[],rfl,by simp[aF],by simp,by simp⟩
    |succ k ih =>
     intro hk
     obtain ⟨l,cs',h1,h2,h3,h4⟩:=ih (by omega)
     have h5:=hel k (by omega)
     have h6:k<elems.length:=by omega
     rw[List.getElem?_eq_getElem h6] at h5
     obtain ⟨ce,h7,h8⟩:=Option.bind_eq_some_iff.1 h5
     obtain ⟨y,hy⟩:=he.sY h8
     rw[he.cells] at h7
     obtain ⟨_,h9,h10⟩:=World.cells?_some h7
     refine ⟨l++[y],cs'++ce,by simp[h1],?_,by rw[List.length_append,h3,h9,Nat.succ_mul],fun j v hj =>?_⟩
     ·rw[List.map_append]
      refine j6 _ _ _ _ h2 ?_
      simp only[List.map_cons,List.map_nil,aF]
      exact ⟨ce,[],by simp,hy,rfl⟩
     ·rcases Nat.lt_or_ge j cs'.length with hlt | hge
      ·rw[List.getElem?_append_left hlt] at hj
       exact h4 j v hj
      ·rw[List.getElem?_append_right hge] at hj
       have hlt:j-cs'.length<Enc.sz α:=by
        have:=(List.getElem?_eq_some_iff.1 hj).1
        omega
       have:=h10 (j-cs'.length) hlt
       rw[OC,←h3,Nat.add_sub_cancel' hge] at this
       rw[this];exact hj
   obtain ⟨l,cs',h1,h2,h3,h4⟩:=key len (Nat.le_refl _)
   refine ⟨l,?_⟩
   simp only[fW,af,List.length_map]
   refine ⟨some a,cap,by rw[h1],by omega,hm,?_,OJ l⟩
   by_cases hz:len=0
   ·left;have:l=[]:=List.length_eq_zero_iff.1 (by omega);rw[this];rfl
   right
   have hpos:0<cs'.length:=by rw[h3];exact Nat.mul_pos (Nat.pos_of_ne_zero hz) he.J1
   have h0:=h4 0 cs'[0] (List.getElem?_eq_getElem hpos)
   have hsp:a.spot=none:=by
    simp only[Addr.add,if_true] at h0
    unfold World.cell? at h0
    split at h0
    ·split at h0
     ·cases h0
     ·rename_i hs;cases hh:a.spot <;>simp_all
    ·cases h0
   have ha:∀ j,a.add j=⟨a.block,a.off+j,none⟩:=fun j=>by
    unfold Addr.add
    split
    ·rename_i hj;subst hj;cases a;simp_all
    ·rfl
   refine ⟨a.block,a.off,cs',by cases a;simp_all,fun j v hj =>?_,h2⟩
   have h5:=h4 j v hj
   rw[ha] at h5
   refine ⟨h5,?_⟩
   show (⟨a.block,a.off+j,none⟩:Addr).block<_
   exact World.block_lt_of_cell? w _ h5⟩
end Go.Abs
namespace Go.Abs
open Go Go.RowKit Go.ChangeShapes
open Enc (enc)
def ah9(P:Program)(t:TypeId)(l:List (TypeId×Nat)):Bool:=match P.underlying t with
 |some (.struct fs)=>fs.toList.map (fun f=>(f.type,f.offset))==l
 |_=>false
def IB(P:Program)(t:TypeId)(n:Nat)(e:TypeId):Bool:=match P.underlying t with
 |some (.array n' e')=>n'==n&&e'==e
 |_=>false
theorem IC{P:Program}{t:TypeId}{n:Nat}{e:TypeId}(h:IB P t n e=true):P.underlying t=some (.array n e):=by
 unfold IB at h
 split at h
 ·rename_i n' e' ht
  simp only[Bool.and_eq_true,beq_iff_eq] at h
  rw[ht,h.1,h.2]
 ·cases h
section
variable {P:Program} {t:TypeId} {α β γ:Type} [Enc α] [Enc β] [Enc γ] {H:Type} {enc0:TypeId×Value→H} {w:World} {fuel:Nat} {cs:List Value} {x:DataW H×List MemPlace}
theorem af3{base:Nat}{v:Value}{d:DataW H}{p:List MemPlace}(ho:jr P t α)(hA:Enc.fQ α=true)(hst:(match P.underlying t with | some (.struct _) | some (.array _ _)=>true | _=>false)=true)(hv:Value.okWide P w .any base t v)
  (h:DataW.Trod enc0 P w 0 (fun _=>true) true t v d p):∃ (a:α) (cs:List Value),bB (enc a) v cs∧af w (lQ w) dz (enc a) cs:=by
 obtain ⟨fuel,h⟩:=h
 have hagg:∃ cs,v=.agg cs:=by
  unfold Value.okWide at hv
  split at hst
  ·rename_i fs ht;rw[ht] at hv;obtain ⟨cs,h1,_⟩:=hv;exact ⟨cs,h1⟩
  ·rename_i n e ht;rw[ht] at hv;obtain ⟨cs,h1,_⟩:=hv;exact ⟨cs,h1⟩
  ·cases hst
 obtain ⟨cs,rfl⟩:=hagg
 have e:(Value.agg cs).cells.toList=cs.toList:=rfl
 rw[e] at h
 obtain ⟨a,ha⟩:=ho.sY h
 exact ⟨a,cs.toList,by simp[bB,Enc.agg,hA],ha⟩
theorem JN{base:Nat}{v:Value}{d:DataW H}{p:List MemPlace}(ho:jr P t α)(hA:Enc.fQ α=false)(hst:(match P.underlying t with | some (.slice _) | some (.int _) | some .bool=>true | _=>false)=true)(hv:Value.okWide P w .any base t v)
  (h:DataW.Trod enc0 P w 0 (fun _=>true) true t v d p):∃ (a:α) (cs:List Value),bB (enc a) v cs∧af w (lQ w) dz (enc a) cs:=by
 obtain ⟨fuel,h⟩:=h
 have hone:v.cells.toList=[v]:=by
  unfold Value.okWide at hv
  split at hst
  ·rename_i e ht;rw[ht] at hv;simp only[Cell.okWide,ht] at hv;cases v <;>simp_all[Cell.ok,Value.cells]
  ·rename_i e ht;rw[ht] at hv;simp only[Cell.okWide,ht] at hv;cases v <;>simp_all[Cell.ok,Value.cells]
  ·rename_i ht;rw[ht] at hv;simp only[Cell.okWide,ht] at hv;cases v <;>simp_all[Cell.ok,Value.cells]
  ·cases hst
 rw[hone] at h
 obtain ⟨a,ha⟩:=ho.sY h
 exact ⟨a,[v],by simp[bB,Enc.agg,hA],ha⟩
end
theorem agj{H:Type}{enc0:TypeId×Value→H}{P:Program}{f:Func}{s:ChangeSpec}{apart jS handsOn again:Bool}{W W':World}{args:Array Value}{v:Value}{ds gs:List (DataW H)}{before pa pv:List MemPlace}
  (hW:DataW.Whole enc0 P f.params.toList s.vars apart W args.toList ds gs before)
  (hres:∀ (b:Nat) (sp:Nat→Bool) (hd:Bool),DataW.TrodAll enc0 P W' b sp hd f.resultTypes.toList (v.resultList f.resultTypes.size) (s.fn H (ds++gs)).results [])
  (hargs:∀ sp:Nat→Bool,(∀ p∈before,sp p.block=true)→DataW.TrodAll enc0 P W' 0 sp true f.params.toList args.toList (s.fn H (ds++gs)).args pa)
  (hvars:∀ sp:Nat→Bool,(∀ p∈before,sp p.block=true)→DataW.TrodVars enc0 P W' sp s.vars (s.fn H (ds++gs)).vars pv)
  (hps:before=pa++pv) (hb:Below W.heap.size W W')
  (hok:∀ (j:Nat) (t:TypeId) (r:Value),f.resultTypes[j]?=some t→(v.resultList f.resultTypes.size)[j]?=some r→Value.okWide P W' .any 0 t r) :
  s.post enc0 P f apart jS handsOn again W args v W':=by
 have hlt:∀ p∈before,p.block<W.heap.size:=fun p hp=>by simpa using hW.lt p hp
 have hold:∀ p∈before,(fun b=>decide (b<W.heap.size)) p.block=true:=fun p hp=>by simpa using hlt p hp
 refine ⟨ds,gs,before,[],pa,pv,hW,hres _ _ _,hargs _ hold,hvars _ hold,World.keptBut_mono (fun p hp=>⟨hp,?_⟩) (hb.frame (· ∈ before)),fun _ =>?_⟩
 ·rw[hps,List.mem_append] at hp
  exact Or.inr hp
 ·obtain ⟨_,_,_,_,_,hz,hn⟩:=hW
  refine ⟨hok,_,_,([]++pa)++pv,⟨[]++pa,pv,trodAll_append (hargs _ (fun _ _=>rfl)) (hres _ _ _),hvars _ (fun _ _=>rfl),rfl,?_,?_⟩,?_⟩
  ·intro b off hp
   have hp':MemPlace.cell b off∈before:=by rw[hps];simpa using hp
   rw[hb.frozen (p:=⟨b,off,none⟩) (hlt _ hp')]
   exact hz b off hp'
  ·intro ha
   have:=hn ha
   rw[hps] at this
   simpa using this
  ·intro p hp _
   rw[hps]
   simpa using hp
theorem ad0{P:Program}{f:FuncId}{fn:Func}{s:ChangeSpec}{H:Type}{enc0:TypeId×Value→H}{W:World}{ds gs:List (DataW H)}{before:List MemPlace}{xs:List I}{tb:TypeId}{v0 v1 v2:Value}{t0 t1 t2:TypeId}{d0 d1 d2:DataW H}{p0 p1 p2:List MemPlace}{again handsOn jS:Bool}
  (hl:laidOutB P=true) (hpar:fn.params.toList=[t0,t1,t2]) (hds:ds=[d0,d1,d2]) (hgs:gs=[]) (hbef:before=p0++p1++p2)
  (hvars:s.vars=[]) (hfn:s.fn H [d0,d1,d2] = { results:=[.lit (.bool true)],args:=[d0,d1,d2] }) (hres:fn.resultTypes = #[tb]) (htb:P.underlying tb=some .bool)
  (hW:DataW.Whole enc0 P fn.params.toList s.vars false W #[v0,v1,v2].toList ds gs before)
  (h0:DataW.Trod enc0 P W 0 (fun _=>true) true t0 v0 d0 p0) (h1:DataW.Trod enc0 P W 0 (fun _=>true) true t1 v1 d1 p1) (h2:DataW.Trod enc0 P W 0 (fun _=>true) true t2 v2 d2 p2)
  (hr:∀ t∈[t0,t1,t2],P.readableRec t=true∧t<P.types.size)
  (hctr:aB P f xs (enc true)) (hv:aD W (lQ W) dz xs [v0,v1,v2]) :
  Calls P f #[v0,v1,v2] W fun e W'=>∃ v,e=.returned v∧s.post enc0 P fn false jS handsOn again W #[v0,v1,v2] v W':=by
 subst hds hgs
 refine (hctr.2 W (lQ W) [v0,v1,v2] (fun _ _ h=>h) hv).mono fun e W' ⟨v,D',he,hrv,hb,_,_⟩=>⟨v,he,?_⟩
 have hvb:v=.bool true:=lH hrv
 subst hvb
 have hlt:∀ x∈before,x.block<W.heap.size:=fun x hx=>by simpa using hW.lt x hx
 rw[hbef] at hlt
 refine agj (pa:=p0++(p1++p2)) (pv:=[]) hW (fun _ _ _ =>?_) (fun sp hsp =>?_) (fun _ _ =>?_) (by rw[hbef];simp) hb ?_
 ·simp only[List.append_nil,hfn,hres]
  exact trodAll_mk1 (shut_bool htb true)
 ·simp only[List.append_nil,hfn,hpar]
  rw[hbef] at hsp
  have br:∀ {t:TypeId} {v:Value} {d:DataW H} {p:List MemPlace},t∈[t0,t1,t2]→DataW.Trod enc0 P W 0 (fun _=>true) true t v d p→(∀ x∈p,x∈p0++p1++p2)→DataW.Trod enc0 P W' 0 sp true t v d p:=fun ht h hp =>
   WideElems.Trod_stays hl (hr _ ht).1 (hr _ ht).2 h (fun x hx=>hb.same (hlt x (hp x hx))) (fun x hx=>hsp x (hp x hx))
  exact trodAll_mk3 (br (by simp) h0 fun x hx=>by simp[hx]) (br (by simp) h1 fun x hx=>by simp[hx]) (br (by simp) h2 fun x hx=>by simp[hx])
 ·simp only[List.append_nil,hfn,hvars]
  rfl
 ·intro j t r hj hv'
  rw[hres] at hj hv'
  match j,hj,hv' with
  |0,hj,hv' =>
   simp[Value.resultList] at hj hv'
   subst hj;subst hv'
   simp[Value.okWide,htb,Cell.okWide,Cell.ok]
theorem af4{P:Program}{t e:TypeId}{α:Type}[Enc α]{H:Type}{enc0:TypeId×Value→H}{w:World}{base:Nat}{v:Value}{d:DataW H}{p:List MemPlace}(ho:jr P t (List α))(hu:P.underlying t=some (.slice e))(hv:Value.okWide P w .any base t v)
  (h:DataW.Trod enc0 P w 0 (fun _=>true) true t v d p):∃ l:List α,(∃ cs:List Value,bB (enc l) v cs∧af w (lQ w) dz (enc l) cs)∧(l.length=0∨∃ elems spare,d=.slice elems spare∧elems.length=l.length):=by
 obtain ⟨l,cs,h1,h2⟩:=JN ho rfl (by rw[hu]) hv h
 refine ⟨l,⟨cs,h1,h2⟩,?_⟩
 have hcs:cs=[v]:=by simpa[bB,fW,I.isAgg] using h1
 subst hcs
 simp only[fW,af] at h2
 obtain ⟨a,cap,h3,_⟩:=h2
 simp only[List.cons.injEq,and_true,List.length_map] at h3
 subst h3
 obtain ⟨fuel,h⟩:=h
 have hc:(Value.slice a l.length cap).cells.toList=[Value.slice a l.length cap]:=rfl
 rw[hc] at h
 rcases DataW.trod_slice hu h with ⟨h4,_⟩ | ⟨a',len,cap',elems,rest,n,_,h4,h5,_,_,_,hlen,_⟩
 ·simp only[List.cons.injEq,Value.slice.injEq,and_true] at h4
  exact .inl h4.2.1
 ·simp only[List.cons.injEq,Value.slice.injEq,and_true] at h4
  simp only[Prod.mk.injEq] at h5
  exact .inr ⟨_,_,h5.1,by rw[List.length_map,hlen,h4.2.1]⟩
end Go.Abs
namespace Go.Abs.C
open Go Go.Abs
abbrev o(a:Nat)(x:bZ):av:=⟨some a,x,none⟩
abbrev bW(a:Nat)(x:bZ)(k:Nat):av:=⟨some a,x,some (k,true)⟩
abbrev on(a:Nat)(x:bZ)(k:Nat):av:=⟨some a,x,some (k,false)⟩
abbrev p(x:bZ):av:=⟨none,x,none⟩
abbrev ai(n:Int):aG:=.c (.int .i64 n)
abbrev T:aG:=.c (.bool true)
abbrev bn:aG:=.c (.bool false)
abbrev m(a b:Nat):av:=⟨some a,.mv (.t b),none⟩
abbrev dh(a b k:Nat):av:=⟨some a,.mv (.t b),some (k,true)⟩
abbrev gN(a b k:Nat):av:=⟨some a,.mv (.t b),some (k,false)⟩
abbrev bh(a:Nat)(n:Int):av:=⟨some a,.mv (.c (.int .i64 n)),none⟩
abbrev l(a b:Nat):av:=⟨some a,.ld none (.t b),none⟩
abbrev ez(a b k:Nat):av:=⟨some a,.ld none (.t b),some (k,true)⟩
abbrev l8(a b k:Nat):av:=⟨some a,.ld none (.t b),some (k,false)⟩
abbrev aC(a s b:Nat):av:=⟨some a,.ld (some s) (.t b),none⟩
abbrev f(a b c d:Nat):av:=⟨some a,.fa b c (.t d),none⟩
abbrev dK(a b c d k:Nat):av:=⟨some a,.fa b c (.t d),some (k,true)⟩
abbrev fn(a b c d k:Nat):av:=⟨some a,.fa b c (.t d),some (k,false)⟩
abbrev ad(a b:Nat)(n:Int):av:=⟨some a,.bin .add (.t b) (.c (.int .i64 n)),none⟩
abbrev lt(a b c:Nat):av:=⟨some a,.bin .lss (.t b) (.t c),none⟩
abbrev and(a b c:Nat):av:=⟨some a,.pick (.t b) (.t c) (.c (.bool false)),none⟩
abbrev or(a b c:Nat):av:=⟨some a,.pick (.t b) (.c (.bool true)) (.t c),none⟩
abbrev no(a b:Nat):av:=⟨some a,.un .not (.t b),none⟩
abbrev b(a c:Nat):av:=⟨some a,.box (.t c),none⟩
abbrev s(x y:aP):aP:=.seq x y
abbrev r(g:List av):aP:=.ca none g
abbrev bF(P:Program)(f:Func)(c:aP):Prop:=f.body.bind (e9 P f.ntmps)=some c
abbrev bG(P:Program)(f:Func)(r:List aZ):Prop:=iB P f.results.toList=some r
abbrev bE(P:Program)(n:FuncId):Prop:=gG P n=true
theorem e{α:Type}{a b:α}(h:a=b):a=b:=h
end Go.Abs.C
namespace Go.Proofs.YtcldiigclhgafaaGreat
open Go Go.Abs Go.Abs.C
def aaT:=[b 5 2,o 6 (.mv bn)]
def aaU:=[m 21 0,o 22 (.call 24 [.t 21]),m 23 1,m 24 0,o 25 (.call 23 [.t 22,.t 23,.t 24]),m 7 25]
def aa5:=[o 26 (.ia 2 1 (.t 5) (ai 0)),l 27 26,o 28 (.call 25 [.t 27,(ai 32)]),m 8 28]
def abe:=[o 29 (.ia 2 1 (.t 5) (ai 1)),l 30 29,o 31 (.call 25 [.t 30,(ai 45)]),m 9 31]
def abf:=[m 33 7,m 34 8,m 35 9,o 36 (.call 26 [.t 33,.t 34,.t 35]),m 32 36,o 37 (.ext (.t 32) 0),o 38 (.ext (.t 32) 1),m 10 37,m 11 38]
def abg:=[m 39 11,o 40 (.bin .neq (.t 39) (ai 0))]
def abh:=[o 6 (.mv bn)]
def abi:=[bh 12 0]
def abj:=[bh 13 0]
def abk:=[m 41 13,m 42 10,o 43 (.len (.t 42)),lt 44 41 43]
def aaV:=[m 48 7,m 49 10,m 50 13,o 51 (.is 1 (.t 49) (.t 50)),l 52 51,m 53 8,m 54 9,o 55 (.call 27 [.t 48,.t 52,.t 53,.t 54]),m 47 55,o 56 (.ext (.t 47) 0),o 57 (.ext (.t 47) 1),m 14 56,m 15 57]
def aaW:=[m 58 15,o 59 (.bin .neq (.t 58) (ai 0))]
def aaX:=[o 6 (.mv bn)]
def aaY:=[m 60 14,o 61 (.bin .neq (.t 60) (ai 0))]
def aaZ:=[m 62 12,ad 63 62 1,m 12 63]
def aa0:=[m 45 13,ad 46 45 1,m 13 46]
def aa1:=[bh 16 0]
def aa2:=[bh 17 1]
def aa3:=[m 64 17,o 65 (.bin .leq (.t 64) (ai 12))]
def aa4:=[bh 18 1]
def aa6:=[m 68 18,o 69 (.bin .leq (.t 68) (ai 2))]
def aa7:=[m 73 7,m 74 17,m 75 18,m 76 8,m 77 9,o 78 (.call 28 [.t 73,.t 74,.t 75,.t 76,.t 77]),m 72 78,o 79 (.ext (.t 72) 0),o 80 (.ext (.t 72) 1),m 19 79,m 20 80]
def aa8:=[m 81 20,o 82 (.bin .neq (.t 81) (ai 0))]
def aa9:=[o 6 (.mv bn)]
def aba:=[m 83 16,m 84 19,o 85 (.bin .add (.t 83) (.t 84)),m 16 85]
def abb:=[m 70 18,ad 71 70 1,m 18 71]
def abc:=[m 66 17,ad 67 66 1,m 17 67]
def abd:=[m 86 16,m 87 12,o 88 (.bin .eql (.t 86) (.t 87)),m 89 88,bW 90 (.call 22 []) 89,and 91 89 90,m 6 91]
def iz:aP:=(s (r aaT) (s (r aaU) (s (r aa5) (s (r abe) (s (r abf) (s (s (r abg) (.cond (.t 40) (s (r abh) .ret) .skip)) (s (r abi) (s (s (r abj) (.block 0 (.loop (s (s (r abk) (.cond (.t 44) .skip (.exit 0))) (s (.block 1 (s (r aaV) (s (s (r aaW) (.cond (.t 59) (s (r aaX) .ret) .skip)) (s (r aaY) (.cond (.t 61) (r aaZ) .skip))))) (r aa0)))))) (s (r aa1) (s (s (r aa2) (.block 2 (.loop (s (s (r aa3) (.cond (.t 65) .skip (.exit 2))) (s (.block 3 (s (r aa4) (.block 4 (.loop (s (s (r aa6) (.cond (.t 69) .skip (.exit 4))) (s (.block 5 (s (r aa7) (s (s (r aa8) (.cond (.t 82) (s (r aa9) .ret) .skip)) (r aba)))) (r abb))))))) (r abc)))))) (s (r abd) .ret)))))))))))
def Ln:List aZ:=[.tmp 6]
theorem SD:bF Tryz.prog Tryz.f4 iz:=e (by kernel_rfl)
theorem UC:bG Tryz.prog Tryz.f4 Ln:=e (by kernel_rfl)
theorem QT:bE Tryz.prog 4:=e (by kernel_rfl)
def XU:=[b 4 0,o 8 (.mv (.c (.nils 1))),bh 9 0]
def XV:=[aC 13 7 4,o 14 (.call 66 [.t 13]),m 10 14]
def XX:=[m 15 10,o 16 (.bin .neq (.t 15) (ai 0))]
def XY:=[m 17 10,o 8 (.mv (.c (.nils 1))),m 9 17]
def XZ:=[m 18 1,m 19 2,o 20 (.bld [.int .i64 0,.int .i64 0] [(0,(.t 19)),(1,(ai 9999))]),o 21 (.bs 2 [.t 20]),m 22 3,o 23 (.bs 1 [.t 22]),o 24 (.call 67 [.t 18,.t 21,.t 23]),m 11 24]
def X0:=[m 25 11,o 26 (.bin .neq (.t 25) (ai 0))]
def X1:=[m 27 11,o 8 (.mv (.c (.nils 1))),m 9 27]
def X2:=[m 28 1,m 29 3,o 30 (.call 68 [.t 28,.t 29]),o 31 (.nilC (.t 30)),f 32 0 0 31,l 33 32,m 34 2,o 35 (.lk (.i .i64) (.nilp) false (.t 33) (.t 34)),m 12 35]
def X3:=[m 36 12,o 37 (.ptrE false (.t 36) (.c (.nilp)))]
def X4:=[o 8 (.mv (.c (.nils 1))),bh 9 42]
def XW:=[aC 38 7 4,m 39 12,o 40 (.call 69 [.t 38,.t 39]),m 8 40,bh 9 0]
def zM:aP:=(s (r XU) (s (s (r XV) (s (r XX) (.cond (.t 16) (s (r XY) .ret) .skip))) (s (s (r XZ) (s (r X0) (.cond (.t 26) (s (r X1) .ret) .skip))) (s (r X2) (s (s (r X3) (.cond (.t 37) (s (r X4) .ret) .skip)) (s (r XW) .ret))))))
def Ku:List aZ:=[.tmp 8,.tmp 9]
theorem RK:bF Tryz.prog Tryz.f14 zM:=e (by kernel_rfl)
theorem TI:bG Tryz.prog Tryz.f14 Ku:=e (by kernel_rfl)
theorem P2:bE Tryz.prog 14:=e (by kernel_rfl)
def X9:=[b 3 0,o 6 (.mv (.c (.nils 1))),bh 7 0]
def Ya:=[aC 10 7 3,o 11 (.call 66 [.t 10]),m 8 11]
def Yb:=[m 12 8,o 13 (.bin .neq (.t 12) (ai 0))]
def Yc:=[m 14 8,o 6 (.mv (.c (.nils 1))),m 7 14]
def Yd:=[m 15 1,m 16 2,o 17 (.bs 1 [.t 16]),o 18 (.call 67 [.t 15,(.c (.nils 2)),.t 17]),m 9 18]
def Ye:=[m 19 9,o 20 (.bin .neq (.t 19) (ai 0))]
def Yf:=[m 21 9,o 6 (.mv (.c (.nils 1))),m 7 21]
def Yg:=[m 22 1,m 23 2,o 24 (.call 68 [.t 22,.t 23]),o 25 (.mk 73 [.t 3]),o 26 (.call 72 [.t 24,.t 25]),m 6 26,bh 7 0]
def zW:aP:=(s (r X9) (s (s (r Ya) (s (r Yb) (.cond (.t 13) (s (r Yc) .ret) .skip))) (s (s (r Yd) (s (r Ye) (.cond (.t 20) (s (r Yf) .ret) .skip))) (s (r Yg) .ret))))
def KF:List aZ:=[.tmp 6,.tmp 7]
theorem RU:bF Tryz.prog Tryz.f16 zW:=e (by kernel_rfl)
theorem TS:bG Tryz.prog Tryz.f16 KF:=e (by kernel_rfl)
theorem Qb:bE Tryz.prog 16:=e (by kernel_rfl)
def YZ:=[b 4 0,o 8 (.mv (.c (.nils 2))),bh 9 0]
def Y0:=[aC 17 7 4,m 18 1,m 19 2,m 20 3,o 21 (.call 14 [.t 17,.t 18,.t 19,.t 20]),m 16 21,o 22 (.ext (.t 16) 0),o 23 (.ext (.t 16) 1),m 10 22,m 11 23]
def Y4:=[m 24 11,o 25 (.bin .neq (.t 24) (ai 0))]
def Y5:=[m 26 11,o 8 (.mv (.c (.nils 2))),m 9 26]
def Y6:=[m 27 1,m 28 3,o 29 (.call 68 [.t 27,.t 28]),o 30 (.nilC (.t 29)),f 31 0 0 30,l 32 31,m 33 2,o 34 (.lk (.i .i64) (.nilp) false (.t 32) (.t 33)),m 12 34]
def Y7:=[o 13 (.mv (.c (.nils 2)))]
def Y8:=[m 35 1,o 36 (.len (.t 35)),bh 37 0]
def Y9:=[lt 38 37 36]
def Za:=[m 39 37,o 40 (.is 17 (.t 35) (.t 37)),aC 41 17 40,o 15 (.alloc (.agg [.agg [.int .i64 0,.int .i64 0],.int .i64 0,.int .i64 0,.int .i64 0,.int .i64 0,.int .i64 0,.int .i64 0,.int .i64 0,.agg [.int .i64 0,.int .i64 0,.int .i64 0,.int .i64 0,.int .i64 0,.int .i64 0],.agg [.int .i64 0,.int .i64 0]])),m 14 39,p (.br (some 17) (.t 15) (.t 41))]
def Zb:=[aC 42 7 4,m 43 12,m 44 1,m 45 14,o 46 (.call 78 [.t 44,.t 45]),m 47 3,o 48 (.call 68 [.t 46,.t 47]),o 49 (.nilC (.t 48)),f 50 0 0 49,l 51 50,m 52 2,o 53 (.lk (.i .i64) (.nilp) false (.t 51) (.t 52)),o 54 (.call 77 [.t 42,.t 43,.t 53]),no 55 54]
def Vo:=some [[],[],[],[],[2,3],[],[4,5,4],[6],[7],[8],[],[9,10],[0,1,11,6],[12]]
def Y1:=[m 56 13,f 57 0 0 15,aC 58 2 57,o 59 (.bs 2 [.t 58]),o 60 (.dF 65 2 16 (.agg [.int .i64 0,.int .i64 0]) (.t 56) (.t 59)),m 13 60]
def Y2:=[ad 61 37 1,m 37 61]
def Y3:=[m 62 13,m 8 62,bh 9 0]
def Ak:aP:=(s (r YZ) (s (s (r Y0) (s (r Y4) (.cond (.t 25) (s (r Y5) .ret) .skip))) (s (r Y6) (s (r Y7) (s (s (r Y8) (.block 0 (.loop (s (r Y9) (s (.cond (.t 38) .skip (.exit 0)) (s (.block 1 (s (r Za) (s (.ca Vo Zb) (.cond (.t 55) (r Y1) .skip)))) (r Y2))))))) (s (r Y3) .ret))))))
def KX:List aZ:=[.tmp 8,.tmp 9]
theorem Sc:bF Tryz.prog Tryz.f18 Ak:=e (by kernel_rfl)
theorem Uc:bG Tryz.prog Tryz.f18 KX:=e (by kernel_rfl)
theorem Qs:bE Tryz.prog 18:=e (by kernel_rfl)
def F3:=[o 4 (.mv bn)]
def F4:=[m 6 0,o 7 (.len (.t 6)),m 8 1,o 9 (.len (.t 8)),o 10 (.bin .neq (.t 7) (.t 9))]
def F5:=[o 4 (.mv bn)]
def F6:=[bh 5 0]
def F7:=[m 11 5,m 12 0,o 13 (.len (.t 12)),lt 14 11 13]
def F8:=[m 17 0,m 18 5,o 19 (.is 1 (.t 17) (.t 18)),l 20 19,m 21 1,m 22 5,o 23 (.is 1 (.t 21) (.t 22)),l 24 23,o 25 (.bin .neq (.t 20) (.t 24))]
def Vy:=some [[],[],[0,1],[2],[],[],[4,5],[6],[3,7]]
def F9:=[o 4 (.mv bn)]
def Ga:=[m 15 5,ad 16 15 1,m 5 16]
def Gb:=[o 4 (.mv T)]
def As:aP:=(s (r F3) (s (s (r F4) (.cond (.t 10) (s (r F5) .ret) .skip)) (s (s (r F6) (.block 0 (.loop (s (s (r F7) (.cond (.t 14) .skip (.exit 0))) (s (.block 1 (s (.ca Vy F8) (.cond (.t 25) (s (r F9) .ret) .skip))) (r Ga)))))) (s (r Gb) .ret))))
def K5:List aZ:=[.tmp 4]
theorem Sk:bF Tryz.prog Tryz.f20 As:=e (by kernel_rfl)
theorem Uk:bG Tryz.prog Tryz.f20 K5:=e (by kernel_rfl)
theorem QA:bE Tryz.prog 20:=e (by kernel_rfl)
def ZM:=[o 4 (.mv bn)]
def ZN:=[m 6 0,o 7 (.len (.t 6)),m 8 1,o 9 (.len (.t 8)),o 10 (.bin .neq (.t 7) (.t 9))]
def ZO:=[o 4 (.mv bn)]
def ZP:=[bh 5 0]
def ZQ:=[m 11 5,m 12 0,o 13 (.len (.t 12)),lt 14 11 13]
def ZR:=[m 17 0,m 18 5,o 19 (.is 2 (.t 17) (.t 18)),aC 20 2 19,m 21 1,m 22 5,o 23 (.is 2 (.t 21) (.t 22)),aC 24 2 23,o 25 (.eqv (.br [(.i .i64),(.i .i64)]) true (.t 20) (.t 24))]
def VB:=some [[],[],[0,1],[2],[],[],[4,5],[6],[3,7]]
def ZS:=[o 4 (.mv bn)]
def ZT:=[m 15 5,ad 16 15 1,m 5 16]
def ZU:=[o 4 (.mv T)]
def Aw:aP:=(s (r ZM) (s (s (r ZN) (.cond (.t 10) (s (r ZO) .ret) .skip)) (s (s (r ZP) (.block 0 (.loop (s (s (r ZQ) (.cond (.t 14) .skip (.exit 0))) (s (.block 1 (s (.ca VB ZR) (.cond (.t 25) (s (r ZS) .ret) .skip))) (r ZT)))))) (s (r ZU) .ret))))
def K8:List aZ:=[.tmp 4]
theorem Sn:bF Tryz.prog Tryz.f21 Aw:=e (by kernel_rfl)
theorem Un:bG Tryz.prog Tryz.f21 K8:=e (by kernel_rfl)
theorem QD:bE Tryz.prog 21:=e (by kernel_rfl)
def ZV:=[o 0 (.mv bn)]
def ZW:=[o 18 (.call 81 []),m 1 18]
def ZZ:=[o 19 (.call 82 []),o 2 (.alloc (.agg [.agg [.int .i64 0,.int .i64 0,.int .i64 0,.int .i64 0,.int .i64 0],.int .i64 0,.nils 7])),p (.br (some 7) (.t 2) (.t 19))]
def Z0:=[m 21 1,o 22 (.call 27 [.t 21,(ai 10),(ai 6),(ai 7)]),m 20 22,o 23 (.ext (.t 20) 0),o 24 (.ext (.t 20) 1),m 3 23,m 4 24]
def Z1:=[aC 26 7 2,m 27 1,o 28 (.call 14 [.t 26,.t 27,(ai 20),(ai 9)]),m 25 28,o 29 (.ext (.t 25) 0),o 30 (.ext (.t 25) 1),m 5 29,m 6 30]
def Z2:=[aC 32 7 2,m 33 1,o 34 (.call 14 [.t 32,.t 33,(ai 20),(ai 14)]),m 31 34,o 35 (.ext (.t 31) 0),o 36 (.ext (.t 31) 1),m 7 35,m 8 36]
def Z3:=[aC 38 7 2,m 39 1,o 40 (.call 16 [.t 38,.t 39,(ai 11)]),m 37 40,o 41 (.ext (.t 37) 0),o 42 (.ext (.t 37) 1),m 9 41,m 10 42]
def Z4:=[m 44 1,o 45 (.call 28 [.t 44,(ai 2),(ai 3),(ai 7),(ai 7)]),m 43 45,o 46 (.ext (.t 43) 0),o 47 (.ext (.t 43) 1),m 11 46,m 12 47]
def Z5:=[m 49 1,o 50 (.call 26 [.t 49,(ai 12),(ai 12)]),m 48 50,o 51 (.ext (.t 48) 0),o 52 (.ext (.t 48) 1),m 13 51,m 14 52]
def Z6:=[aC 54 7 2,m 55 1,o 56 (.call 18 [.t 54,.t 55,(ai 20),(ai 9)]),m 53 56,o 57 (.ext (.t 53) 0),o 58 (.ext (.t 53) 1),m 15 57,m 16 58]
def ZX:=[m 59 4,o 60 (.bin .eql (.t 59) (ai 0)),m 61 60,dh 62 6 61,bW 63 (.bin .eql (.t 62) (ai 0)) 61,and 64 61 63,m 65 64,dh 66 8 65,bW 67 (.bin .eql (.t 66) (ai 0)) 65,and 68 65 67,m 69 68,dh 70 10 69,bW 71 (.bin .eql (.t 70) (ai 0)) 69,and 72 69 71,m 73 72,dh 74 12 73,bW 75 (.bin .eql (.t 74) (ai 0)) 73,and 76 73 75,m 77 76,dh 78 14 77,bW 79 (.bin .eql (.t 78) (ai 0)) 77,and 80 77 79,m 81 80,dh 82 16 81,bW 83 (.bin .eql (.t 82) (ai 0)) 81,and 84 81 83,m 17 84]
def ZY:=[m 85 17,m 86 85,dh 87 3 86,bW 88 (.bin .eql (.t 87) (ai 2)) 86,and 89 86 88,m 90 89,dh 91 5 90,bW 92 (.bs 1 [(ai 3)]) 90,bW 93 (.call 20 [.t 91,.t 92]) 90,and 94 90 93,m 95 94,dh 96 7 95,bW 97 (.bs 1 [(ai 1),(ai 2),(ai 3)]) 95,bW 98 (.call 20 [.t 96,.t 97]) 95,and 99 95 98,m 100 99,dh 101 9 100,bW 102 (.bs 1 [(ai 11)]) 100,bW 103 (.call 20 [.t 101,.t 102]) 100,and 104 100 103,m 105 104,dh 106 11 105,bW 107 (.bin .eql (.t 106) (ai 1)) 105,and 108 105 107,m 109 108,dh 110 13 109,bW 111 (.bs 1 [(ai 11),(ai 20)]) 109,bW 112 (.call 20 [.t 110,.t 111]) 109,and 113 109 112,m 114 113,dh 115 15 114,bW 116 (.bld [.int .i64 0,.int .i64 0] [(1,(ai 2))]) 114,bW 117 (.bld [.int .i64 0,.int .i64 0] [(1,(ai 5))]) 114,bW 118 (.bs 2 [.t 116,.t 117]) 114,bW 119 (.call 21 [.t 115,.t 118]) 114,and 120 114 119,m 0 120]
def AB:aP:=(s (r ZV) (s (r ZW) (s (r ZZ) (s (r Z0) (s (r Z1) (s (r Z2) (s (r Z3) (s (r Z4) (s (r Z5) (s (r Z6) (s (r ZX) (s (r ZY) .ret))))))))))))
def Ld:List aZ:=[.tmp 0]
theorem St:bF Tryz.prog Tryz.f22 AB:=e (by kernel_rfl)
theorem Us:bG Tryz.prog Tryz.f22 Ld:=e (by kernel_rfl)
theorem QI:bE Tryz.prog 22:=e (by kernel_rfl)
def Z7:=[b 3 0,o 6 (.mv (.c (.nils 17)))]
def Z8:=[o 7 (.alloc (.agg [.int .i64 0,.int .i64 0,.int .i64 0]))]
def aaj:=[o 8 (.mv (.c (.nils 17)))]
def aap:=[bh 9 0]
def aaq:=[m 13 9,o 14 (.bin .lss (.t 13) (ai 3))]
def aar:=[bh 10 0]
def aas:=[m 17 10,m 18 1,o 19 (.len (.t 18)),lt 20 17 19,m 21 20,dh 22 10 21,bW 23 (.bin .lss (.t 22) (ai 20)) 21,and 24 21 23]
def aat:=[m 27 1,m 28 10,o 29 (.is 9 (.t 27) (.t 28)),aC 30 9 29,o 11 (.alloc (.agg [.int .i64 0,.int .i64 0,.int .i64 0,.int .i64 0,.int .i64 0,.int .i64 0,.int .i64 0,.int .i64 0,.int .i64 0])),p (.br (some 9) (.t 11) (.t 30))]
def aau:=[o 31 (.ia 9 1 (.t 11) (ai 0)),l 32 31,o 33 (.call 25 [.t 32,(ai 3)]),m 34 9,o 35 (.bin .neq (.t 33) (.t 34))]
def aav:=[m 36 9,m 37 9,o 38 (.ia 3 1 (.t 7) (.t 37)),l 39 38,o 40 (.bld [.int .i64 0,.int .i64 0] [(0,(.t 36)),(1,(.t 39))]),o 41 (.ia 9 1 (.t 11) (ai 1)),l 42 41,o 43 (.call 25 [.t 42,(ai 7)]),o 44 (.ia 9 1 (.t 11) (ai 2)),l 45 44,o 46 (.call 25 [.t 45,(ai 30)]),o 47 (.ia 9 1 (.t 11) (ai 3)),l 48 47,o 49 (.call 25 [.t 48,(ai 40)]),o 50 (.ia 9 1 (.t 11) (ai 4)),l 51 50,o 52 (.call 25 [.t 51,(ai 6)]),o 53 (.bin .add (ai 1) (.t 52)),o 54 (.ia 9 1 (.t 11) (ai 5)),l 55 54,o 56 (.call 25 [.t 55,(ai 2)]),o 57 (.bin .add (ai 1) (.t 56)),o 58 (.ia 9 1 (.t 11) (ai 6)),l 59 58,o 60 (.call 25 [.t 59,(ai 12)]),o 61 (.bin .add (ai 1) (.t 60)),o 62 (.ia 9 1 (.t 11) (ai 7)),l 63 62,o 64 (.call 25 [.t 63,(ai 7)]),o 65 (.bld [.agg [.int .i64 0,.int .i64 0],.int .i64 0,.int .i64 0,.int .i64 0,.int .i64 0,.int .i64 0,.int .i64 0,.int .i64 0,.agg [.int .i64 0,.int .i64 0,.int .i64 0,.int .i64 0,.int .i64 0,.int .i64 0],.agg [.int .i64 0,.int .i64 0]] [(0,(.t 40)),(1,(.t 43)),(2,(.t 46)),(3,(.t 49)),(4,(.t 53)),(6,(.t 57)),(7,(.t 61)),(5,(.t 64))]),o 12 (.alloc (.agg [.agg [.int .i64 0,.int .i64 0],.int .i64 0,.int .i64 0,.int .i64 0,.int .i64 0,.int .i64 0,.int .i64 0,.int .i64 0,.agg [.int .i64 0,.int .i64 0,.int .i64 0,.int .i64 0,.int .i64 0,.int .i64 0],.agg [.int .i64 0,.int .i64 0]])),p (.br (some 17) (.t 12) (.t 65))]
def VE:=some [[],[],[1],[2],[0,3],[],[5],[6],[],[8],[9,7],[],[11],[12,10],[],[14],[15,13],[16],[],[18],[19,16],[20],[],[22],[23,20],[24],[],[26],[27,24],[4,7,10,13,17,21,25,28],[],[30,29,28,0,1,2,3,4,5,6,7,8,9,10,11,12,13,14,15,16,17,18,19,20,21,22,23,24,25,26,27,28,29,30]]
def Z9:=[f 66 5 6 12,l 67 66,f 68 4 5 12,l 69 68,o 70 (.bin .eql (.t 67) (.t 69))]
def aaa:=[f 71 5 6 12,p (.br none (.t 71) (ai 0))]
def aab:=[f 72 1 2 12,l 73 72,o 74 (.bin .eql (.t 73) (ai 0))]
def aac:=[m 75 9,o 76 (.ia 3 1 (.t 7) (.t 75)),l 77 76,o 78 (.bin .eql (.t 77) (ai 0))]
def aad:=[f 79 2 3 12,p (.br none (.t 79) (ai 0))]
def aae:=[m 80 9,o 81 (.ia 9 1 (.t 11) (ai 4)),l 82 81,m 83 9,o 84 (.ia 3 1 (.t 7) (.t 83)),l 85 84,o 86 (.call 25 [.t 82,.t 85]),o 87 (.bld [.int .i64 0,.int .i64 0] [(0,(.t 80)),(1,(.t 86))]),f 88 9 15 12,p (.br (some 2) (.t 88) (.t 87))]
def VC:=some [[],[],[1],[],[3],[4],[2,5],[0,6],[0,1,2,3,4,5,6,7],[8,7,6,0,1,2,3,4,5,6,7]]
def aaf:=[f 89 1 2 12,l 90 89,o 91 (.bin .eql (.t 90) (ai 4))]
def aag:=[o 92 (.bld [.int .i64 0,.int .i64 0,.int .i64 0,.int .i64 0,.int .i64 0,.int .i64 0] [(0,(ai 31)),(1,(ai 31)),(2,(ai 31)),(3,(ai 31)),(4,(ai 31)),(5,(ai 31))]),f 93 8 9 12,p (.br (some 6) (.t 93) (.t 92))]
def aah:=[f 94 2 6 3,l 95 94,o 96 (.len (.t 95)),o 97 (.bin .gtr (.t 96) (ai 0))]
def aai:=[aC 98 7 3,f 99 2 6 3,l 100 99,o 101 (.ia 9 1 (.t 11) (ai 8)),l 102 101,f 103 2 6 3,l 104 103,o 105 (.len (.t 104)),o 106 (.call 25 [.t 102,.t 105]),o 107 (.is 7 (.t 100) (.t 106)),f 108 1 1 107,aC 109 6 108,m 110 2,m 111 10,o 112 (.call 83 [.t 110,.t 111]),o 113 (.call 35 [.t 98,.t 109,.t 112]),f 114 8 9 12,p (.br (some 6) (.t 114) (.t 113))]
def VD:=some [[],[],[1],[],[3],[],[5],[6],[4,7],[2,8],[9],[10],[],[],[12,13,8],[0,11,14,14],[0,1,2,3,4,5,6,7,8,9,10,11,12,13,14,15],[16,15,15,0,1,2,3,4,5,6,7,8,9,10,11,12,13,14,15]]
def aak:=[m 115 8,aC 116 17 12,o 117 (.call 84 [.t 116]),o 118 (.bs 17 [.t 117]),o 119 (.dF 68 17 136 (.agg [.agg [.int .i64 0,.int .i64 0],.int .i64 0,.int .i64 0,.int .i64 0,.int .i64 0,.int .i64 0,.int .i64 0,.int .i64 0,.agg [.int .i64 0,.int .i64 0,.int .i64 0,.int .i64 0,.int .i64 0,.int .i64 0],.agg [.int .i64 0,.int .i64 0]]) (.t 115) (.t 118)),m 8 119]
def aal:=[m 120 9,o 121 (.ia 3 1 (.t 7) (.t 120)),l 122 121,ad 123 122 1,o 124 (.ia 3 1 (.t 7) (.t 120)),p (.br none (.t 124) (.t 123))]
def aam:=[m 25 10,ad 26 25 1,m 10 26]
def aan:=[m 15 9,ad 16 15 1,m 9 16]
def aao:=[m 125 8,m 6 125]
def AD:aP:=(s (r Z7) (s (r Z8) (s (r aaj) (s (s (r aap) (.block 0 (.loop (s (s (r aaq) (.cond (.t 14) .skip (.exit 0))) (s (.block 1 (s (r aar) (.block 2 (.loop (s (s (r aas) (.cond (.t 24) .skip (.exit 2))) (s (.block 3 (s (r aat) (s (s (r aau) (.cond (.t 35) (.exit 3) .skip)) (s (.ca VE aav) (s (s (r Z9) (.cond (.t 70) (r aaa) .skip)) (s (s (r aab) (.cond (.t 74) (s (s (r aac) (.cond (.t 78) (.exit 3) .skip)) (s (r aad) (.ca VC aae))) .skip)) (s (s (r aaf) (.cond (.t 91) (s (r aag) (s (r aah) (.cond (.t 97) (.ca VD aai) .skip))) .skip)) (s (r aak) (r aal))))))))) (r aam))))))) (r aan)))))) (s (r aao) .ret)))))
def Le:List aZ:=[.tmp 6]
theorem Su:bF Tryz.prog Tryz.f23 AD:=e (by kernel_rfl)
theorem Ut:bG Tryz.prog Tryz.f23 Le:=e (by kernel_rfl)
theorem QJ:bE Tryz.prog 23:=e (by kernel_rfl)
def Gr:=[o 2 (.alloc (.agg [.agg [.int .i64 0,.int .i64 0,.int .i64 0,.int .i64 0,.int .i64 0],.int .i64 0,.nils 7]))]
def Gs:=[m 7 0,o 8 (.call 85 [.t 7]),m 9 0,o 10 (.call 34 [.t 9,(ai 5)]),o 11 (.call 25 [.t 10,(ai 2)]),o 12 (.bld [.agg [.int .i64 0,.int .i64 0,.int .i64 0,.int .i64 0,.int .i64 0],.int .i64 0,.nils 7] [(0,(.t 8)),(1,(.t 11))]),o 3 (.alloc (.agg [.agg [.int .i64 0,.int .i64 0,.int .i64 0,.int .i64 0,.int .i64 0],.int .i64 0,.nils 7])),p (.br (some 7) (.t 3) (.t 12))]
def Gt:=[bh 4 0]
def Gu:=[bh 5 0]
def Gv:=[m 13 5,m 14 0,o 15 (.len (.t 14)),lt 16 13 15,m 17 16,dh 18 5 17,bW 19 (.bin .lss (.t 18) (ai 12)) 17,and 20 17 19,m 21 20,dK 22 2 6 3 21,ez 23 22 21,bW 24 (.len (.t 23)) 21,bW 25 (.bin .lss (.t 24) (ai 9)) 21,and 26 21 25]
def Gw:=[m 29 4,m 30 0,m 31 5,o 32 (.is 1 (.t 30) (.t 31)),l 33 32,o 34 (.call 25 [.t 33,(ai 4)]),o 35 (.bin .add (ai 1) (.t 34)),o 36 (.bin .add (.t 29) (.t 35)),m 4 36]
def Gx:=[m 37 4,m 38 0,m 39 5,o 40 (.is 1 (.t 38) (.t 39)),l 41 40,o 42 (.bin .mul (.t 41) (ai 7)),m 43 5,o 44 (.bin .mul (.t 43) (ai 2503)),o 45 (.bin .add (.t 42) (.t 44)),o 46 (.call 25 [.t 45,(ai 15625)]),o 47 (.call 86 [.t 46]),o 48 (.bld [.int .i64 0,.agg [.int .i64 0,.int .i64 0,.int .i64 0,.int .i64 0,.int .i64 0,.int .i64 0]] [(0,(.t 37)),(1,(.t 47))]),o 6 (.alloc (.agg [.int .i64 0,.agg [.int .i64 0,.int .i64 0,.int .i64 0,.int .i64 0,.int .i64 0,.int .i64 0]])),p (.br (some 7) (.t 6) (.t 48))]
def Gy:=[aC 49 7 3,f 50 1 1 6,aC 51 6 50,o 52 (.call 87 [.t 49,.t 51]),no 53 52]
def Gz:=[f 54 2 6 3,l 55 54,aC 56 7 6,o 57 (.bs 7 [.t 56]),o 58 (.dF 63 7 56 (.agg [.int .i64 0,.agg [.int .i64 0,.int .i64 0,.int .i64 0,.int .i64 0,.int .i64 0,.int .i64 0]]) (.t 55) (.t 57)),f 59 2 6 3,p (.br none (.t 59) (.t 58))]
def vG:=[m 27 5,ad 28 27 1,m 5 28]
def r9:=[aC 60 7 3,p (.br (some 7) (.t 2) (.t 60))]
def AE:aP:=(s (r Gr) (s (r Gs) (s (r Gt) (s (s (r Gu) (.block 0 (.loop (s (s (r Gv) (.cond (.t 26) .skip (.exit 0))) (s (.block 1 (s (r Gw) (s (r Gx) (s (r Gy) (.cond (.t 53) (r Gz) .skip))))) (r vG)))))) (s (r r9) .ret)))))
def Lf:List aZ:=[.cell 2 (some 7)]
theorem Sv:bF Tryz.prog Tryz.f24 AE:=e (by kernel_rfl)
theorem Uu:bG Tryz.prog Tryz.f24 Lf:=e (by kernel_rfl)
theorem QK:bE Tryz.prog 24:=e (by kernel_rfl)
def GA:=[bh 4 0]
def GB:=[m 5 0,m 6 1,o 7 (.bin .rem (.t 5) (.t 6)),m 8 1,o 9 (.bin .add (.t 7) (.t 8)),m 10 1,o 11 (.bin .rem (.t 9) (.t 10)),m 4 11]
def AF:aP:=(s (r GA) (s (r GB) .ret))
def Lg:List aZ:=[.tmp 4]
theorem Sw:bF Tryz.prog Tryz.f25 AF:=e (by kernel_rfl)
theorem Uv:bG Tryz.prog Tryz.f25 Lg:=e (by kernel_rfl)
theorem QL:bE Tryz.prog 25:=e (by kernel_rfl)
def aaw:=[o 6 (.mv (.c (.nils 1))),bh 7 0]
def aax:=[m 11 0,m 12 1,m 13 2,o 14 (.bs 1 [.t 12,.t 13]),o 15 (.call 67 [.t 11,(.c (.nils 2)),.t 14]),m 8 15]
def aay:=[m 16 8,o 17 (.bin .neq (.t 16) (ai 0))]
def aaz:=[m 18 8,o 6 (.mv (.c (.nils 1))),m 7 18]
def aaA:=[m 20 0,m 21 1,m 22 2,o 23 (.call 88 [.t 20,.t 21,.t 22]),m 19 23,o 24 (.ext (.t 19) 0),o 25 (.ext (.t 19) 1),m 9 24,m 10 25]
def aaB:=[m 26 9,o 27 (.call 72 [.t 26,(.c (.func 89 []))]),m 6 27,bh 7 0]
def AG:aP:=(s (r aaw) (s (s (r aax) (s (r aay) (.cond (.t 17) (s (r aaz) .ret) .skip))) (s (r aaA) (s (r aaB) .ret))))
def Lh:List aZ:=[.tmp 6,.tmp 7]
theorem Sx:bF Tryz.prog Tryz.f26 AG:=e (by kernel_rfl)
theorem Uw:bG Tryz.prog Tryz.f26 Lh:=e (by kernel_rfl)
theorem QM:bE Tryz.prog 26:=e (by kernel_rfl)
def aaC:=[bh 8 0,bh 9 0]
def aaD:=[m 14 0,m 15 1,o 16 (.bld [.int .i64 0,.int .i64 0] [(0,(.t 15)),(1,(ai 9999))]),o 17 (.bs 2 [.t 16]),m 18 2,m 19 3,o 20 (.bs 1 [.t 18,.t 19]),o 21 (.call 67 [.t 14,.t 17,.t 20]),m 10 21]
def aaF:=[m 22 10,o 23 (.bin .neq (.t 22) (ai 0))]
def aaG:=[m 24 10,bh 8 0,m 9 24]
def aaH:=[m 26 0,m 27 2,m 28 3,o 29 (.call 88 [.t 26,.t 27,.t 28]),m 25 29,o 30 (.ext (.t 25) 0),o 31 (.ext (.t 25) 1),m 11 30,m 12 31]
def aaI:=[m 32 11,o 33 (.nilC (.t 32)),f 34 0 0 33,l 35 34,m 36 1,o 37 (.lk (.i .i64) (.nilp) false (.t 35) (.t 36)),m 13 37]
def aaJ:=[m 39 13,o 40 (.ptrE false (.t 39) (.c (.nilp))),m 38 40]
def aaK:=[bh 8 0,bh 9 42]
def aaL:=[m 42 13,o 43 (.call 90 [.t 42]),m 41 43]
def aaM:=[bh 8 0,bh 9 0]
def aaE:=[m 44 13,o 45 (.nilC (.t 44)),f 46 0 0 45,f 47 3 3 46,l 48 47,m 8 48,bh 9 0]
def AH:aP:=(s (r aaC) (s (s (r aaD) (s (r aaF) (.cond (.t 23) (s (r aaG) .ret) .skip))) (s (r aaH) (s (r aaI) (s (.block 0 (s (r aaJ) (.cond (.t 38) (s (r aaK) .ret) (s (r aaL) (.cond (.t 41) (s (r aaM) .ret) .skip))))) (s (r aaE) .ret))))))
def Li:List aZ:=[.tmp 8,.tmp 9]
theorem Sy:bF Tryz.prog Tryz.f27 AH:=e (by kernel_rfl)
theorem Ux:bG Tryz.prog Tryz.f27 Li:=e (by kernel_rfl)
theorem QN:bE Tryz.prog 27:=e (by kernel_rfl)
def aaN:=[b 6 1,b 7 2,bh 10 0,bh 11 0]
def aaO:=[m 15 0,l 16 6,o 17 (.bld [.int .i64 0,.int .i64 0] [(0,(.t 16)),(1,(ai 99))]),l 18 7,o 19 (.bld [.int .i64 0,.int .i64 0] [(0,(.t 18)),(1,(ai 9))]),o 20 (.bs 2 [.t 17,.t 19]),m 21 3,m 22 4,o 23 (.bs 1 [.t 21,.t 22]),o 24 (.call 67 [.t 15,.t 20,.t 23]),m 12 24]
def aaP:=[m 25 12,o 26 (.bin .neq (.t 25) (ai 0))]
def aaQ:=[m 27 12,bh 10 0,m 11 27]
def aaR:=[m 29 0,m 30 3,m 31 4,o 32 (.call 88 [.t 29,.t 30,.t 31]),m 28 32,o 33 (.ext (.t 28) 0),o 34 (.ext (.t 28) 1),m 13 33,m 14 34]
def aaS:=[m 35 13,o 36 (.mk 91 [.t 6,.t 7]),o 37 (.call 72 [.t 35,.t 36]),o 38 (.len (.t 37)),m 10 38,bh 11 0]
def AI:aP:=(s (r aaN) (s (s (r aaO) (s (r aaP) (.cond (.t 26) (s (r aaQ) .ret) .skip))) (s (r aaR) (s (r aaS) .ret))))
def Lj:List aZ:=[.tmp 10,.tmp 11]
theorem Sz:bF Tryz.prog Tryz.f28 AI:=e (by kernel_rfl)
theorem Uy:bG Tryz.prog Tryz.f28 Lj:=e (by kernel_rfl)
theorem QO:bE Tryz.prog 28:=e (by kernel_rfl)
def GC:=[bh 4 0]
def GD:=[m 5 0,o 6 (.len (.t 5)),o 7 (.bin .eql (.t 6) (ai 0))]
def GF:=[bh 4 0]
def GG:=[m 8 0,m 9 1,m 10 0,o 11 (.len (.t 10)),o 12 (.call 25 [.t 9,.t 11]),o 13 (.is 1 (.t 8) (.t 12)),l 14 13,m 4 14]
def AJ:aP:=(s (r GC) (s (s (r GD) (.cond (.t 7) (s (r GF) .ret) .skip)) (s (r GG) .ret)))
def Lk:List aZ:=[.tmp 4]
theorem SA:bF Tryz.prog Tryz.f34 AJ:=e (by kernel_rfl)
theorem Uz:bG Tryz.prog Tryz.f34 Lk:=e (by kernel_rfl)
theorem QP:bE Tryz.prog 34:=e (by kernel_rfl)
def GH:=[b 3 0,b 4 1,o 6 (.alloc (.agg [.int .i64 0,.int .i64 0,.int .i64 0,.int .i64 0,.int .i64 0,.int .i64 0]))]
def GI:=[f 13 0 0 3,aC 14 5 13,aC 15 6 4,m 16 2,o 17 (.call 98 [.t 14,.t 15,.t 16]),m 12 17,o 18 (.ext (.t 12) 0),o 19 (.ext (.t 12) 1),o 7 (.alloc (.agg [.int .i64 0,.int .i64 0,.int .i64 0,.int .i64 0,.int .i64 0,.int .i64 0])),p (.br (some 6) (.t 7) (.t 18)),m 8 19]
def GL:=[bh 9 0]
def GM:=[m 20 9,f 21 1 5 3,l 22 21,lt 23 20 22]
def GN:=[m 26 2,m 27 9,ad 28 27 2,o 29 (.call 34 [.t 26,.t 28]),o 30 (.call 25 [.t 29,(ai 6)]),m 31 2,m 32 9,ad 33 32 5,o 34 (.call 34 [.t 31,.t 33]),o 35 (.call 25 [.t 34,(ai 5)]),o 36 (.bin .shl (ai 1) (.t 35)),o 37 (.ia 6 1 (.t 7) (.t 30)),p (.br none (.t 37) (.t 36))]
def GO:=[m 24 9,ad 25 24 1,m 9 25]
def GP:=[bh 10 0]
def GQ:=[m 38 10,m 39 2,o 40 (.call 34 [.t 39,(ai 1)]),o 41 (.call 25 [.t 40,(ai 4)]),lt 42 38 41]
def GR:=[m 45 2,m 46 10,ad 47 46 7,o 48 (.call 34 [.t 45,.t 47]),o 49 (.call 25 [.t 48,(ai 6)]),m 11 49]
def GS:=[m 50 11,m 51 11,o 52 (.ia 6 1 (.t 7) (.t 51)),l 53 52,m 54 2,m 55 10,ad 56 55 3,o 57 (.call 34 [.t 54,.t 56]),o 58 (.call 25 [.t 57,(ai 32)]),o 59 (.bin .or (.t 53) (.t 58)),o 60 (.ia 6 1 (.t 7) (.t 50)),p (.br none (.t 60) (.t 59))]
def VF:=some [[],[],[1],[2],[],[],[5],[4,6],[7,7],[3,8],[0,0,1,2,3,4,5,6,7,8,9],[10,9,8,0,1,2,3,4,5,6,7,8,9]]
def GJ:=[m 43 10,ad 44 43 1,m 10 44]
def GK:=[aC 61 6 7,p (.br (some 6) (.t 6) (.t 61))]
def AK:aP:=(s (r GH) (s (r GI) (s (s (r GL) (.block 0 (.loop (s (s (r GM) (.cond (.t 23) .skip (.exit 0))) (s (.block 1 (r GN)) (r GO)))))) (s (s (r GP) (.block 2 (.loop (s (s (r GQ) (.cond (.t 42) .skip (.exit 2))) (s (.block 3 (s (r GR) (.ca VF GS))) (r GJ)))))) (s (r GK) .ret)))))
def Ll:List aZ:=[.cell 6 (some 6)]
theorem SB:bF Tryz.prog Tryz.f35 AK:=e (by kernel_rfl)
theorem UA:bG Tryz.prog Tryz.f35 Ll:=e (by kernel_rfl)
theorem QR:bE Tryz.prog 35:=e (by kernel_rfl)
def GU:=[o 4 (.mv bn)]
def GV:=[bh 5 0]
def GW:=[m 6 5,m 7 0,o 8 (.len (.t 7)),lt 9 6 8]
def GX:=[m 12 0,m 13 5,o 14 (.is 1 (.t 12) (.t 13)),l 15 14,m 16 1,o 17 (.bin .eql (.t 15) (.t 16))]
def GY:=[o 4 (.mv T)]
def GZ:=[m 10 5,ad 11 10 1,m 5 11]
def G0:=[o 4 (.mv bn)]
def AL:aP:=(s (r GU) (s (s (r GV) (.block 0 (.loop (s (s (r GW) (.cond (.t 9) .skip (.exit 0))) (s (.block 1 (s (r GX) (.cond (.t 17) (s (r GY) .ret) .skip))) (r GZ)))))) (s (r G0) .ret)))
def Lm:List aZ:=[.tmp 4]
theorem SC:bF Tryz.prog Tryz.f36 AL:=e (by kernel_rfl)
theorem UB:bG Tryz.prog Tryz.f36 Lm:=e (by kernel_rfl)
theorem QS:bE Tryz.prog 36:=e (by kernel_rfl)
def G1:=[bh 2 0]
def G2:=[m 5 0,o 6 (.len (.t 5)),o 7 (.bin .gtr (.t 6) (ai 60))]
def abl:=[bh 2 41]
def G3:=[m 8 0,o 9 (.len (.t 8)),bh 10 0]
def abm:=[lt 11 10 9]
def abn:=[m 12 10,o 13 (.is 17 (.t 8) (.t 10)),aC 14 17 13,o 4 (.alloc (.agg [.agg [.int .i64 0,.int .i64 0],.int .i64 0,.int .i64 0,.int .i64 0,.int .i64 0,.int .i64 0,.int .i64 0,.int .i64 0,.agg [.int .i64 0,.int .i64 0,.int .i64 0,.int .i64 0,.int .i64 0,.int .i64 0],.agg [.int .i64 0,.int .i64 0]])),m 3 12,p (.br (some 17) (.t 4) (.t 14))]
def abo:=[aC 15 17 4,o 16 (.call 117 [.t 15]),no 17 16,m 18 17,gN 19 3 18,on 20 (.bin .gtr (.t 19) (ai 0)) 18,gN 21 20 18,dh 22 0 21,dh 23 3 21,bW 24 (.bin .sub (.t 23) (ai 1)) 21,bW 25 (.is 17 (.t 22) (.t 24)) 21,dK 26 0 0 25 21,bW 27 (.ld (some 2) (.t 26)) 21,dK 28 0 0 4 21,bW 29 (.ld (some 2) (.t 28)) 21,bW 30 (.call 118 [.t 27,.t 29]) 21,bW 31 (.bin .geq (.t 30) (ai 0)) 21,on 32 (.pick (.t 21) (.t 31) bn) 18,or 33 18 32]
def VG:=some [[],[0],[1],[2,1],[3],[4,3],[5,3,3],[6],[6],[8,6],[7,9,6],[10,6],[11,6],[6],[13,6],[12,14,6,6],[15,6],[6,16,3],[3,17]]
def abp:=[bh 2 41]
def abq:=[ad 34 10 1,m 10 34]
def abr:=[bh 2 0]
def AM:aP:=(s (r G1) (s (s (r G2) (.cond (.t 7) (s (r abl) .ret) .skip)) (s (s (r G3) (.block 0 (.loop (s (r abm) (s (.cond (.t 11) .skip (.exit 0)) (s (.block 1 (s (r abn) (s (.ca VG abo) (.cond (.t 33) (s (r abp) .ret) .skip)))) (r abq))))))) (s (r abr) .ret))))
def Lo:List aZ:=[.tmp 2]
theorem SE:bF Tryz.prog Tryz.f64 AM:=e (by kernel_rfl)
theorem UD:bG Tryz.prog Tryz.f64 Lo:=e (by kernel_rfl)
theorem QU:bE Tryz.prog 64:=e (by kernel_rfl)
def G4:=[b 1 0,bh 2 0]
def G5:=[f 5 0 0 1,aC 6 5 5,o 7 (.call 120 [.t 6]),no 8 7,m 9 8,fn 10 1 5 1 9,l8 11 10 9,on 12 (.call 121 [.t 11,(ai 0),(ai 2)]) 9,on 13 (.un .not (.t 12)) 9,or 14 9 13,m 15 14,fn 16 2 6 1 15,l8 17 16 15,on 18 (.len (.t 17)) 15,on 19 (.bin .gtr (.t 18) (ai 40)) 15,or 20 15 19]
def sa:=[bh 2 13]
def G6:=[f 21 2 6 1,l 22 21,o 23 (.len (.t 22)),bh 24 0]
def G7:=[lt 25 24 23]
def G8:=[m 26 24,o 27 (.is 7 (.t 22) (.t 24)),aC 28 7 27,o 4 (.alloc (.agg [.int .i64 0,.agg [.int .i64 0,.int .i64 0,.int .i64 0,.int .i64 0,.int .i64 0,.int .i64 0]])),m 3 26,p (.br (some 7) (.t 4) (.t 28))]
def G9:=[f 29 0 0 4,l 30 29,o 31 (.call 122 [.t 30]),no 32 31,m 33 32,fn 34 1 1 4 33,on 35 (.ld (some 6) (.t 34)) 33,on 36 (.call 123 [.t 35]) 33,on 37 (.un .not (.t 36)) 33,or 38 33 37,m 39 38,gN 40 3 39,on 41 (.bin .gtr (.t 40) (ai 0)) 39,gN 42 41 39,dK 43 2 6 1 42,ez 44 43 42,dh 45 3 42,bW 46 (.bin .sub (.t 45) (ai 1)) 42,bW 47 (.is 7 (.t 44) (.t 46)) 42,dK 48 0 0 47 42,ez 49 48 42,dK 50 0 0 4 42,ez 51 50 42,bW 52 (.bin .geq (.t 49) (.t 51)) 42,on 53 (.pick (.t 42) (.t 52) bn) 39,or 54 39 53,m 55 54,on 56 (.ld (some 7) (.t 1)) 55,fn 57 2 6 1 55,l8 58 57 55,gN 59 3 55,on 60 (.sl 7 (.t 58) none (some (.t 59)) none) 55,fn 61 1 1 4 55,on 62 (.ld (some 6) (.t 61)) 55,on 63 (.call 124 [.t 56,.t 60,.t 62]) 55,on 64 (.un .not (.t 63)) 55,or 65 55 64]
def VH:=some [[],[0],[1],[2],[3,2],[4],[5,4],[6,4,4],[7,4],[4,8],[9,7],[10],[11,10],[12,10,10],[13],[14,13],[13],[16,13],[15,17,13],[18,13],[19,13],[13],[21,13],[20,22,13],[13,23,10],[10,24],[25,13],[26],[26],[28,26],[26],[29,30,26],[26],[32,26],[27,31,33,26,26],[34,26],[26,35]]
def oY:=[bh 2 13]
def vH:=[ad 66 24 1,m 24 66]
def Ha:=[bh 2 0]
def AN:aP:=(s (r G4) (s (s (r G5) (.cond (.t 20) (s (r sa) .ret) .skip)) (s (s (r G6) (.block 0 (.loop (s (r G7) (s (.cond (.t 25) .skip (.exit 0)) (s (.block 1 (s (r G8) (s (.ca VH G9) (.cond (.t 65) (s (r oY) .ret) .skip)))) (r vH))))))) (s (r Ha) .ret))))
def Lp:List aZ:=[.tmp 2]
theorem SF:bF Tryz.prog Tryz.f66 AN:=e (by kernel_rfl)
theorem UE:bG Tryz.prog Tryz.f66 Lp:=e (by kernel_rfl)
theorem QV:bE Tryz.prog 66:=e (by kernel_rfl)
def abt:=[bh 6 0]
def abu:=[m 10 0,o 11 (.call 64 [.t 10]),m 7 11]
def aby:=[m 12 7,o 13 (.bin .neq (.t 12) (ai 0))]
def abz:=[m 14 7,m 6 14]
def abA:=[m 15 1,o 16 (.len (.t 15)),bh 17 0]
def abB:=[lt 18 17 16]
def abC:=[o 19 (.is 2 (.t 15) (.t 17)),aC 20 2 19,o 9 (.alloc (.agg [.int .i64 0,.int .i64 0])),p (.br (some 2) (.t 9) (.t 20))]
def abD:=[o 21 (.ia 2 1 (.t 9) (ai 0)),l 22 21,o 23 (.ia 2 1 (.t 9) (ai 1)),l 24 23,o 25 (.call 114 [.t 22,(ai 1),.t 24]),no 26 25]
def abE:=[bh 6 1]
def abF:=[ad 27 17 1,m 17 27]
def abv:=[m 28 2,o 29 (.call 125 [.t 28,(.c (.func 126 []))])]
def abw:=[bh 6 6]
def abx:=[bh 6 0]
def AO:aP:=(s (r abt) (s (s (r abu) (s (r aby) (.cond (.t 13) (s (r abz) .ret) .skip))) (s (s (r abA) (.block 0 (.loop (s (r abB) (s (.cond (.t 18) .skip (.exit 0)) (s (.block 1 (s (r abC) (s (r abD) (.cond (.t 26) (s (r abE) .ret) .skip)))) (r abF))))))) (s (s (r abv) (.cond (.t 29) (s (r abw) .ret) .skip)) (s (r abx) .ret)))))
def Lq:List aZ:=[.tmp 6]
theorem SG:bF Tryz.prog Tryz.f67 AO:=e (by kernel_rfl)
theorem UF:bG Tryz.prog Tryz.f67 Lq:=e (by kernel_rfl)
theorem QW:bE Tryz.prog 67:=e (by kernel_rfl)
def abG:=[o 4 (.mv (.c (.nilp)))]
def abH:=[m 8 0,m 9 1,o 10 (.call 88 [.t 8,(ai 100000),.t 9]),m 7 10,o 11 (.ext (.t 7) 0),o 12 (.ext (.t 7) 1),m 5 11,m 6 12]
def abI:=[m 13 5,m 4 13]
def AP:aP:=(s (r abG) (s (r abH) (s (r abI) .ret)))
def Lr:List aZ:=[.tmp 4]
theorem SH:bF Tryz.prog Tryz.f68 AP:=e (by kernel_rfl)
theorem UG:bG Tryz.prog Tryz.f68 Lr:=e (by kernel_rfl)
theorem QX:bE Tryz.prog 68:=e (by kernel_rfl)
def abJ:=[b 2 0,o 4 (.mv (.c (.nils 1)))]
def abK:=[aC 8 7 2,m 9 1,o 10 (.nilC (.t 9)),f 11 0 0 10,f 12 8 8 11,l 13 12,o 14 (.call 128 [.t 8,.t 13]),m 7 14,o 15 (.ext (.t 7) 0),o 16 (.ext (.t 7) 1),m 5 15,m 6 16]
def VI:=some [[],[],[1],[2],[3],[4],[0,5],[6],[7],[7],[8,6,0,1,2,3,4,5,6,7,8],[9,10,0,1,2,3,4,5,6,7,8,9,10]]
def abL:=[m 17 5,m 4 17]
def AQ:aP:=(s (r abJ) (s (.ca VI abK) (s (r abL) .ret)))
def Ls:List aZ:=[.tmp 4]
theorem SI:bF Tryz.prog Tryz.f69 AQ:=e (by kernel_rfl)
theorem UH:bG Tryz.prog Tryz.f69 Ls:=e (by kernel_rfl)
theorem QY:bE Tryz.prog 69:=e (by kernel_rfl)
def Hb:=[o 4 (.mv (.c (.nils 1)))]
def Hc:=[o 5 (.mv (.c (.nils 1)))]
def Hd:=[m 8 0,o 9 (.nilC (.t 8)),f 10 0 0 9,l 11 10,o 12 (.j7 (.t 11))]
def vI:=[o 13 (.jg (.t 12)),o 14 (.ext (.t 13) 0)]
def He:=[o 15 (.ent (.t 12)),o 16 (.ext (.t 15) 0),o 17 (.ext (.t 15) 1),m 6 16,m 7 17]
def Hf:=[m 18 1,m 19 7,o 20 (.eG (.t 18) [.t 19])]
def abM:=[m 21 5,m 22 6,o 23 (.bs 1 [.t 22]),o 24 (.dF 3 1 8 (.int .i64 0) (.t 21) (.t 23)),m 5 24]
def abN:=[m 25 5,o 26 (.call 107 [.t 25])]
def abO:=[m 27 5,m 4 27]
def AR:aP:=(s (r Hb) (s (r Hc) (s (s (r Hd) (.block 0 (.loop (s (r vI) (s (.cond (.t 14) .skip (.exit 0)) (.block 1 (s (r He) (s (r Hf) (.cond (.t 20) (r abM) .skip))))))))) (s (r abN) (s (r abO) .ret)))))
def Lt:List aZ:=[.tmp 4]
theorem SJ:bF Tryz.prog Tryz.f72 AR:=e (by kernel_rfl)
theorem UI:bG Tryz.prog Tryz.f72 Lt:=e (by kernel_rfl)
theorem QZ:bE Tryz.prog 72:=e (by kernel_rfl)
def abP:=[o 3 (.mv bn)]
def abQ:=[m 4 0,o 5 (.nilC (.t 4)),f 6 0 0 5,f 7 4 4 6,l 8 7,o 9 (.bin .gtr (.t 8) (ai 0)),m 10 9,bW 11 (.ld (some 7) (.t 1)) 10,dh 12 0 10,bW 13 (.call 69 [.t 11,.t 12]) 10,dh 14 0 10,bW 15 (.nilC (.t 14)) 10,dK 16 0 0 15 10,dK 17 4 4 16 10,ez 18 17 10,bW 19 (.call 74 [.t 13,.t 18]) 10,bW 20 (.un .not (.t 19)) 10,and 21 10 20,m 3 21]
def VJ:=some [[],[0],[1],[2],[3],[4],[5],[6],[6],[7,8,6,6],[6],[10,6],[11,6],[12,6],[13,6],[9,14,9,6],[15,6],[6,16],[17,15,0,1,2,3,4,5,6,7,8,9,10,11,12,13,14,15,16,17]]
def AS:aP:=(s (r abP) (s (.ca VJ abQ) .ret))
def Lu:List aZ:=[.tmp 3]
theorem SK:bF Tryz.prog Tryz.f73 AS:=e (by kernel_rfl)
theorem UJ:bG Tryz.prog Tryz.f73 Lu:=e (by kernel_rfl)
theorem Q0:bE Tryz.prog 73:=e (by kernel_rfl)
def abR:=[o 4 (.mv bn)]
def abS:=[m 5 0,m 6 1,o 7 (.call 131 [.t 5,.t 6]),o 8 (.bin .geq (.t 7) (ai 0)),m 4 8]
def AT:aP:=(s (r abR) (s (r abS) .ret))
def Lv:List aZ:=[.tmp 4]
theorem SL:bF Tryz.prog Tryz.f74 AT:=e (by kernel_rfl)
theorem UK:bG Tryz.prog Tryz.f74 Lv:=e (by kernel_rfl)
theorem Q1:bE Tryz.prog 74:=e (by kernel_rfl)
def abT:=[b 3 0,o 6 (.mv bn)]
def abU:=[m 8 1,o 9 (.ptrE false (.t 8) (.c (.nilp))),m 10 9,gN 11 2 10,on 12 (.ptrE false (.t 11) (.c (.nilp))) 10,or 13 10 12]
def abV:=[m 14 1,m 15 2,o 16 (.ptrE false (.t 14) (.t 15)),m 6 16]
def abW:=[o 7 (.mv (.c (.func 133 [])))]
def abX:=[m 17 7,m 18 1,o 19 (.eG (.t 17) [.t 18]),m 20 7,m 21 2,o 22 (.eG (.t 20) [.t 21]),o 23 (.eqv (.ke 8 (.i .i64)) false (.t 19) (.t 22)),m 24 23,bW 25 (.ld (some 7) (.t 3)) 24,dh 26 1 24,bW 27 (.call 69 [.t 25,.t 26]) 24,bW 28 (.ld (some 7) (.t 3)) 24,dh 29 2 24,bW 30 (.call 69 [.t 28,.t 29]) 24,bW 31 (.call 134 [.t 27,.t 30]) 24,and 32 24 31,m 6 32]
def VK:=some [[],[],[0,1],[],[],[3,4,2],[2,5],[6,5],[7],[7],[8,9,7,7],[7],[7],[11,12,10,7],[10,13,13,7],[7,14],[15,14,0,1,2,3,4,5,6,7,8,9,10,11,12,13,14,15]]
def rM:aP:=(s (r abT) (s (s (r abU) (.cond (.t 13) (s (r abV) .ret) .skip)) (s (r abW) (s (.ca VK abX) .ret))))
def tc:List aZ:=[.tmp 6]
theorem uw:bF Tryz.prog Tryz.f77 rM:=e (by kernel_rfl)
theorem uG:bG Tryz.prog Tryz.f77 tc:=e (by kernel_rfl)
theorem uu:bE Tryz.prog 77:=e (by kernel_rfl)
def Hg:=[o 4 (.mv (.c (.nils 17)))]
def Hh:=[m 5 0,o 6 (.call 136 [.t 5]),m 7 1,m 8 1,ad 9 8 1,o 10 (.call 135 [.t 6,.t 7,.t 9]),m 4 10]
def AU:aP:=(s (r Hg) (s (r Hh) .ret))
def Lw:List aZ:=[.tmp 4]
theorem SM:bF Tryz.prog Tryz.f78 AU:=e (by kernel_rfl)
theorem UL:bG Tryz.prog Tryz.f78 Lw:=e (by kernel_rfl)
theorem Q2:bE Tryz.prog 78:=e (by kernel_rfl)
def Hi:=[o 0 (.mv (.c (.nils 17)))]
def Hj:=[o 1 (.bld [.agg [.int .i64 0,.int .i64 0],.int .i64 0,.int .i64 0,.int .i64 0,.int .i64 0,.int .i64 0,.int .i64 0,.int .i64 0,.agg [.int .i64 0,.int .i64 0,.int .i64 0,.int .i64 0,.int .i64 0,.int .i64 0],.agg [.int .i64 0,.int .i64 0]] [(1,(ai 1)),(2,(ai 1)),(3,(ai 1)),(4,(ai 10)),(6,(ai 3)),(7,(ai 2))]),o 2 (.bld [.int .i64 0,.int .i64 0] [(1,(ai 1))]),o 3 (.bld [.agg [.int .i64 0,.int .i64 0],.int .i64 0,.int .i64 0,.int .i64 0,.int .i64 0,.int .i64 0,.int .i64 0,.int .i64 0,.agg [.int .i64 0,.int .i64 0,.int .i64 0,.int .i64 0,.int .i64 0,.int .i64 0],.agg [.int .i64 0,.int .i64 0]] [(0,(.t 2)),(1,(ai 1)),(2,(ai 5)),(3,(ai 5)),(4,(ai 11)),(6,(ai 3)),(7,(ai 2)),(5,(ai 10))]),o 4 (.bld [.int .i64 0,.int .i64 0] [(1,(ai 2))]),o 5 (.bld [.agg [.int .i64 0,.int .i64 0],.int .i64 0,.int .i64 0,.int .i64 0,.int .i64 0,.int .i64 0,.int .i64 0,.int .i64 0,.agg [.int .i64 0,.int .i64 0,.int .i64 0,.int .i64 0,.int .i64 0,.int .i64 0],.agg [.int .i64 0,.int .i64 0]] [(0,(.t 4)),(1,(ai 2)),(2,(ai 6)),(3,(ai 6)),(4,(ai 20)),(6,(ai 3))]),o 6 (.bld [.int .i64 0,.int .i64 0] [(1,(ai 3))]),o 7 (.bld [.int .i64 0,.int .i64 0,.int .i64 0,.int .i64 0,.int .i64 0,.int .i64 0] [(0,(ai 31)),(1,(ai 1)),(2,(ai 1)),(3,(ai 1)),(4,(ai 1)),(5,(ai 31))]),o 8 (.bld [.agg [.int .i64 0,.int .i64 0],.int .i64 0,.int .i64 0,.int .i64 0,.int .i64 0,.int .i64 0,.int .i64 0,.int .i64 0,.agg [.int .i64 0,.int .i64 0,.int .i64 0,.int .i64 0,.int .i64 0,.int .i64 0],.agg [.int .i64 0,.int .i64 0]] [(0,(.t 6)),(1,(ai 4)),(2,(ai 6)),(3,(ai 6)),(4,(ai 20)),(8,(.t 7))]),o 9 (.bld [.int .i64 0,.int .i64 0] [(1,(ai 4))]),o 10 (.bld [.agg [.int .i64 0,.int .i64 0],.int .i64 0,.int .i64 0,.int .i64 0,.int .i64 0,.int .i64 0,.int .i64 0,.int .i64 0,.agg [.int .i64 0,.int .i64 0,.int .i64 0,.int .i64 0,.int .i64 0,.int .i64 0],.agg [.int .i64 0,.int .i64 0]] [(0,(.t 9)),(1,(ai 3)),(2,(ai 7)),(3,(ai 7)),(4,(ai 10)),(7,(ai 1))]),o 11 (.bld [.int .i64 0,.int .i64 0] [(1,(ai 5))]),o 12 (.bld [.int .i64 0,.int .i64 0,.int .i64 0,.int .i64 0,.int .i64 0,.int .i64 0] [(0,(ai 24)),(1,(ai 1)),(2,(ai 1)),(3,(ai 1)),(4,(ai 1)),(5,(ai 31))]),o 13 (.bld [.agg [.int .i64 0,.int .i64 0],.int .i64 0,.int .i64 0,.int .i64 0,.int .i64 0,.int .i64 0,.int .i64 0,.int .i64 0,.agg [.int .i64 0,.int .i64 0,.int .i64 0,.int .i64 0,.int .i64 0,.int .i64 0],.agg [.int .i64 0,.int .i64 0]] [(0,(.t 11)),(1,(ai 4)),(2,(ai 6)),(3,(ai 9)),(4,(ai 20)),(8,(.t 12))]),o 14 (.bld [.int .i64 0,.int .i64 0] [(1,(ai 6))]),o 15 (.bld [.agg [.int .i64 0,.int .i64 0],.int .i64 0,.int .i64 0,.int .i64 0,.int .i64 0,.int .i64 0,.int .i64 0,.int .i64 0,.agg [.int .i64 0,.int .i64 0,.int .i64 0,.int .i64 0,.int .i64 0,.int .i64 0],.agg [.int .i64 0,.int .i64 0]] [(0,(.t 14)),(1,(ai 5)),(2,(ai 10)),(3,(ai 10)),(4,(ai 20)),(7,(ai 3))]),o 16 (.bld [.int .i64 0,.int .i64 0] [(1,(ai 7))]),o 17 (.bld [.int .i64 0,.int .i64 0,.int .i64 0,.int .i64 0,.int .i64 0,.int .i64 0] [(0,(ai 1)),(1,(ai 1)),(2,(ai 1)),(3,(ai 1)),(4,(ai 1)),(5,(ai 1))]),o 18 (.bld [.agg [.int .i64 0,.int .i64 0],.int .i64 0,.int .i64 0,.int .i64 0,.int .i64 0,.int .i64 0,.int .i64 0,.int .i64 0,.agg [.int .i64 0,.int .i64 0,.int .i64 0,.int .i64 0,.int .i64 0,.int .i64 0],.agg [.int .i64 0,.int .i64 0]] [(0,(.t 16)),(1,(ai 4)),(2,(ai 8)),(3,(ai 11)),(4,(ai 11)),(8,(.t 17))]),o 19 (.bld [.int .i64 0,.int .i64 0] [(1,(ai 8))]),o 20 (.bld [.agg [.int .i64 0,.int .i64 0],.int .i64 0,.int .i64 0,.int .i64 0,.int .i64 0,.int .i64 0,.int .i64 0,.int .i64 0,.agg [.int .i64 0,.int .i64 0,.int .i64 0,.int .i64 0,.int .i64 0,.int .i64 0],.agg [.int .i64 0,.int .i64 0]] [(0,(.t 19)),(1,(ai 6)),(2,(ai 12)),(3,(ai 12)),(4,(ai 10))]),o 21 (.bld [.int .i64 0,.int .i64 0] [(1,(ai 9))]),o 22 (.bld [.int .i64 0,.int .i64 0] [(1,(ai 5))]),o 23 (.bld [.agg [.int .i64 0,.int .i64 0],.int .i64 0,.int .i64 0,.int .i64 0,.int .i64 0,.int .i64 0,.int .i64 0,.int .i64 0,.agg [.int .i64 0,.int .i64 0,.int .i64 0,.int .i64 0,.int .i64 0,.int .i64 0],.agg [.int .i64 0,.int .i64 0]] [(0,(.t 21)),(1,(ai 0)),(3,(ai 14)),(9,(.t 22))]),o 24 (.bs 17 [.t 1,.t 3,.t 5,.t 8,.t 10,.t 13,.t 15,.t 18,.t 20,.t 23]),m 0 24]
def AV:aP:=(s (r Hi) (s (r Hj) .ret))
def Lx:List aZ:=[.tmp 0]
theorem SN:bF Tryz.prog Tryz.f81 AV:=e (by kernel_rfl)
theorem UM:bG Tryz.prog Tryz.f81 Lx:=e (by kernel_rfl)
theorem Q3:bE Tryz.prog 81:=e (by kernel_rfl)
def Hk:=[o 0 (.alloc (.agg [.agg [.int .i64 0,.int .i64 0,.int .i64 0,.int .i64 0,.int .i64 0],.int .i64 0,.nils 7]))]
def Hl:=[o 1 (.bld [.int .i64 0,.int .i64 0,.int .i64 0,.int .i64 0,.int .i64 0] [(0,(ai 1)),(1,(ai 3)),(2,(ai 4)),(3,(ai 24)),(4,(ai 24))]),o 2 (.bld [.int .i64 0,.agg [.int .i64 0,.int .i64 0,.int .i64 0,.int .i64 0,.int .i64 0,.int .i64 0]] [(0,(ai 1))]),o 3 (.bld [.int .i64 0,.int .i64 0,.int .i64 0,.int .i64 0,.int .i64 0,.int .i64 0] [(0,(ai 2)),(1,(ai 0)),(2,(ai 0)),(3,(ai 0)),(4,(ai 0)),(5,(ai 0))]),o 4 (.bld [.int .i64 0,.agg [.int .i64 0,.int .i64 0,.int .i64 0,.int .i64 0,.int .i64 0,.int .i64 0]] [(0,(ai 2)),(1,(.t 3))]),o 5 (.bld [.int .i64 0,.int .i64 0,.int .i64 0,.int .i64 0,.int .i64 0,.int .i64 0] [(0,(ai 3)),(1,(ai 0)),(2,(ai 0)),(3,(ai 0)),(4,(ai 0)),(5,(ai 2))]),o 6 (.bld [.int .i64 0,.agg [.int .i64 0,.int .i64 0,.int .i64 0,.int .i64 0,.int .i64 0,.int .i64 0]] [(0,(ai 3)),(1,(.t 5))]),o 7 (.bs 7 [.t 2,.t 4,.t 6]),o 8 (.bld [.agg [.int .i64 0,.int .i64 0,.int .i64 0,.int .i64 0,.int .i64 0],.int .i64 0,.nils 7] [(0,(.t 1)),(2,(.t 7))]),p (.br (some 7) (.t 0) (.t 8))]
def AW:aP:=(s (r Hk) (s (r Hl) .ret))
def Ly:List aZ:=[.cell 0 (some 7)]
theorem SO:bF Tryz.prog Tryz.f82 AW:=e (by kernel_rfl)
theorem UN:bG Tryz.prog Tryz.f82 Ly:=e (by kernel_rfl)
theorem Q4:bE Tryz.prog 82:=e (by kernel_rfl)
def abY:=[o 4 (.mv (.c (.nils 1)))]
def abZ:=[o 5 (.mv (.c (.nils 1)))]
def ab0:=[bh 6 0]
def ab1:=[m 7 6,m 8 0,o 9 (.len (.t 8)),lt 10 7 9]
def ab2:=[m 13 5,m 14 0,m 15 6,m 16 1,o 17 (.bin .add (.t 15) (.t 16)),o 18 (.call 34 [.t 14,.t 17]),m 19 1,o 20 (.bin .add (.t 18) (.t 19)),o 21 (.bs 1 [.t 20]),o 22 (.dF 3 1 8 (.int .i64 0) (.t 13) (.t 21)),m 5 22]
def ab3:=[m 11 6,ad 12 11 1,m 6 12]
def ab4:=[m 23 5,m 4 23]
def AX:aP:=(s (r abY) (s (r abZ) (s (s (r ab0) (.block 0 (.loop (s (s (r ab1) (.cond (.t 10) .skip (.exit 0))) (s (.block 1 (r ab2)) (r ab3)))))) (s (r ab4) .ret))))
def Lz:List aZ:=[.tmp 4]
theorem SP:bF Tryz.prog Tryz.f83 AX:=e (by kernel_rfl)
theorem UO:bG Tryz.prog Tryz.f83 Lz:=e (by kernel_rfl)
theorem Q5:bE Tryz.prog 83:=e (by kernel_rfl)
def ab5:=[b 1 0,o 2 (.alloc (.agg [.agg [.int .i64 0,.int .i64 0],.int .i64 0,.int .i64 0,.int .i64 0,.int .i64 0,.int .i64 0,.int .i64 0,.int .i64 0,.agg [.int .i64 0,.int .i64 0,.int .i64 0,.int .i64 0,.int .i64 0,.int .i64 0],.agg [.int .i64 0,.int .i64 0]]))]
def ab6:=[f 4 0 0 1,aC 5 2 4,f 6 1 2 1,l 7 6,f 8 2 3 1,l 9 8,f 10 3 4 1,l 11 10,o 12 (.bld [.agg [.int .i64 0,.int .i64 0],.int .i64 0,.int .i64 0,.int .i64 0,.int .i64 0,.int .i64 0,.int .i64 0,.int .i64 0,.agg [.int .i64 0,.int .i64 0,.int .i64 0,.int .i64 0,.int .i64 0,.int .i64 0],.agg [.int .i64 0,.int .i64 0]] [(0,(.t 5)),(1,(.t 7)),(2,(.t 9)),(3,(.t 11))]),o 3 (.alloc (.agg [.agg [.int .i64 0,.int .i64 0],.int .i64 0,.int .i64 0,.int .i64 0,.int .i64 0,.int .i64 0,.int .i64 0,.int .i64 0,.agg [.int .i64 0,.int .i64 0,.int .i64 0,.int .i64 0,.int .i64 0,.int .i64 0],.agg [.int .i64 0,.int .i64 0]])),p (.br (some 17) (.t 3) (.t 12))]
def ach:=[f 13 1 2 1,l 14 13,o 15 (.bin .eql (.t 14) (ai 0))]
def aci:=[f 16 9 15 1,aC 17 2 16,f 18 9 15 3,p (.br (some 2) (.t 18) (.t 17))]
def acj:=[aC 19 17 3,p (.br (some 17) (.t 2) (.t 19))]
def ack:=[f 20 4 5 1,l 21 20,f 22 4 5 3,p (.br none (.t 22) (.t 21))]
def acm:=[f 23 1 2 1,l 24 23]
def acn:=[o 26 (.bin .eql (.t 24) (ai 1)),m 25 26]
def aco:=[f 27 6 7 1,l 28 27,f 29 6 7 3,p (.br none (.t 29) (.t 28))]
def acp:=[f 30 7 8 1,l 31 30,f 32 7 8 3,p (.br none (.t 32) (.t 31))]
def ab7:=[f 33 5 6 1,l 34 33,f 35 5 6 3,p (.br none (.t 35) (.t 34))]
def ab8:=[o 37 (.bin .eql (.t 24) (ai 2)),m 36 37]
def ab9:=[f 38 6 7 1,l 39 38,f 40 6 7 3,p (.br none (.t 40) (.t 39))]
def aca:=[o 42 (.bin .eql (.t 24) (ai 3)),m 41 42]
def acb:=[o 43 (.bin .eql (.t 24) (ai 5)),m 41 43]
def acd:=[f 44 7 8 1,l 45 44,f 46 7 8 3,p (.br none (.t 46) (.t 45))]
def ace:=[o 48 (.bin .eql (.t 24) (ai 4)),m 47 48]
def acf:=[f 49 8 9 1,aC 50 6 49,f 51 8 9 3,p (.br (some 6) (.t 51) (.t 50))]
def acg:=[aC 52 17 3,p (.br (some 17) (.t 2) (.t 52))]
def AY:aP:=(s (r ab5) (s (r ab6) (s (s (r ach) (.cond (.t 15) (s (r aci) (s (r acj) .ret)) .skip)) (s (r ack) (s (s (r acm) (.block 0 (s (r acn) (.cond (.t 25) (s (r aco) (s (r acp) (r ab7))) (s (r ab8) (.cond (.t 36) (r ab9) (s (s (r aca) (.cond (.t 41) .skip (r acb))) (.cond (.t 41) (r acd) (s (r ace) (.cond (.t 47) (r acf) .skip)))))))))) (s (r acg) .ret))))))
def LA:List aZ:=[.cell 2 (some 17)]
theorem SQ:bF Tryz.prog Tryz.f84 AY:=e (by kernel_rfl)
theorem UP:bG Tryz.prog Tryz.f84 LA:=e (by kernel_rfl)
theorem Q6:bE Tryz.prog 84:=e (by kernel_rfl)
def Hm:=[o 2 (.alloc (.agg [.int .i64 0,.int .i64 0,.int .i64 0,.int .i64 0,.int .i64 0]))]
def Hn:=[o 3 (.alloc (.agg [.int .i64 0,.int .i64 0,.int .i64 0,.int .i64 0,.int .i64 0]))]
def Ho:=[bh 4 0]
def Hp:=[m 6 4,o 7 (.bin .lss (.t 6) (ai 5))]
def Hq:=[m 10 4,m 11 4,o 12 (.bin .shl (ai 1) (.t 11)),o 13 (.ia 5 1 (.t 3) (.t 10)),p (.br none (.t 13) (.t 12))]
def Hr:=[m 14 0,m 15 4,o 16 (.call 34 [.t 14,.t 15]),o 17 (.call 25 [.t 16,(ai 12)]),m 5 17]
def Hs:=[m 18 5,o 19 (.bin .lss (.t 18) (ai 5))]
def Ht:=[m 20 4,m 21 4,o 22 (.ia 5 1 (.t 3) (.t 21)),l 23 22,m 24 5,o 25 (.bin .shl (ai 1) (.t 24)),o 26 (.bin .or (.t 23) (.t 25)),o 27 (.ia 5 1 (.t 3) (.t 20)),p (.br none (.t 27) (.t 26))]
def VL:=some [[],[],[1],[2],[],[4],[3,5],[0,0,1,2,3,4,5,6],[7,6,0,1,2,3,4,5,6]]
def vJ:=[m 8 4,ad 9 8 1,m 4 9]
def Hu:=[aC 28 5 3,p (.br (some 5) (.t 2) (.t 28))]
def AZ:aP:=(s (r Hm) (s (r Hn) (s (s (r Ho) (.block 0 (.loop (s (s (r Hp) (.cond (.t 7) .skip (.exit 0))) (s (.block 1 (s (r Hq) (s (r Hr) (s (r Hs) (.cond (.t 19) (.ca VL Ht) .skip))))) (r vJ)))))) (s (r Hu) .ret))))
def LB:List aZ:=[.cell 2 (some 5)]
theorem SR:bF Tryz.prog Tryz.f85 AZ:=e (by kernel_rfl)
theorem UQ:bG Tryz.prog Tryz.f85 LB:=e (by kernel_rfl)
theorem Q7:bE Tryz.prog 85:=e (by kernel_rfl)
def Hv:=[o 2 (.alloc (.agg [.int .i64 0,.int .i64 0,.int .i64 0,.int .i64 0,.int .i64 0,.int .i64 0]))]
def Hw:=[o 3 (.alloc (.agg [.int .i64 0,.int .i64 0,.int .i64 0,.int .i64 0,.int .i64 0,.int .i64 0]))]
def Hx:=[bh 4 5]
def Hy:=[m 5 4,o 6 (.bin .geq (.t 5) (ai 0))]
def Hz:=[m 9 4,m 10 0,o 11 (.bin .rem (.t 10) (ai 5)),o 12 (.ia 6 1 (.t 3) (.t 9)),p (.br none (.t 12) (.t 11))]
def HA:=[m 13 0,o 14 (.bin .quo (.t 13) (ai 5)),m 0 14]
def HB:=[m 7 4,o 8 (.bin .sub (.t 7) (ai 1)),m 4 8]
def HC:=[aC 15 6 3,p (.br (some 6) (.t 2) (.t 15))]
def A1:aP:=(s (r Hv) (s (r Hw) (s (s (r Hx) (.block 0 (.loop (s (s (r Hy) (.cond (.t 6) .skip (.exit 0))) (s (.block 1 (s (r Hz) (r HA))) (r HB)))))) (s (r HC) .ret))))
def LC:List aZ:=[.cell 2 (some 6)]
theorem SS:bF Tryz.prog Tryz.f86 A1:=e (by kernel_rfl)
theorem UR:bG Tryz.prog Tryz.f86 LC:=e (by kernel_rfl)
theorem Q8:bE Tryz.prog 86:=e (by kernel_rfl)
def HD:=[b 2 0,b 3 1,o 4 (.mv bn)]
def HE:=[bh 5 0]
def HF:=[m 6 5,f 7 2 6 2,l 8 7,o 9 (.len (.t 8)),lt 10 6 9]
def HG:=[f 13 0 0 2,aC 14 5 13,f 15 2 6 2,l 16 15,m 17 5,o 18 (.is 7 (.t 16) (.t 17)),f 19 1 1 18,aC 20 6 19,aC 21 6 3,o 22 (.call 129 [.t 14,.t 20,.t 21]),f 23 1 5 2,l 24 23,o 25 (.bin .mul (ai 2) (.t 24)),o 26 (.bin .leq (.t 22) (.t 25))]
def VM:=some [[],[0],[],[2],[],[3,4],[5],[6],[],[1,7,8],[],[10],[11],[9,12]]
def HI:=[o 4 (.mv T)]
def HJ:=[m 11 5,ad 12 11 1,m 5 12]
def HK:=[o 4 (.mv bn)]
def A2:aP:=(s (r HD) (s (s (r HE) (.block 0 (.loop (s (s (r HF) (.cond (.t 10) .skip (.exit 0))) (s (.block 1 (s (.ca VM HG) (.cond (.t 26) (s (r HI) .ret) .skip))) (r HJ)))))) (s (r HK) .ret)))
def LD:List aZ:=[.tmp 4]
theorem SU:bF Tryz.prog Tryz.f87 A2:=e (by kernel_rfl)
theorem US:bG Tryz.prog Tryz.f87 LD:=e (by kernel_rfl)
theorem Q9:bE Tryz.prog 87:=e (by kernel_rfl)
def HL:=[b 3 0,b 4 1,o 6 (.mv (.c (.nilp))),o 7 (.mv (.c (.nils 1)))]
def HM:=[o 8 (.alloc (.nils 1)),o 9 (.mv (.c (.nils 1)))]
def HR:=[l 15 3,m 16 2,o 17 (.call 105 [.t 15,.t 16])]
def acq:=[m 10 18]
def acr:=[l 19 3,m 20 10,o 21 (.is 17 (.t 19) (.t 20)),f 22 1 2 21,l 23 22,o 24 (.bin .neq (.t 23) (ai 0)),m 25 24,ez 26 3 25,dh 27 10 25,bW 28 (.is 17 (.t 26) (.t 27)) 25,dK 29 2 3 28 25,ez 30 29 25,ez 31 4 25,bW 32 (.bin .leq (.t 30) (.t 31)) 25,and 33 25 32]
def VN:=some [[],[],[0,1],[2],[3],[4],[5],[6],[6],[7,8,6],[9,6],[10,6],[6],[11,12,6],[6,13]]
def acs:=[l 34 8,m 35 10,o 36 (.bs 1 [.t 35]),o 37 (.dF 3 1 8 (.int .i64 0) (.t 34) (.t 36)),p (.br none (.t 8) (.t 37))]
def vL:=[l 38 8,o 39 (.mk 138 [.t 3]),o 40 (.call 137 [.t 38,.t 39])]
def vM:=[o 41 (.jB),o 42 (.bld [.raw (.map none)] [(0,(.t 41))]),b 43 42,m 11 43]
def vN:=[o 44 (.call 139 []),m 12 44]
def vO:=[l 45 8,o 46 (.len (.t 45)),bh 47 0]
def sc:=[lt 48 47 46]
def vK:=[o 49 (.is 1 (.t 45) (.t 47)),l 50 49,m 14 50]
def sd:=[m 51 12,l 52 3,m 53 14,o 54 (.is 17 (.t 52) (.t 53)),f 55 1 2 54,l 56 55,o 57 (.lk (.i .i64) (.da) false (.t 51) (.t 56)),m 58 11,l 59 3,m 60 14,o 61 (.is 17 (.t 59) (.t 60)),aC 62 17 61,o 63 (.eG (.t 57) [.t 58,.t 62]),no 64 63]
def BE:=some [[],[],[],[1,2],[3],[4],[0,5],[],[],[],[8,9],[10],[6,7,11],[12]]
def HN:=[m 65 9,m 66 14,o 67 (.bs 1 [.t 66]),o 68 (.dF 3 1 8 (.int .i64 0) (.t 65) (.t 67)),m 9 68]
def HO:=[ad 69 47 1,m 47 69]
def HP:=[m 70 9,o 71 (.call 107 [.t 70])]
def HQ:=[m 72 11,m 73 9,m 6 72,m 7 73]
def A4:aP:=(s (r HL) (s (r HM) (s (s (r HR) (.block 0 (.kF (.t 17) [18] (r acq) (.block 1 (s (.ca VN acr) (.cond (.t 33) (r acs) .skip)))))) (s (r vL) (s (r vM) (s (r vN) (s (s (r vO) (.block 2 (.loop (s (r sc) (s (.cond (.t 48) .skip (.exit 2)) (s (.block 3 (s (r vK) (s (.ca BE sd) (.cond (.t 64) (r HN) .skip)))) (r HO))))))) (s (r HP) (s (r HQ) .ret)))))))))
def LF:List aZ:=[.tmp 6,.tmp 7]
theorem SV:bF Tryz.prog Tryz.f88 A4:=e (by kernel_rfl)
theorem UT:bG Tryz.prog Tryz.f88 LF:=e (by kernel_rfl)
theorem Ra:bE Tryz.prog 88:=e (by kernel_rfl)
def acu:=[o 2 (.mv bn)]
def acv:=[m 3 0,o 4 (.call 90 [.t 3]),no 5 4,m 2 5]
def A5:aP:=(s (r acu) (s (r acv) .ret))
def LG:List aZ:=[.tmp 2]
theorem SW:bF Tryz.prog Tryz.f89 A5:=e (by kernel_rfl)
theorem UU:bG Tryz.prog Tryz.f89 LG:=e (by kernel_rfl)
theorem Rb:bE Tryz.prog 89:=e (by kernel_rfl)
def acw:=[o 2 (.mv bn)]
def acx:=[m 3 0,o 4 (.nilC (.t 3)),f 5 0 0 4,f 6 6 6 5,l 7 6,o 8 (.bin .geq (.t 7) (ai 0)),m 2 8]
def A6:aP:=(s (r acw) (s (r acx) .ret))
def LH:List aZ:=[.tmp 2]
theorem SX:bF Tryz.prog Tryz.f90 A6:=e (by kernel_rfl)
theorem UW:bG Tryz.prog Tryz.f90 LH:=e (by kernel_rfl)
theorem Rc:bE Tryz.prog 90:=e (by kernel_rfl)
def acy:=[o 4 (.mv bn)]
def acz:=[m 5 0,o 6 (.call 90 [.t 5]),no 7 6,m 8 7,dh 9 0 8,bW 10 (.nilC (.t 9)) 8,dK 11 0 0 10 8,dK 12 3 3 11 8,ez 13 12 8,ez 14 1 8,bW 15 (.bin .eql (.t 13) (.t 14)) 8,and 16 8 15,m 17 16,dh 18 0 17,bW 19 (.nilC (.t 18)) 17,dK 20 0 0 19 17,dK 21 1 1 20 17,ez 22 21 17,ez 23 2 17,bW 24 (.bin .eql (.t 22) (.t 23)) 17,and 25 17 24,m 4 25]
def VO:=some [[],[0],[1],[2,1],[3],[4,3],[5,3],[6,3],[7,3],[3],[8,9,3],[3,10],[11,3],[12],[13,12],[14,12],[15,12],[16,12],[12],[17,18,12],[12,19],[20,12,0,1,2,3,4,5,6,7,8,9,10,11,12,13,14,15,16,17,18,19,20]]
def A7:aP:=(s (r acy) (s (.ca VO acz) .ret))
def LI:List aZ:=[.tmp 4]
theorem SY:bF Tryz.prog Tryz.f91 A7:=e (by kernel_rfl)
theorem UX:bG Tryz.prog Tryz.f91 LI:=e (by kernel_rfl)
theorem Re:bE Tryz.prog 91:=e (by kernel_rfl)
def HS:=[o 6 (.mv bn)]
def HT:=[m 7 1,m 8 0,o 9 (.bin .leq (.t 7) (.t 8)),m 10 9,dh 11 0 10,dh 12 2 10,bW 13 (.bin .leq (.t 11) (.t 12)) 10,and 14 10 13,m 6 14]
def A8:aP:=(s (r HS) (s (r HT) .ret))
def LJ:List aZ:=[.tmp 6]
theorem SZ:bF Tryz.prog Tryz.f94 A8:=e (by kernel_rfl)
theorem UY:bG Tryz.prog Tryz.f94 LJ:=e (by kernel_rfl)
theorem Rf:bE Tryz.prog 94:=e (by kernel_rfl)
def HU:=[b 3 0,b 4 1,o 6 (.alloc (.agg [.int .i64 0,.int .i64 0,.int .i64 0,.int .i64 0,.int .i64 0,.int .i64 0])),bh 7 0]
def HV:=[aC 11 5 3,o 12 (.call 99 [.t 11]),o 13 (.bin .neq (.t 12) (ai 0))]
def HY:=[o 14 (.bld [.int .i64 0,.int .i64 0,.int .i64 0,.int .i64 0,.int .i64 0,.int .i64 0] []),p (.br (some 6) (.t 6) (.t 14)),bh 7 11]
def HZ:=[aC 15 6 4,o 16 (.call 100 [.t 15]),o 17 (.bin .neq (.t 16) (ai 0))]
def H0:=[o 18 (.bld [.int .i64 0,.int .i64 0,.int .i64 0,.int .i64 0,.int .i64 0,.int .i64 0] []),p (.br (some 6) (.t 6) (.t 18)),bh 7 10]
def H2:=[o 8 (.alloc (.agg [.int .i64 0,.int .i64 0,.int .i64 0,.int .i64 0,.int .i64 0,.int .i64 0]))]
def H3:=[bh 9 0]
def H4:=[m 19 9,o 20 (.bin .lss (.t 19) (ai 6))]
def H5:=[m 23 9,o 24 (.ia 6 1 (.t 4) (.t 23)),l 25 24,o 26 (.ia 5 1 (.t 3) (.t 25)),l 27 26,o 28 (.call 141 [.t 27]),m 10 28]
def H6:=[m 29 9,m 30 10,m 31 2,m 32 9,o 33 (.call 34 [.t 31,.t 32]),m 34 10,o 35 (.len (.t 34)),o 36 (.call 25 [.t 33,.t 35]),o 37 (.is 1 (.t 30) (.t 36)),l 38 37,o 39 (.bin .shl (ai 1) (.t 38)),o 40 (.ia 6 1 (.t 8) (.t 29)),p (.br none (.t 40) (.t 39))]
def HW:=[m 21 9,ad 22 21 1,m 9 22]
def HX:=[aC 41 6 8,p (.br (some 6) (.t 6) (.t 41)),bh 7 0]
def A9:aP:=(s (r HU) (s (s (r HV) (.cond (.t 13) (s (r HY) .ret) .skip)) (s (s (r HZ) (.cond (.t 17) (s (r H0) .ret) .skip)) (s (r H2) (s (s (r H3) (.block 0 (.loop (s (s (r H4) (.cond (.t 20) .skip (.exit 0))) (s (.block 1 (s (r H5) (r H6))) (r HW)))))) (s (r HX) .ret))))))
def LK:List aZ:=[.cell 6 (some 6),.tmp 7]
theorem S0:bF Tryz.prog Tryz.f98 A9:=e (by kernel_rfl)
theorem UZ:bG Tryz.prog Tryz.f98 LK:=e (by kernel_rfl)
theorem Rg:bE Tryz.prog 98:=e (by kernel_rfl)
def H7:=[b 1 0,bh 2 0]
def H8:=[bh 3 0]
def H9:=[m 4 3,o 5 (.bin .lss (.t 4) (ai 5))]
def Ia:=[m 8 3,o 9 (.ia 5 1 (.t 1) (.t 8)),l 10 9,o 11 (.call 94 [.t 10,(ai 0),(ai 31)]),no 12 11,m 13 12,gN 14 3 13,on 15 (.ia 5 1 (.t 1) (.t 14)) 13,l8 16 15 13,gN 17 3 13,on 18 (.bin .shl (ai 1) (.t 17)) 13,on 19 (.bin .and (.t 16) (.t 18)) 13,on 20 (.bin .eql (.t 19) (ai 0)) 13,or 21 13 20]
def VP:=some [[],[0],[1],[2],[3],[4,3],[5],[6,5],[7,5],[5],[9,5],[8,10,5],[11,5],[5,12]]
def vP:=[bh 2 11]
def Ib:=[m 6 3,ad 7 6 1,m 3 7]
def Ic:=[bh 2 0]
def Ba:aP:=(s (r H7) (s (s (r H8) (.block 0 (.loop (s (s (r H9) (.cond (.t 5) .skip (.exit 0))) (s (.block 1 (s (.ca VP Ia) (.cond (.t 21) (s (r vP) .ret) .skip))) (r Ib)))))) (s (r Ic) .ret)))
def LL:List aZ:=[.tmp 2]
theorem S1:bF Tryz.prog Tryz.f99 Ba:=e (by kernel_rfl)
theorem U0:bG Tryz.prog Tryz.f99 LL:=e (by kernel_rfl)
theorem Rh:bE Tryz.prog 99:=e (by kernel_rfl)
def Cs:=[b 1 0,bh 2 0]
def Ct:=[bh 3 0]
def Cu:=[m 4 3,o 5 (.bin .lss (.t 4) (ai 6))]
def Cv:=[m 8 3,o 9 (.ia 6 1 (.t 1) (.t 8)),l 10 9,o 11 (.call 94 [.t 10,(ai 0),(ai 4)]),no 12 11]
def Cw:=[bh 2 10]
def Cx:=[m 6 3,ad 7 6 1,m 3 7]
def Cy:=[bh 2 0]
def zl:aP:=(s (r Cs) (s (s (r Ct) (.block 0 (.loop (s (s (r Cu) (.cond (.t 5) .skip (.exit 0))) (s (.block 1 (s (r Cv) (.cond (.t 12) (s (r Cw) .ret) .skip))) (r Cx)))))) (s (r Cy) .ret)))
def J6:List aZ:=[.tmp 2]
theorem Rm:bF Tryz.prog Tryz.f100 zl:=e (by kernel_rfl)
theorem Tj:bG Tryz.prog Tryz.f100 J6:=e (by kernel_rfl)
theorem PD:bE Tryz.prog 100:=e (by kernel_rfl)
def Cz:=[b 3 0,b 4 1,b 5 2,bh 6 0]
def CA:=[bh 7 0]
def CB:=[bh 8 0]
def CC:=[m 9 8,o 10 (.bin .lss (.t 9) (ai 6))]
def CD:=[m 13 8,o 14 (.ia 6 1 (.t 4) (.t 13)),l 15 14,o 16 (.ia 5 1 (.t 3) (.t 15)),l 17 16,m 18 8,o 19 (.ia 6 1 (.t 5) (.t 18)),l 20 19,o 21 (.bin .and (.t 17) (.t 20)),o 22 (.bin .eql (.t 21) (ai 0))]
def U3:=some [[],[0],[1],[2],[3],[],[5],[6],[4,7],[8]]
def CE:=[m 23 7,ad 24 23 1,m 7 24]
def u3:=[m 11 8,ad 12 11 1,m 8 12]
def CF:=[m 25 7,m 6 25]
def zm:aP:=(s (r Cz) (s (r CA) (s (s (r CB) (.block 0 (.loop (s (s (r CC) (.cond (.t 10) .skip (.exit 0))) (s (.block 1 (s (.ca U3 CD) (.cond (.t 22) (r CE) .skip))) (r u3)))))) (s (r CF) .ret))))
def J7:List aZ:=[.tmp 6]
theorem Rn:bF Tryz.prog Tryz.f102 zm:=e (by kernel_rfl)
theorem Tk:bG Tryz.prog Tryz.f102 J7:=e (by kernel_rfl)
theorem PE:bE Tryz.prog 102:=e (by kernel_rfl)
def CG:=[b 2 0,b 3 1,o 4 (.mv (.c (.da)))]
def CH:=[o 9 (.jB),o 5 (.alloc (.raw (.map none))),p (.br none (.t 5) (.t 9))]
def CI:=[l 10 2,o 11 (.len (.t 10)),o 12 (.jY 4 1 (.bool false) (.t 11)),o 6 (.alloc (.nils 1)),p (.br none (.t 6) (.t 12))]
def CJ:=[l 13 2,o 14 (.call 145 [.t 13])]
def W2:=[m 7 15]
def W3:=[o 8 (.alloc (.agg [.agg [.int .i64 0,.int .i64 0],.int .i64 0,.int .i64 0,.int .i64 0,.int .i64 0,.int .i64 0,.int .i64 0,.int .i64 0,.agg [.int .i64 0,.int .i64 0,.int .i64 0,.int .i64 0,.int .i64 0,.int .i64 0],.agg [.int .i64 0,.int .i64 0]])),p (.br (some 17) (.t 8) (.t 16))]
def W4:=[l 17 6,m 18 7,f 19 3 4 8,l 20 19,l 21 3,o 22 (.bin .leq (.t 20) (.t 21)),m 23 22,ez 24 5 23,dK 25 0 0 8 23,bW 26 (.ld (some 2) (.t 25)) 23,bW 27 (.lk (.br [(.i .i64),(.i .i64)]) (.bool false) false (.t 24) (.t 26)) 23,bW 28 (.un .not (.t 27)) 23,and 29 23 28,o 30 (.is 1 (.t 17) (.t 18)),p (.br none (.t 30) (.t 29))]
def U4:=some [[],[],[],[2],[],[3,4],[5],[6],[6],[8,6],[7,9,6],[10,6],[6,11],[0,1,0,1,2,3,4,5,6,7,8,9,10,11,12],[13,12,6,0,1,2,3,4,5,6,7,8,9,10,11,12]]
def W5:=[l 31 6,m 32 7,o 33 (.is 1 (.t 31) (.t 32)),l 34 33,m 35 34,dK 36 1 2 8 35,ez 37 36 35,bW 38 (.bin .eql (.t 37) (ai 0)) 35,and 39 35 38]
def W6:=[l 40 5,f 41 9 15 8,aC 42 2 41,p (.gp (.br [(.i .i64),(.i .i64)]) (.t 40) (.t 42) T)]
def W7:=[o 43 (.mk 146 [.t 2,.t 6]),m 4 43]
def zn:aP:=(s (r CG) (s (r CH) (s (r CI) (s (s (r CJ) (.block 0 (.kF (.t 14) [15,16] (s (r W2) (r W3)) (.block 1 (s (.ca U4 W4) (s (r W5) (.cond (.t 39) (r W6) .skip))))))) (s (r W7) .ret)))))
def J8:List aZ:=[.tmp 4]
theorem Ro:bF Tryz.prog Tryz.f105 zn:=e (by kernel_rfl)
theorem Tl:bG Tryz.prog Tryz.f105 J8:=e (by kernel_rfl)
theorem PF:bE Tryz.prog 105:=e (by kernel_rfl)
theorem Bb:bE Tryz.prog 107:=e (by kernel_rfl)
end Go.Proofs.YtcldiigclhgafaaGreat
namespace Go.Abs
open Go Go.RowKit
def rO(on:List (List Nat)):List Nat:=on.foldl (fun acc ks=>acc++[oz acc ks]) []
def uJ(d:Option (List (List Nat)))(gs:List av):Bool:=match d with
 |none=>true
 |some on=>rR on gs (rO on)
section
variable {c:cK} {Q:Exit→ab→Prop} {A:ab} {d:Option (List (List Nat))} {on:List (List Nat)} {gs:List av}
theorem U.bj(hd:uJ d gs=true)(h:∀ K:ab→Prop,(∀ B,Q .normal B→K B)→a7 c.P c.Y d.isSome K (az gs A)):U c (.ca d gs) Q A:=by
 cases d with
 |none=>exact U.ca (cl:=[]) rfl h
 |some on=>exact U.ca (cl:=rO on) hd h
theorem U.ak{y:aP}(hd:uJ d gs=true)(h:∀ K:ab→Prop,(∀ B,U c y Q B→K B)→a7 c.P c.Y d.isSome K (az gs A)):U c (.seq (.ca d gs) y) Q A :=
 U.seq (U.bj hd h)
theorem U.tk(hs:List FuncId)(aC:eO)(σ:List Nat)(hd:s7 hs aC on gs (rO on) σ=true)(hi:eZ aC A)(h:∀ K:ab→Prop,(∀ B,Q .normal B→K B)→cB c.P hs K (az (pC σ gs) A)):U c (.ca (some on) gs) Q A :=
 U.agB hs aC (rO on) σ hd hi h
def gh(c:cK):aP→(Exit→ab→Prop)→ab→Prop
 | .seq x y,Q,A=>gh c x (ao (fun B=>U c y Q B) Q) A
 | .block id x,Q,A=>gh c x (bH id Q) A
 | .skip,Q,A=>Q .normal A
 | .exit id,Q,A=>Q (.exit id) A
 | .ret,Q,A=>Q .ret A
 | .cond b x y,Q,A=>ar (ae A b) (U c x Q A) (U c y Q A)
 |x,Q,A=>U c x Q A
def adG:aP→Bool
 | .seq _ _ | .block _ _ | .skip | .exit _ | .ret | .cond _ _ _=>true
 |_=>false
theorem gh.ug:∀ (x:aP) {Q:Exit→ab→Prop} {A:ab},gh c x Q A→U c x Q A
 | .seq x y,_,_,h=>U.seq (gh.ug x h)
 | .block id x,_,_,h=>U.block (gh.ug x h)
 | .skip,_,_,h=>U.skip h
 | .exit _,_,_,h=>U.exit h
 | .ret,_,_,h=>U.ret h
 | .cond _ _ _,_,_,h=>U.bD h
 | .ca _ _,_,_,h | .loop _,_,_,h | .scope _,_,_,h | .label,_,_,h | .kF _ _ _ _,_,_,h=>h
theorem U.of{x:aP}(_:adG x=true)(h:gh c x Q A):U c x Q A:=gh.ug x h
theorem aX :
  (∀ c x y Q A,gh c (.seq x y) Q A=gh c x (ao (fun B=>U c y Q B) Q) A)∧(∀ c id x Q A,gh c (.block id x) Q A=gh c x (bH id Q) A)∧(∀ c Q A,gh c .skip Q A=Q .normal A)∧(∀ c id Q A,gh c (.exit id) Q A=Q (.exit id) A)∧(∀ c Q A,gh c .ret Q A=Q .ret A) ∧
  (∀ c b x y Q A,gh c (.cond b x y) Q A=ar (ae A b) (U c x Q A) (U c y Q A))∧(∀ c d gs Q A,gh c (.ca d gs) Q A=U c (.ca d gs) Q A)∧(∀ c x Q A,gh c (.loop x) Q A=U c (.loop x) Q A)∧(∀ c f ps x y Q A,gh c (.kF f ps x y) Q A=U c (.kF f ps x y) Q A) ∧
  (∀ k Q A,ao k Q .normal A=k A)∧(∀ k Q A,ao k Q .ret A=Q .ret A)∧(∀ k Q A i,ao k Q (.exit i) A=Q (.exit i) A)∧(∀ i Q A,bH i Q .normal A=Q .normal A)∧(∀ i Q A,bH i Q .ret A=Q .ret A)∧(∀ i Q A j,bH i Q (.exit j) A=if j=i then Q .normal A else Q (.exit j) A) ∧
  (∀ p q,ar (.bool true) p q=p)∧(∀ p q,ar (.bool false) p q=q)∧(type_of% @wy) :=
 ⟨fun _ _ _ _ _=>rfl,fun _ _ _ _ _=>rfl,fun _ _ _=>rfl,fun _ _ _ _=>rfl,fun _ _ _=>rfl,fun _ _ _ _ _ _=>rfl,fun _ _ _ _ _=>rfl,fun _ _ _ _=>rfl,fun _ _ _ _ _ _ _=>rfl,fun _ _ _=>rfl,fun _ _ _=>rfl,fun _ _ _ _=>rfl,fun _ _ _=>rfl,fun _ _ _=>rfl,fun _ _ _ _=>rfl,
  fun p q=>by simp[ar],fun p q=>by simp[ar],wy⟩
theorem ar.aU{t:Bool}{p q:Prop}(h1:t=true→p)(h2:t=false→q):ar (.bool t) p q:=⟨h1,h2⟩
theorem U.aW{g:av}{r:List av}(hd:uJ d gs=true)(e:gs=g::r)(h:∀ K:ab→Prop,(∀ B,Q .normal B→K B)→a7 c.P c.Y d.isSome K (az (g::r) A)):U c (.ca d gs) Q A :=
 U.bj hd (e▸h)
theorem a7.aO(aC:List Nat){P:Program}{Y:Value→List I→List (Nat×ah)→cS→Prop}{dr:Bool}{x:aP}{K:ab→Prop}{ts:List (Nat×I)}{os:List (Nat×ah)}(hK:∀ B,U c x Q B→K B)(h:U c x Q (au (gL aC ts) os)):a7 P Y dr K (.done (au ts os)) :=
 .done (hK _ (U.fB aC h))
theorem cB.aO(aC:List Nat){P:Program}{hs:List FuncId}{x:aP}{K:ab→Prop}{ts:List (Nat×I)}{os:List (Nat×ah)}(hK:∀ B,U c x Q B→K B)(h:U c x Q (au (gL aC ts) os)):cB P hs K (.done (au ts os)) :=
 .done (hK _ (U.fB aC h))
end
end Go.Abs
namespace Go.Proofs.YtcldiigclhgafaaGreat
open Go Go.Abs Go.Abs.C
def CK:=[o 6 (.mv bn)]
def CL:=[m 7 1,m 8 0,o 9 (.bin .leq (.t 7) (.t 8)),m 10 9,dh 11 0 10,dh 12 2 10,bW 13 (.bin .leq (.t 11) (.t 12)) 10,and 14 10 13,m 6 14]
def zo:aP:=(s (r CK) (s (r CL) .ret))
def J9:List aZ:=[.tmp 6]
theorem Rp:bF Tryz.prog Tryz.f114 zo:=e (by kernel_rfl)
theorem Tm:bG Tryz.prog Tryz.f114 J9:=e (by kernel_rfl)
theorem PG:bE Tryz.prog 114:=e (by kernel_rfl)
def CM:=[b 1 0,o 2 (.mv bn)]
def CN:=[f 3 0 0 1,l 4 3,o 5 (.call 114 [.t 4,(ai 0),(ai 5)]),m 6 5,dK 7 1 1 1 6,ez 8 7 6,bW 9 (.call 114 [.t 8,(ai 0),(ai 9999)]) 6,and 10 6 9,m 2 10]
def zp:aP:=(s (r CM) (s (r CN) .ret))
def Ka:List aZ:=[.tmp 2]
theorem Rq:bF Tryz.prog Tryz.f115 zp:=e (by kernel_rfl)
theorem Tn:bG Tryz.prog Tryz.f115 Ka:=e (by kernel_rfl)
theorem PH:bE Tryz.prog 115:=e (by kernel_rfl)
def CO:=[b 1 0,o 2 (.mv bn)]
def CP:=[f 5 0 0 1,aC 6 2 5,f 7 1 2 1,l 8 7,f 9 2 3 1,l 10 9,f 11 3 4 1,l 12 11,f 13 4 5 1,l 14 13,o 15 (.bld [.agg [.int .i64 0,.int .i64 0],.int .i64 0,.int .i64 0,.int .i64 0,.int .i64 0,.int .i64 0,.int .i64 0,.int .i64 0,.agg [.int .i64 0,.int .i64 0,.int .i64 0,.int .i64 0,.int .i64 0,.int .i64 0],.agg [.int .i64 0,.int .i64 0]] [(0,(.t 6)),(1,(.t 8)),(2,(.t 10)),(3,(.t 12)),(4,(.t 14))]),o 3 (.alloc (.agg [.agg [.int .i64 0,.int .i64 0],.int .i64 0,.int .i64 0,.int .i64 0,.int .i64 0,.int .i64 0,.int .i64 0,.int .i64 0,.agg [.int .i64 0,.int .i64 0,.int .i64 0,.int .i64 0,.int .i64 0,.int .i64 0],.agg [.int .i64 0,.int .i64 0]])),p (.br (some 17) (.t 3) (.t 15))]
def CQ:=[f 16 4 5 1,l 17 16,o 18 (.call 154 [.t 17]),m 4 18]
def Xl:=[f 19 1 2 1,l 20 19]
def Xm:=[o 22 (.bin .eql (.t 20) (ai 0)),m 21 22]
def u4:=[f 23 9 15 1,aC 24 2 23,f 25 4 5 3,p (.br none (.t 25) (ai 0)),f 26 9 15 3,p (.br (some 2) (.t 26) (.t 24))]
def U5:=some [[],[0],[],[2],[0,1,2,3],[4,1,3,0,1,2,3]] -- DRAW BAD
def Xn:=[f 27 2 3 1,l 28 27,o 29 (.bin .eql (.t 28) (ai 0)),m 30 29,dK 31 9 15 1 30,bW 32 (.ld (some 2) (.t 31)) 30,bW 33 (.call 115 [.t 32]) 30,and 34 30 33,m 35 34,dK 36 9 15 1 35,dK 37 0 0 36 35,ez 38 37 35,dK 39 0 0 1 35,dK 40 0 0 39 35,ez 41 40 35,bW 42 (.bin .eql (.t 38) (.t 41)) 35,and 43 35 42,m 44 43,dK 45 9 15 1 44,dK 46 1 1 45 44,ez 47 46 44,dK 48 0 0 1 44,dK 49 1 1 48 44,ez 50 49 44,bW 51 (.bin .lss (.t 47) (.t 50)) 44,and 52 44 51,m 4 52]
def Xo:=[o 54 (.bin .eql (.t 20) (ai 1)),m 53 54]
def u5:=[f 55 6 7 1,l 56 55,f 57 7 8 1,l 58 57,f 59 5 6 1,l 60 59,f 61 6 7 3,p (.br none (.t 61) (.t 56)),f 62 7 8 3,p (.br none (.t 62) (.t 58)),f 63 5 6 3,p (.br none (.t 63) (.t 60))]
def U6:=some [[],[0],[],[2],[],[4],[0,1],[6,1,0,1],[0,1,2,3,6,7],[8,3,7,0,1,2,3,6,7],[0,1,2,3,4,5,6,7,8,9],[10,5,9,0,1,2,3,4,5,6,7,8,9]] -- DRAW BAD
def Xp:=[m 64 4,m 65 64,dK 66 6 7 1 65,ez 67 66 65,bW 68 (.call 155 [.t 67]) 65,and 69 65 68,m 70 69,dK 71 7 8 1 70,ez 72 71 70,bW 73 (.call 156 [.t 72]) 70,and 74 70 73,m 75 74,dK 76 5 6 1 75,ez 77 76 75,bW 78 (.call 114 [.t 77,(ai 0),(ai 9999)]) 75,and 79 75 78,m 80 79,dK 81 5 6 1 80,ez 82 81 80,dK 83 4 5 1 80,ez 84 83 80,bW 85 (.bin .neq (.t 82) (.t 84)) 80,and 86 80 85,m 4 86]
def W8:=[o 88 (.bin .eql (.t 20) (ai 2)),m 87 88]
def W9:=[f 89 6 7 1,l 90 89,f 91 6 7 3,p (.br none (.t 91) (.t 90))]
def Xa:=[m 92 4,m 93 92,dK 94 6 7 1 93,ez 95 94 93,bW 96 (.call 155 [.t 95]) 93,and 97 93 96,m 4 97]
def Xb:=[o 99 (.bin .eql (.t 20) (ai 3)),m 98 99]
def Xc:=[o 100 (.bin .eql (.t 20) (ai 5)),m 98 100]
def Xd:=[f 101 7 8 1,l 102 101,f 103 7 8 3,p (.br none (.t 103) (.t 102))]
def Xe:=[m 104 4,m 105 104,dK 106 7 8 1 105,ez 107 106 105,bW 108 (.call 156 [.t 107]) 105,and 109 105 108,m 4 109]
def Xf:=[o 111 (.bin .eql (.t 20) (ai 4)),m 110 111]
def Xg:=[f 112 8 9 1,aC 113 6 112,f 114 8 9 3,p (.br (some 6) (.t 114) (.t 113))]
def Xh:=[m 115 4,m 116 115,dK 117 8 9 1 116,bW 118 (.ld (some 6) (.t 117)) 116,bW 119 (.call 157 [.t 118]) 116,bW 120 (.bin .eql (.t 119) (ai 0)) 116,and 121 116 120,m 4 121]
def Xi:=[o 123 (.bin .eql (.t 20) (ai 6)),m 122 123]
def Xj:=[o 2 (.mv bn)]
def Xk:=[m 124 4,m 125 124,bW 126 (.ld (some 17) (.t 1)) 125,bW 127 (.ld (some 17) (.t 3)) 125,bW 128 (.eqv (.br [(.br [(.i .i64),(.i .i64)]),(.i .i64),(.i .i64),(.i .i64),(.i .i64),(.i .i64),(.i .i64),(.i .i64),(.ke 6 (.i .i64)),(.br [(.i .i64),(.i .i64)])]) false (.t 126) (.t 127)) 125,and 129 125 128,m 130 129,dK 131 0 0 1 130,bW 132 (.ld (some 2) (.t 131)) 130,bW 133 (.call 115 [.t 132]) 130,and 134 130 133,m 135 134,dK 136 2 3 1 135,ez 137 136 135,bW 138 (.call 127 [.t 137]) 135,and 139 135 138,m 140 139,dK 141 3 4 1 140,ez 142 141 140,bW 143 (.call 127 [.t 142]) 140,and 144 140 143,m 2 144]
def zq:aP:=(s (r CO) (s (r CP) (s (r CQ) (s (s (r Xl) (.block 0 (s (r Xm) (.cond (.t 21) (s (.ca U5 u4) (r Xn)) (s (r Xo) (.cond (.t 53) (s (.ca U6 u5) (r Xp)) (s (r W8) (.cond (.t 87) (s (r W9) (r Xa)) (s (s (r Xb) (.cond (.t 98) .skip (r Xc))) (.cond (.t 98) (s (r Xd) (r Xe)) (s (r Xf) (.cond (.t 110) (s (r Xg) (r Xh)) (s (r Xi) (.cond (.t 122) .skip (s (r Xj) .ret))))))))))))))) (s (r Xk) .ret)))))
def Kb:List aZ:=[.tmp 2]
theorem Rr:bF Tryz.prog Tryz.f117 zq:=e (by kernel_rfl)
theorem Tp:bG Tryz.prog Tryz.f117 Kb:=e (by kernel_rfl)
theorem PI:bE Tryz.prog 117:=e (by kernel_rfl)
def CR:=[b 2 0,b 3 1,bh 4 0]
def CS:=[f 5 0 0 2,l 6 5,f 7 0 0 3,l 8 7,o 9 (.call 159 [.t 6,.t 8]),f 10 1 1 2,l 11 10,f 12 1 1 3,l 13 12,o 14 (.call 159 [.t 11,.t 13]),o 15 (.bs 1 [.t 9,.t 14]),o 16 (.call 158 [.t 15]),m 4 16]
def U7:=some [[],[0],[],[2],[1,3],[],[5],[],[7],[6,8,4],[4,9],[10,9],[11,11,0,1,2,3,4,5,6,7,8,9,10,11]]
def zr:aP:=(s (r CR) (s (.ca U7 CS) .ret))
def Kc:List aZ:=[.tmp 4]
theorem Rs:bF Tryz.prog Tryz.f118 zr:=e (by kernel_rfl)
theorem Tq:bG Tryz.prog Tryz.f118 Kc:=e (by kernel_rfl)
theorem PJ:bE Tryz.prog 118:=e (by kernel_rfl)
def CT:=[b 1 0,o 2 (.mv bn)]
def CU:=[aC 6 5 1,bh 7 0]
def CV:=[o 8 (.bin .lss (.t 7) (ai 5))]
def CW:=[m 9 7,o 10 (.ix 5 1 none (.t 6) (.t 7)),m 3 9,m 4 10]
def CX:=[m 11 4,m 5 11]
def CY:=[m 12 5,o 13 (.call 160 [.t 12]),no 14 13,m 15 14,gN 16 5 15,gN 17 3 15,on 18 (.call 161 [.t 16,.t 17]) 15,on 19 (.un .not (.t 18)) 15,or 20 15 19]
def u6:=[o 2 (.mv bn)]
def CZ:=[ad 21 7 1,m 7 21]
def C0:=[o 2 (.mv T)]
def zt:aP:=(s (r CT) (s (s (r CU) (.block 0 (.loop (s (r CV) (s (.cond (.t 8) .skip (.exit 0)) (s (.block 1 (s (r CW) (s (r CX) (s (r CY) (.cond (.t 20) (s (r u6) .ret) .skip))))) (r CZ))))))) (s (r C0) .ret)))
def Kd:List aZ:=[.tmp 2]
theorem Rt:bF Tryz.prog Tryz.f120 zt:=e (by kernel_rfl)
theorem Tr:bG Tryz.prog Tryz.f120 Kd:=e (by kernel_rfl)
theorem PK:bE Tryz.prog 120:=e (by kernel_rfl)
def C1:=[o 6 (.mv bn)]
def C2:=[m 7 1,m 8 0,o 9 (.bin .leq (.t 7) (.t 8)),m 10 9,dh 11 0 10,dh 12 2 10,bW 13 (.bin .leq (.t 11) (.t 12)) 10,and 14 10 13,m 6 14]
def zu:aP:=(s (r C1) (s (r C2) .ret))
def Ke:List aZ:=[.tmp 6]
theorem Ru:bF Tryz.prog Tryz.f121 zu:=e (by kernel_rfl)
theorem Ts:bG Tryz.prog Tryz.f121 Ke:=e (by kernel_rfl)
theorem PL:bE Tryz.prog 121:=e (by kernel_rfl)
def C3:=[o 2 (.mv bn)]
def C4:=[m 3 0,o 4 (.call 121 [.t 3,(ai 1),(ai 99)]),m 2 4]
def zw:aP:=(s (r C3) (s (r C4) .ret))
def Kf:List aZ:=[.tmp 2]
theorem Rv:bF Tryz.prog Tryz.f122 zw:=e (by kernel_rfl)
theorem Tt:bG Tryz.prog Tryz.f122 Kf:=e (by kernel_rfl)
theorem PM:bE Tryz.prog 122:=e (by kernel_rfl)
def C5:=[b 1 0,o 2 (.mv bn)]
def C6:=[o 3 (.va 6 1 (.t 1)),o 4 (.call 125 [.t 3,(.c (.func 162 []))]),no 5 4,m 2 5]
def zx:aP:=(s (r C5) (s (r C6) .ret))
def Kg:List aZ:=[.tmp 2]
theorem Rw:bF Tryz.prog Tryz.f123 zx:=e (by kernel_rfl)
theorem Tu:bG Tryz.prog Tryz.f123 Kg:=e (by kernel_rfl)
theorem PN:bE Tryz.prog 123:=e (by kernel_rfl)
def C7:=[b 3 0,b 5 2,o 6 (.mv bn)]
def C8:=[m 7 1,o 8 (.mk 164 [.t 3,.t 5]),o 9 (.call 163 [.t 7,.t 8]),no 10 9,m 6 10]
def zy:aP:=(s (r C7) (s (r C8) .ret))
def Kh:List aZ:=[.tmp 6]
theorem Rx:bF Tryz.prog Tryz.f124 zy:=e (by kernel_rfl)
theorem Tv:bG Tryz.prog Tryz.f124 Kh:=e (by kernel_rfl)
theorem PO:bE Tryz.prog 124:=e (by kernel_rfl)
def C9:=[o 4 (.mv bn)]
def Da:=[m 5 0,m 6 1,o 7 (.call 166 [.t 5,.t 6]),o 8 (.bin .geq (.t 7) (ai 0)),m 4 8]
def zA:aP:=(s (r C9) (s (r Da) .ret))
def Ki:List aZ:=[.tmp 4]
theorem Ry:bF Tryz.prog Tryz.f125 zA:=e (by kernel_rfl)
theorem Tw:bG Tryz.prog Tryz.f125 Ki:=e (by kernel_rfl)
theorem PQ:bE Tryz.prog 125:=e (by kernel_rfl)
def Xq:=[o 2 (.mv bn)]
def Xr:=[m 3 0,o 4 (.call 127 [.t 3]),no 5 4,m 2 5]
def zB:aP:=(s (r Xq) (s (r Xr) .ret))
def Kj:List aZ:=[.tmp 2]
theorem Rz:bF Tryz.prog Tryz.f126 zB:=e (by kernel_rfl)
theorem Tx:bG Tryz.prog Tryz.f126 Kj:=e (by kernel_rfl)
theorem PR:bE Tryz.prog 126:=e (by kernel_rfl)
def Db:=[o 2 (.mv bn)]
def Dc:=[m 3 0,o 4 (.call 114 [.t 3,(ai 0),(ai 100000)]),m 2 4]
def zC:aP:=(s (r Db) (s (r Dc) .ret))
def Kk:List aZ:=[.tmp 2]
theorem RA:bF Tryz.prog Tryz.f127 zC:=e (by kernel_rfl)
theorem Ty:bG Tryz.prog Tryz.f127 Kk:=e (by kernel_rfl)
theorem PS:bE Tryz.prog 127:=e (by kernel_rfl)
def Dd:=[b 2 0,o 4 (.mv (.c (.nils 1))),bh 5 0]
def De:=[aC 11 7 2,o 12 (.call 66 [.t 11]),m 6 12]
def ve:=[m 13 6,o 14 (.bin .neq (.t 13) (ai 0))]
def Df:=[m 15 6,o 4 (.mv (.c (.nils 1))),m 5 15]
def Dg:=[m 16 1,o 17 (.len (.t 16)),o 18 (.bin .gtr (.t 17) (ai 60))]
def Di:=[o 4 (.mv (.c (.nils 1))),bh 5 2]
def Dj:=[f 19 2 6 2,l 20 19,o 21 (.call 167 [.t 20]),m 7 21]
def vf:=[m 22 1,o 23 (.len (.t 22)),bh 24 0]
def vg:=[lt 25 24 23]
def vh:=[o 26 (.is 6 (.t 22) (.t 24)),aC 27 6 26,o 9 (.alloc (.agg [.int .i64 0,.int .i64 0,.int .i64 0,.int .i64 0,.int .i64 0,.int .i64 0])),p (.br (some 6) (.t 9) (.t 27))]
def u7:=[aC 28 6 9,o 29 (.call 157 [.t 28]),m 10 29]
def r5:=[m 30 10,o 31 (.bin .neq (.t 30) (ai 0))]
def u9:=[m 32 10,o 4 (.mv (.c (.nils 1))),m 5 32]
def vb:=[f 33 0 0 2,aC 34 5 33,f 35 1 5 2,l 36 35,m 37 7,o 38 (.bld [.agg [.int .i64 0,.int .i64 0,.int .i64 0,.int .i64 0,.int .i64 0],.int .i64 0,.nils 7] [(0,(.t 34)),(1,(.t 36)),(2,(.t 37))]),aC 39 6 9,o 40 (.call 168 [.t 38,.t 39]),m 7 40]
def r6:=[ad 41 24 1,m 24 41]
def vc:=[m 42 7,o 43 (.call 169 [.t 42]),m 4 43,bh 5 0]
def zD:aP:=(s (r Dd) (s (s (r De) (s (r ve) (.cond (.t 14) (s (r Df) .ret) .skip))) (s (s (r Dg) (.cond (.t 18) (s (r Di) .ret) .skip)) (s (r Dj) (s (s (r vf) (.block 0 (.loop (s (r vg) (s (.cond (.t 25) .skip (.exit 0)) (s (.block 1 (s (r vh) (s (s (r u7) (s (r r5) (.cond (.t 31) (s (r u9) .ret) .skip))) (r vb)))) (r r6))))))) (s (r vc) .ret))))))
def Kl:List aZ:=[.tmp 4,.tmp 5]
theorem RB:bF Tryz.prog Tryz.f128 zD:=e (by kernel_rfl)
theorem Tz:bG Tryz.prog Tryz.f128 Kl:=e (by kernel_rfl)
theorem PT:bE Tryz.prog 128:=e (by kernel_rfl)
def Dk:=[b 3 0,b 4 1,b 5 2,bh 6 0]
def Dl:=[bh 7 0]
def Dm:=[bh 8 0]
def Dn:=[m 9 8,o 10 (.bin .lss (.t 9) (ai 6))]
def Dp:=[m 13 8,o 14 (.ia 6 1 (.t 4) (.t 13)),l 15 14,o 16 (.ia 5 1 (.t 3) (.t 15)),l 17 16,m 18 8,o 19 (.ia 6 1 (.t 5) (.t 18)),l 20 19,o 21 (.ia 5 1 (.t 3) (.t 20)),l 22 21,o 23 (.bin .and (.t 17) (.t 22)),o 24 (.bin .eql (.t 23) (ai 0))]
def U8:=some [[],[0],[1],[2],[3],[],[5],[6],[7],[8],[4,9],[10]]
def Dq:=[m 25 7,ad 26 25 1,m 7 26]
def vi:=[m 11 8,ad 12 11 1,m 8 12]
def Dr:=[m 27 7,m 6 27]
def zE:aP:=(s (r Dk) (s (r Dl) (s (s (r Dm) (.block 0 (.loop (s (s (r Dn) (.cond (.t 10) .skip (.exit 0))) (s (.block 1 (s (.ca U8 Dp) (.cond (.t 24) (r Dq) .skip))) (r vi)))))) (s (r Dr) .ret))))
def Km:List aZ:=[.tmp 6]
theorem RC:bF Tryz.prog Tryz.f129 zE:=e (by kernel_rfl)
theorem TA:bG Tryz.prog Tryz.f129 Km:=e (by kernel_rfl)
theorem PU:bE Tryz.prog 129:=e (by kernel_rfl)
def Xs:=[bh 4 0]
def Xt:=[m 6 0,o 7 (.len (.t 6)),bh 8 0]
def Xu:=[lt 9 8 7]
def Xv:=[m 10 8,m 5 10]
def Xw:=[m 11 1,m 12 0,m 13 5,o 14 (.is 1 (.t 12) (.t 13)),l 15 14,o 16 (.bin .eql (.t 11) (.t 15))]
def Xx:=[m 17 5,m 4 17]
def Xy:=[ad 18 8 1,m 8 18]
def Xz:=[bh 4 (-1)]
def zF:aP:=(s (r Xs) (s (s (r Xt) (.block 0 (.loop (s (r Xu) (s (.cond (.t 9) .skip (.exit 0)) (s (.block 1 (s (r Xv) (s (r Xw) (.cond (.t 16) (s (r Xx) .ret) .skip)))) (r Xy))))))) (s (r Xz) .ret)))
def Kn:List aZ:=[.tmp 4]
theorem RD:bF Tryz.prog Tryz.f131 zF:=e (by kernel_rfl)
theorem TB:bG Tryz.prog Tryz.f131 Kn:=e (by kernel_rfl)
theorem PV:bE Tryz.prog 131:=e (by kernel_rfl)
def XA:=[o 2 (.alloc (.agg [.int .i64 0,.int .i64 0,.int .i64 0,.int .i64 0,.int .i64 0,.int .i64 0,.int .i64 0,.int .i64 0]))]
def XB:=[bh 3 0]
def XC:=[m 4 0,o 5 (.nilC (.t 4)),f 6 0 0 5,f 7 7 7 6,l 8 7]
def XD:=[bh 3 1]
def XE:=[m 9 0,o 10 (.nilC (.t 9)),f 11 0 0 10,f 12 0 0 11,l 13 12,m 14 0,o 15 (.nilC (.t 14)),f 16 0 0 15,f 17 1 1 16,l 18 17,m 19 0,o 20 (.nilC (.t 19)),f 21 0 0 20,f 22 2 2 21,l 23 22,m 24 0,o 25 (.nilC (.t 24)),f 26 0 0 25,f 27 3 3 26,l 28 27,m 29 0,o 30 (.nilC (.t 29)),f 31 0 0 30,f 32 4 4 31,l 33 32,m 34 0,o 35 (.nilC (.t 34)),f 36 0 0 35,f 37 5 5 36,l 38 37,m 39 0,o 40 (.nilC (.t 39)),f 41 0 0 40,f 42 6 6 41,l 43 42,m 44 3,o 45 (.bld [.int .i64 0,.int .i64 0,.int .i64 0,.int .i64 0,.int .i64 0,.int .i64 0,.int .i64 0,.int .i64 0] [(0,(.t 13)),(1,(.t 18)),(2,(.t 23)),(3,(.t 28)),(4,(.t 33)),(5,(.t 38)),(6,(.t 43)),(7,(.t 44))]),p (.br (some 8) (.t 2) (.t 45))]
def U9:=some [[],[0],[1],[2],[3],[],[5],[6],[7],[8],[],[10],[11],[12],[13],[],[15],[16],[17],[18],[],[20],[21],[22],[23],[],[25],[26],[27],[28],[],[30],[31],[32],[33],[],[4,9,14,19,24,29,34,35],[36,0,1,2,3,4,5,6,7,8,9,10,11,12,13,14,15,16,17,18,19,20,21,22,23,24,25,26,27,28,29,30,31,32,33,34,35,36]]
def zG:aP:=(s (r XA) (s (r XB) (s (s (r XC) (.cond (.t 8) (r XD) .skip)) (s (.ca U9 XE) .ret))))
def Ko:List aZ:=[.cell 2 (some 8)]
theorem RE:bF Tryz.prog Tryz.f133 zG:=e (by kernel_rfl)
theorem TC:bG Tryz.prog Tryz.f133 Ko:=e (by kernel_rfl)
theorem PW:bE Tryz.prog 133:=e (by kernel_rfl)
def XF:=[o 4 (.mv bn)]
def XG:=[m 6 0,o 7 (.len (.t 6)),m 8 1,o 9 (.len (.t 8)),o 10 (.bin .neq (.t 7) (.t 9))]
def XH:=[o 4 (.mv bn)]
def XI:=[m 11 0,o 12 (.len (.t 11)),bh 13 0]
def XJ:=[lt 14 13 12]
def XK:=[m 15 13,m 5 15]
def XL:=[m 16 0,m 17 5,o 18 (.is 1 (.t 16) (.t 17)),l 19 18,m 20 1,m 21 5,o 22 (.is 1 (.t 20) (.t 21)),l 23 22,o 24 (.bin .neq (.t 19) (.t 23))]
def Va:=some [[],[],[0,1],[2],[],[],[4,5],[6],[3,7]]
def XM:=[o 4 (.mv bn)]
def XN:=[ad 25 13 1,m 13 25]
def XO:=[o 4 (.mv T)]
def zH:aP:=(s (r XF) (s (s (r XG) (.cond (.t 10) (s (r XH) .ret) .skip)) (s (s (r XI) (.block 0 (.loop (s (r XJ) (s (.cond (.t 14) .skip (.exit 0)) (s (.block 1 (s (r XK) (s (.ca Va XL) (.cond (.t 24) (s (r XM) .ret) .skip)))) (r XN))))))) (s (r XO) .ret))))
def Kp:List aZ:=[.tmp 4]
theorem RF:bF Tryz.prog Tryz.f134 zH:=e (by kernel_rfl)
theorem TD:bG Tryz.prog Tryz.f134 Kp:=e (by kernel_rfl)
theorem PX:bE Tryz.prog 134:=e (by kernel_rfl)
def Ds:=[o 6 (.mv (.c (.nils 17)))]
def Dt:=[m 8 0,m 9 1,m 10 2,m 11 0,o 12 (.len (.t 11)),o 13 (.sl 17 (.t 8) (some (.t 9)) (some (.t 10)) (some (.t 12)))]
def Du:=[m 14 1,m 15 2,o 16 (.bin .eql (.t 14) (.t 15))]
def XP:=[m 17 0,m 6 17]
def Dv:=[m 18 0,o 19 (.len (.t 18)),m 7 19]
def vj:=[m 20 0,m 21 1,o 22 (.sl 17 (.t 20) none (some (.t 21)) none),m 23 0,m 24 2,o 25 (.sl 17 (.t 23) (some (.t 24)) none none),o 26 (.dF 68 17 136 (.agg [.agg [.int .i64 0,.int .i64 0],.int .i64 0,.int .i64 0,.int .i64 0,.int .i64 0,.int .i64 0,.int .i64 0,.int .i64 0,.agg [.int .i64 0,.int .i64 0,.int .i64 0,.int .i64 0,.int .i64 0,.int .i64 0],.agg [.int .i64 0,.int .i64 0]]) (.t 22) (.t 25)),m 0 26]
def Vb:=some [[],[],[0,1],[],[],[3,4],[2,5],[6,6,0,1,2,3,4,5,6]]
def vk:=[m 27 0,m 28 0,o 29 (.len (.t 28)),m 30 7,o 31 (.sl 17 (.t 27) (some (.t 29)) (some (.t 30)) none),p (.iY 17 (.agg [.agg [.int .i64 0,.int .i64 0],.int .i64 0,.int .i64 0,.int .i64 0,.int .i64 0,.int .i64 0,.int .i64 0,.int .i64 0,.agg [.int .i64 0,.int .i64 0,.int .i64 0,.int .i64 0,.int .i64 0,.int .i64 0],.agg [.int .i64 0,.int .i64 0]]) (.t 31))]
def vl:=[m 32 0,m 6 32]
def zI:aP:=(s (r Ds) (s (r Dt) (s (s (r Du) (.cond (.t 16) (s (r XP) .ret) .skip)) (s (r Dv) (s (.ca Vb vj) (s (r vk) (s (r vl) .ret)))))))
def Kq:List aZ:=[.tmp 6]
theorem RG:bF Tryz.prog Tryz.f135 zI:=e (by kernel_rfl)
theorem TE:bG Tryz.prog Tryz.f135 Kq:=e (by kernel_rfl)
theorem PY:bE Tryz.prog 135:=e (by kernel_rfl)
def Dw:=[o 2 (.mv (.c (.nils 17)))]
def vm:=[m 3 0,o 4 (.nilS false (.t 3))]
def Dy:=[o 2 (.mv (.c (.nils 17)))]
def vn:=[o 5 (.bs0 17),m 6 0,o 7 (.dF 68 17 136 (.agg [.agg [.int .i64 0,.int .i64 0],.int .i64 0,.int .i64 0,.int .i64 0,.int .i64 0,.int .i64 0,.int .i64 0,.int .i64 0,.agg [.int .i64 0,.int .i64 0,.int .i64 0,.int .i64 0,.int .i64 0,.int .i64 0],.agg [.int .i64 0,.int .i64 0]]) (.t 5) (.t 6)),m 2 7]
def zJ:aP:=(s (r Dw) (s (s (r vm) (.cond (.t 4) (s (r Dy) .ret) .skip)) (s (r vn) .ret)))
def Kr:List aZ:=[.tmp 2]
theorem RH:bF Tryz.prog Tryz.f136 zJ:=e (by kernel_rfl)
theorem TF:bG Tryz.prog Tryz.f136 Kr:=e (by kernel_rfl)
theorem PZ:bE Tryz.prog 136:=e (by kernel_rfl)
def Dz:=[m 4 0,m 5 0,o 6 (.len (.t 5)),m 7 1,o 8 (.call 171 [.t 4,.t 6,.t 7])]
def ui:aP:=(r Dz)
def xC:List aZ:=[]
theorem Bl:bF Tryz.prog Tryz.f137 ui:=e (by kernel_rfl)
theorem By:bG Tryz.prog Tryz.f137 xC:=e (by kernel_rfl)
theorem Bc:bE Tryz.prog 137:=e (by kernel_rfl)
def XQ:=[bh 5 0]
def XR:=[l 6 2,m 7 0,o 8 (.is 17 (.t 6) (.t 7)),f 9 2 3 8,l 10 9,l 11 2,m 12 1,o 13 (.is 17 (.t 11) (.t 12)),f 14 2 3 13,l 15 14,o 16 (.bin .sub (.t 10) (.t 15)),m 5 16]
def Vc:=some [[],[],[0,1],[2],[3],[],[],[5,6],[7],[8],[4,9],[10,0,1,2,3,4,5,6,7,8,9,10]]
def zK:aP:=(s (r XQ) (s (.ca Vc XR) .ret))
def Ks:List aZ:=[.tmp 5]
theorem RI:bF Tryz.prog Tryz.f138 zK:=e (by kernel_rfl)
theorem TG:bG Tryz.prog Tryz.f138 Ks:=e (by kernel_rfl)
theorem P0:bE Tryz.prog 138:=e (by kernel_rfl)
def DA:=[o 0 (.mv (.c (.raw (.map none))))]
def DB:=[o 1 (.jB),p (.gp (.i .i64) (.t 1) (ai 1) (.c (.func 172 []))),p (.gp (.i .i64) (.t 1) (ai 2) (.c (.func 173 []))),p (.gp (.i .i64) (.t 1) (ai 3) (.c (.func 174 []))),p (.gp (.i .i64) (.t 1) (ai 4) (.c (.func 175 []))),p (.gp (.i .i64) (.t 1) (ai 5) (.c (.func 176 []))),p (.gp (.i .i64) (.t 1) (ai 6) (.c (.func 177 []))),m 2 1,m 0 2]
def zL:aP:=(s (r DA) (s (r DB) .ret))
def Kt:List aZ:=[.tmp 0]
theorem RJ:bF Tryz.prog Tryz.f139 zL:=e (by kernel_rfl)
theorem TH:bG Tryz.prog Tryz.f139 Kt:=e (by kernel_rfl)
theorem P1:bE Tryz.prog 139:=e (by kernel_rfl)
def DC:=[o 2 (.mv (.c (.nils 1)))]
def DE:=[o 3 (.mv (.c (.nils 1)))]
def DF:=[bh 4 0]
def DG:=[m 5 4,o 6 (.bin .lss (.t 5) (ai 5))]
def DH:=[m 9 0,m 10 4,o 11 (.bin .shl (ai 1) (.t 10)),o 12 (.bin .and (.t 9) (.t 11)),o 13 (.bin .neq (.t 12) (ai 0))]
def DI:=[m 14 3,m 15 4,o 16 (.bs 1 [.t 15]),o 17 (.dF 3 1 8 (.int .i64 0) (.t 14) (.t 16)),m 3 17]
def vp:=[m 7 4,ad 8 7 1,m 4 8]
def DJ:=[m 18 3,m 2 18]
def zN:aP:=(s (r DC) (s (r DE) (s (s (r DF) (.block 0 (.loop (s (s (r DG) (.cond (.t 6) .skip (.exit 0))) (s (.block 1 (s (r DH) (.cond (.t 13) (r DI) .skip))) (r vp)))))) (s (r DJ) .ret))))
def Kv:List aZ:=[.tmp 2]
theorem RL:bF Tryz.prog Tryz.f141 zN:=e (by kernel_rfl)
theorem TJ:bG Tryz.prog Tryz.f141 Kv:=e (by kernel_rfl)
theorem P3:bE Tryz.prog 141:=e (by kernel_rfl)
def XS:=[b 1 0,o 2 (.mv (.c (.da)))]
def XT:=[o 3 (.mk 178 [.t 1]),m 2 3]
def zO:aP:=(s (r XS) (s (r XT) .ret))
def Kx:List aZ:=[.tmp 2]
theorem RM:bF Tryz.prog Tryz.f145 zO:=e (by kernel_rfl)
theorem TK:bG Tryz.prog Tryz.f145 Kx:=e (by kernel_rfl)
theorem P4:bE Tryz.prog 145:=e (by kernel_rfl)
def DK:=[l 5 1,o 6 (.len (.t 5)),bh 7 0]
def DL:=[lt 8 7 6]
def DM:=[m 9 7,m 4 9]
def vq:=[l 10 2,m 11 4,o 12 (.is 1 (.t 10) (.t 11)),l 13 12,m 14 13,dh 15 0 14,dh 16 4 14,bW 17 (.eG (.t 15) [.t 16]) 14,bW 18 (.un .not (.t 17)) 14,and 19 14 18]
def vr:=[ad 20 7 1,m 7 20]
def zP:aP:=(s (r DK) (.block 0 (.loop (s (r DL) (s (.cond (.t 8) .skip (.exit 0)) (s (.block 1 (s (r DM) (s (r vq) (.cond (.t 19) .ret .skip)))) (r vr)))))))
def Ky:List aZ:=[]
theorem RN:bF Tryz.prog Tryz.f146 zP:=e (by kernel_rfl)
theorem TL:bG Tryz.prog Tryz.f146 Ky:=e (by kernel_rfl)
theorem Bd:bE Tryz.prog 146:=e (by kernel_rfl)
def DN:=[o 2 (.mv bn)]
def DO:=[m 3 0,o 4 (.call 114 [.t 3,(ai 1),(ai 9999)]),m 2 4]
def zQ:aP:=(s (r DN) (s (r DO) .ret))
def Kz:List aZ:=[.tmp 2]
theorem RO:bF Tryz.prog Tryz.f154 zQ:=e (by kernel_rfl)
theorem TM:bG Tryz.prog Tryz.f154 Kz:=e (by kernel_rfl)
theorem P5:bE Tryz.prog 154:=e (by kernel_rfl)
def DP:=[o 2 (.mv bn)]
def DQ:=[m 3 0,o 4 (.call 114 [.t 3,(ai 1),(ai 9)]),m 2 4]
def zR:aP:=(s (r DP) (s (r DQ) .ret))
def KA:List aZ:=[.tmp 2]
theorem RP:bF Tryz.prog Tryz.f155 zR:=e (by kernel_rfl)
theorem TN:bG Tryz.prog Tryz.f155 KA:=e (by kernel_rfl)
theorem P6:bE Tryz.prog 155:=e (by kernel_rfl)
def DR:=[o 2 (.mv bn)]
def DS:=[m 3 0,o 4 (.call 114 [.t 3,(ai 1),(ai 99)]),m 2 4]
def zS:aP:=(s (r DR) (s (r DS) .ret))
def KB:List aZ:=[.tmp 2]
theorem RQ:bF Tryz.prog Tryz.f156 zS:=e (by kernel_rfl)
theorem TO:bG Tryz.prog Tryz.f156 KB:=e (by kernel_rfl)
theorem P7:bE Tryz.prog 156:=e (by kernel_rfl)
def DT:=[b 1 0,bh 2 0]
def DU:=[aC 3 6 1,o 4 (.call 193 [.t 3]),no 5 4]
def DV:=[bh 2 12]
def DW:=[bh 2 0]
def zT:aP:=(s (r DT) (s (s (r DU) (.cond (.t 5) (s (r DV) .ret) .skip)) (s (r DW) .ret)))
def KC:List aZ:=[.tmp 2]
theorem RR:bF Tryz.prog Tryz.f157 zT:=e (by kernel_rfl)
theorem TP:bG Tryz.prog Tryz.f157 KC:=e (by kernel_rfl)
theorem P8:bE Tryz.prog 157:=e (by kernel_rfl)
def DX:=[bh 2 0]
def DY:=[bh 3 0]
def DZ:=[m 6 0,o 7 (.len (.t 6)),bh 8 0]
def D4:=[lt 9 8 7]
def D5:=[o 10 (.is 1 (.t 6) (.t 8)),l 11 10,m 5 11]
def D6:=[m 12 5,m 13 3,o 14 (.bin .neq (.t 12) (.t 13))]
def D7:=[m 15 5,m 2 15]
def D8:=[ad 16 8 1,m 8 16]
def D9:=[m 17 3,m 2 17]
def zU:aP:=(s (r DX) (s (r DY) (s (s (r DZ) (.block 0 (.loop (s (r D4) (s (.cond (.t 9) .skip (.exit 0)) (s (.block 1 (s (r D5) (s (r D6) (.cond (.t 14) (s (r D7) .ret) .skip)))) (r D8))))))) (s (r D9) .ret))))
def KD:List aZ:=[.tmp 2]
theorem RS:bF Tryz.prog Tryz.f158 zU:=e (by kernel_rfl)
theorem TQ:bG Tryz.prog Tryz.f158 KD:=e (by kernel_rfl)
theorem P9:bE Tryz.prog 158:=e (by kernel_rfl)
def Ea:=[bh 4 0]
def Eb:=[m 7 0,o 8 (.call 194 [.t 7]),m 5 8]
def Eg:=[m 9 1,o 10 (.call 194 [.t 9]),m 6 10]
def Ei:=[m 11 5]
def X5:=[m 12 6]
def X6:=[bh 4 0]
def X7:=[bh 4 (-1)]
def Ej:=[m 13 6]
def X8:=[bh 4 1]
def Ek:=[m 14 0,m 15 1,lt 16 14 15]
def Ec:=[bh 4 (-1)]
def Ed:=[m 17 0,m 18 1,o 19 (.bin .gtr (.t 17) (.t 18))]
def Ee:=[bh 4 1]
def Ef:=[bh 4 0]
def zV:aP:=(s (r Ea) (s (r Eb) (s (r Eg) (s (s (r Ei) (.cond (.t 11) (s (s (r X5) (.cond (.t 12) (s (r X6) .ret) .skip)) (s (r X7) .ret)) .skip)) (s (s (r Ej) (.cond (.t 13) (s (r X8) .ret) .skip)) (s (s (r Ek) (.cond (.t 16) (s (r Ec) .ret) .skip)) (s (s (r Ed) (.cond (.t 19) (s (r Ee) .ret) .skip)) (s (r Ef) .ret))))))))
def KE:List aZ:=[.tmp 4]
theorem RT:bF Tryz.prog Tryz.f159 zV:=e (by kernel_rfl)
theorem TR:bG Tryz.prog Tryz.f159 KE:=e (by kernel_rfl)
theorem Qa:bE Tryz.prog 159:=e (by kernel_rfl)
def El:=[o 2 (.mv bn)]
def Em:=[m 3 0,o 4 (.call 121 [.t 3,(ai 0),(ai 31)]),m 2 4]
def zX:aP:=(s (r El) (s (r Em) .ret))
def KG:List aZ:=[.tmp 2]
theorem RV:bF Tryz.prog Tryz.f160 zX:=e (by kernel_rfl)
theorem TT:bG Tryz.prog Tryz.f160 KG:=e (by kernel_rfl)
theorem Qc:bE Tryz.prog 160:=e (by kernel_rfl)
def En:=[o 4 (.mv bn)]
def Eo:=[m 5 0,m 6 1,o 7 (.bin .shr (.t 5) (.t 6)),o 8 (.bin .and (.t 7) (ai 1)),o 9 (.bin .eql (.t 8) (ai 1)),m 4 9]
def zY:aP:=(s (r En) (s (r Eo) .ret))
def KH:List aZ:=[.tmp 4]
theorem RW:bF Tryz.prog Tryz.f161 zY:=e (by kernel_rfl)
theorem TU:bG Tryz.prog Tryz.f161 KH:=e (by kernel_rfl)
theorem Qd:bE Tryz.prog 161:=e (by kernel_rfl)
def Ep:=[o 2 (.mv bn)]
def Er:=[m 3 0,o 4 (.call 121 [.t 3,(ai 0),(ai 4)]),no 5 4,m 2 5]
def zZ:aP:=(s (r Ep) (s (r Er) .ret))
def KI:List aZ:=[.tmp 2]
theorem RX:bF Tryz.prog Tryz.f162 zZ:=e (by kernel_rfl)
theorem TV:bG Tryz.prog Tryz.f162 KI:=e (by kernel_rfl)
theorem Qe:bE Tryz.prog 162:=e (by kernel_rfl)
def Es:=[o 4 (.mv bn)]
def Et:=[m 5 0,m 6 1,o 7 (.call 195 [.t 5,.t 6]),o 8 (.bin .geq (.t 7) (ai 0)),m 4 8]
def z1:aP:=(s (r Es) (s (r Et) .ret))
def KJ:List aZ:=[.tmp 4]
theorem RY:bF Tryz.prog Tryz.f163 z1:=e (by kernel_rfl)
theorem TW:bG Tryz.prog Tryz.f163 KJ:=e (by kernel_rfl)
theorem Qf:bE Tryz.prog 163:=e (by kernel_rfl)
def Eu:=[b 3 0,o 4 (.mv bn)]
def Ev:=[f 5 0 0 1,aC 6 5 5,f 7 1 1 3,aC 8 6 7,aC 9 6 2,o 10 (.call 165 [.t 6,.t 8,.t 9]),f 11 1 5 1,l 12 11,o 13 (.bin .mul (ai 2) (.t 12)),o 14 (.bin .leq (.t 10) (.t 13)),m 4 14]
def Vd:=some [[],[0],[],[2],[],[1,3,4],[],[6],[7],[5,8],[9,5,0,1,2,3,4,5,6,7,8,9]]
def z6:aP:=(s (r Eu) (s (.ca Vd Ev) .ret))
def KK:List aZ:=[.tmp 4]
theorem RZ:bF Tryz.prog Tryz.f164 z6:=e (by kernel_rfl)
theorem TX:bG Tryz.prog Tryz.f164 KK:=e (by kernel_rfl)
theorem Qg:bE Tryz.prog 164:=e (by kernel_rfl)
def Ew:=[b 3 0,b 4 1,b 5 2,bh 6 0]
def Ey:=[o 7 (.alloc (.da)),p (.br none (.t 7) (.c (.func 196 [])))]
def Ez:=[o 8 (.mk 198 [.t 7,.t 3,.t 4,.t 5]),o 9 (.call 197 [.t 8]),m 6 9]
def z7:aP:=(s (r Ew) (s (r Ey) (s (r Ez) .ret)))
def KL:List aZ:=[.tmp 6]
theorem R0:bF Tryz.prog Tryz.f165 z7:=e (by kernel_rfl)
theorem TY:bG Tryz.prog Tryz.f165 KL:=e (by kernel_rfl)
theorem Qh:bE Tryz.prog 165:=e (by kernel_rfl)
def EA:=[bh 4 0]
def EB:=[m 6 0,o 7 (.len (.t 6)),bh 8 0]
def EC:=[lt 9 8 7]
def ED:=[m 10 8,m 5 10]
def EE:=[m 11 1,m 12 0,m 13 5,o 14 (.is 1 (.t 12) (.t 13)),l 15 14,o 16 (.eG (.t 11) [.t 15])]
def EF:=[m 17 5,m 4 17]
def EG:=[ad 18 8 1,m 8 18]
def EH:=[bh 4 (-1)]
def z8:aP:=(s (r EA) (s (s (r EB) (.block 0 (.loop (s (r EC) (s (.cond (.t 9) .skip (.exit 0)) (s (.block 1 (s (r ED) (s (r EE) (.cond (.t 16) (s (r EF) .ret) .skip)))) (r EG))))))) (s (r EH) .ret)))
def KM:List aZ:=[.tmp 4]
theorem R1:bF Tryz.prog Tryz.f166 z8:=e (by kernel_rfl)
theorem TZ:bG Tryz.prog Tryz.f166 KM:=e (by kernel_rfl)
theorem Qi:bE Tryz.prog 166:=e (by kernel_rfl)
def EI:=[o 2 (.mv (.c (.nils 7)))]
def vt:=[m 3 0,o 4 (.nilS false (.t 3))]
def EJ:=[o 2 (.mv (.c (.nils 7)))]
def vu:=[o 5 (.bs0 7),m 6 0,o 7 (.dF 63 7 56 (.agg [.int .i64 0,.agg [.int .i64 0,.int .i64 0,.int .i64 0,.int .i64 0,.int .i64 0,.int .i64 0]]) (.t 5) (.t 6)),m 2 7]
def Aa:aP:=(s (r EI) (s (s (r vt) (.cond (.t 4) (s (r EJ) .ret) .skip)) (s (r vu) .ret)))
def KN:List aZ:=[.tmp 2]
theorem R2:bF Tryz.prog Tryz.f167 Aa:=e (by kernel_rfl)
theorem T0:bG Tryz.prog Tryz.f167 KN:=e (by kernel_rfl)
theorem Qj:bE Tryz.prog 167:=e (by kernel_rfl)
def EK:=[b 2 0,b 3 1,o 4 (.mv (.c (.nils 7)))]
def EL:=[f 5 2 6 2,l 6 5,o 7 (.call 167 [.t 6]),o 8 (.mk 201 [.t 2,.t 3]),o 9 (.call 200 [.t 7,.t 8]),m 4 9]
def Ab:aP:=(s (r EK) (s (r EL) .ret))
def KO:List aZ:=[.tmp 4]
theorem R3:bF Tryz.prog Tryz.f168 Ab:=e (by kernel_rfl)
theorem T3:bG Tryz.prog Tryz.f168 KO:=e (by kernel_rfl)
theorem Qk:bE Tryz.prog 168:=e (by kernel_rfl)
def EM:=[o 2 (.mv (.c (.nils 1)))]
def EN:=[o 3 (.mv (.c (.nils 1)))]
def EO:=[m 6 0,o 7 (.len (.t 6)),bh 8 0]
def EP:=[lt 9 8 7]
def ER:=[o 10 (.is 7 (.t 6) (.t 8)),aC 11 7 10,o 5 (.alloc (.agg [.int .i64 0,.agg [.int .i64 0,.int .i64 0,.int .i64 0,.int .i64 0,.int .i64 0,.int .i64 0]])),p (.br (some 7) (.t 5) (.t 11))]
def ES:=[m 12 3,f 13 0 0 5,l 14 13,o 15 (.bs 1 [.t 14]),o 16 (.dF 3 1 8 (.int .i64 0) (.t 12) (.t 15)),m 3 16]
def ET:=[ad 17 8 1,m 8 17]
def EU:=[m 18 3,m 2 18]
def Ac:aP:=(s (r EM) (s (r EN) (s (s (r EO) (.block 0 (.loop (s (r EP) (s (.cond (.t 9) .skip (.exit 0)) (s (.block 1 (s (r ER) (r ES))) (r ET))))))) (s (r EU) .ret))))
def KP:List aZ:=[.tmp 2]
theorem R4:bF Tryz.prog Tryz.f169 Ac:=e (by kernel_rfl)
theorem T4:bG Tryz.prog Tryz.f169 KP:=e (by kernel_rfl)
theorem Ql:bE Tryz.prog 169:=e (by kernel_rfl)
def vv:=[bh 6 20]
def vw:=[m 10 6,bh 7 0,m 8 10]
def EV:=[m 11 8,m 12 1,o 13 (.bin .leq (.t 11) (.t 12))]
def Yo:=[m 14 0,m 15 7,m 16 8,m 17 2,o 18 (.call 203 [.t 14,.t 15,.t 16,.t 17])]
def Yp:=[m 19 8,m 7 19]
def Yq:=[m 20 8,m 21 6,o 22 (.bin .add (.t 20) (.t 21)),m 8 22]
def EW:=[m 23 0,m 24 7,m 25 1,m 26 2,o 27 (.call 203 [.t 23,.t 24,.t 25,.t 26])]
def vx:=[m 28 6,m 29 1,lt 30 28 29]
def EX:=[m 31 6,o 32 (.bin .mul (ai 2) (.t 31)),bh 7 0,m 8 32]
def EY:=[m 33 8,m 34 1,o 35 (.bin .leq (.t 33) (.t 34))]
def Yh:=[m 36 0,m 37 7,m 38 7,m 39 6,o 40 (.bin .add (.t 38) (.t 39)),m 41 8,m 42 2,o 43 (.call 204 [.t 36,.t 37,.t 40,.t 41,.t 42])]
def Yi:=[m 44 8,m 7 44]
def Yj:=[m 45 8,m 46 6,o 47 (.bin .mul (ai 2) (.t 46)),o 48 (.bin .add (.t 45) (.t 47)),m 8 48]
def Yk:=[m 49 7,m 50 6,o 51 (.bin .add (.t 49) (.t 50)),m 9 51]
def Yl:=[m 52 9,m 53 1,lt 54 52 53]
def Ym:=[m 55 0,m 56 7,m 57 9,m 58 1,m 59 2,o 60 (.call 204 [.t 55,.t 56,.t 57,.t 58,.t 59])]
def Yn:=[m 61 6,o 62 (.bin .mul (.t 61) (ai 2)),m 6 62]
def uj:aP:=(s (r vv) (s (r vw) (s (.block 0 (.loop (s (s (r EV) (.cond (.t 13) .skip (.exit 0))) (.block 1 (s (r Yo) (s (r Yp) (r Yq))))))) (s (r EW) (.block 2 (.loop (s (s (r vx) (.cond (.t 30) .skip (.exit 2))) (.block 3 (s (r EX) (s (.block 4 (.loop (s (s (r EY) (.cond (.t 35) .skip (.exit 4))) (.block 5 (s (r Yh) (s (r Yi) (r Yj))))))) (s (s (r Yk) (s (r Yl) (.cond (.t 54) (r Ym) .skip))) (r Yn))))))))))))
def xD:List aZ:=[]
theorem Bm:bF Tryz.prog Tryz.f171 uj:=e (by kernel_rfl)
theorem Bz:bG Tryz.prog Tryz.f171 xD:=e (by kernel_rfl)
theorem Be:bE Tryz.prog 171:=e (by kernel_rfl)
def Yr:=[b 3 1,o 4 (.mv bn)]
def Ys:=[f 6 5 6 3,l 7 6,o 8 (.bin .gtr (.t 7) (ai 0))]
def Yt:=[m 9 0,o 10 (.nilC (.t 9)),f 11 0 0 10,l 12 11,f 13 5 6 3,l 14 13,o 15 (.lk (.i .i64) (.nilp) false (.t 12) (.t 14)),m 5 15]
def Ve:=some [[],[0],[1],[2],[],[4],[3,5],[6,0,1,2,3,4,5,6]]
def Yu:=[m 16 5,o 17 (.ptrE false (.t 16) (.c (.nilp))),m 18 17,gN 19 5 18,on 20 (.nilC (.t 19)) 18,fn 21 0 0 20 18,fn 22 1 1 21 18,l8 23 22 18,fn 24 6 7 3 18,l8 25 24 18,on 26 (.bin .neq (.t 23) (.t 25)) 18,or 27 18 26,m 28 27,gN 29 5 28,on 30 (.call 90 [.t 29]) 28,gN 31 30 28,dh 32 5 31,bW 33 (.nilC (.t 32)) 31,dK 34 0 0 33 31,dK 35 6 6 34 31,ez 36 35 31,dK 37 2 3 3 31,ez 38 37 31,bW 39 (.bin .lss (.t 36) (.t 38)) 31,on 40 (.pick (.t 31) (.t 39) bn) 28,or 41 28 40]
def Vf:=some [[],[0],[1],[2],[3,2],[4,2],[5,2],[6,2],[2],[8,2],[7,9,2],[2,10],[11,2],[12],[13,12,12],[14,14,12],[15],[16,15],[17,15],[18,15],[19,15],[15],[21,15],[20,22,15],[15,23,12],[12,24]]
def Yv:=[o 4 (.mv bn)]
def Yw:=[m 42 0,aC 43 17 3,o 44 (.call 173 [.t 42,.t 43]),m 4 44]
def Ad:aP:=(s (r Yr) (s (s (r Ys) (.cond (.t 8) (s (.ca Ve Yt) (s (.ca Vf Yu) (.cond (.t 41) (s (r Yv) .ret) .skip))) .skip)) (s (r Yw) .ret)))
def KQ:List aZ:=[.tmp 4]
theorem R5:bF Tryz.prog Tryz.f172 Ad:=e (by kernel_rfl)
theorem T5:bG Tryz.prog Tryz.f172 KQ:=e (by kernel_rfl)
theorem Qm:bE Tryz.prog 172:=e (by kernel_rfl)
def Yx:=[b 3 1,o 4 (.mv bn)]
def Yy:=[m 5 0,o 6 (.nilC (.t 5)),f 7 0 0 6,l 8 7,f 9 4 5 3,l 10 9,o 11 (.lk (.i .i64) (.nilp) false (.t 8) (.t 10)),o 12 (.ptrE true (.t 11) (.c (.nilp)))]
def Vg:=some [[],[0],[1],[2],[],[4],[3,5],[6]]
def Yz:=[o 4 (.mv bn)]
def YA:=[m 13 0,o 14 (.nilC (.t 13)),f 15 0 0 14,l 16 15,f 17 4 5 3,l 18 17,f 19 4 5 3,l 20 19,f 21 6 7 3,l 22 21,f 23 5 6 3,l 24 23,f 25 7 8 3,l 26 25,f 27 7 8 3,l 28 27,f 29 2 3 3,l 30 29,o 31 (.bld [.int .i64 0,.int .i64 0,.int .i64 0,.int .i64 0,.int .i64 0,.int .i64 0,.int .i64 0,.bool false,.nils 6] [(0,(.t 20)),(1,(.t 22)),(2,(.t 24)),(3,(.t 26)),(4,(.t 28)),(5,(.t 30)),(6,(.c (.int .i64 (-1))))]),o 32 (.bld [.agg [.int .i64 0,.int .i64 0,.int .i64 0,.int .i64 0,.int .i64 0,.int .i64 0,.int .i64 0,.bool false,.nils 6]] [(0,(.t 31))]),b 33 32,p (.gp (.i .i64) (.t 16) (.t 18) (.t 33))]
def Vh:=some [[],[0],[1],[2],[],[4],[],[6],[],[8],[],[10],[],[12],[],[14],[],[16],[7,9,11,13,15,17],[18],[19],[3,5,20,0,1,2,3,4,5,6,7,8,9,10,11,12,13,14,15,16,17,18,19,20]]
def YB:=[o 4 (.mv T)]
def Ae:aP:=(s (r Yx) (s (s (.ca Vg Yy) (.cond (.t 12) (s (r Yz) .ret) .skip)) (s (.ca Vh YA) (s (r YB) .ret))))
def KR:List aZ:=[.tmp 4]
theorem R6:bF Tryz.prog Tryz.f173 Ae:=e (by kernel_rfl)
theorem T6:bG Tryz.prog Tryz.f173 KR:=e (by kernel_rfl)
theorem Qn:bE Tryz.prog 173:=e (by kernel_rfl)
def YC:=[b 3 1,o 4 (.mv bn)]
def YD:=[m 6 0,o 7 (.nilC (.t 6)),f 8 0 0 7,l 9 8,f 10 4 5 3,l 11 10,o 12 (.lk (.i .i64) (.nilp) false (.t 9) (.t 11)),m 5 12]
def Vi:=some [[],[0],[1],[2],[],[4],[3,5],[6,0,1,2,3,4,5,6]]
def YE:=[m 13 5,o 14 (.ptrE false (.t 13) (.c (.nilp))),m 15 14,gN 16 5 15,on 17 (.call 90 [.t 16]) 15,or 18 15 17,m 19 18,gN 20 5 19,on 21 (.nilC (.t 20)) 19,fn 22 0 0 21 19,fn 23 3 3 22 19,l8 24 23 19,on 25 (.bin .eql (.t 24) (ai 0)) 19,or 26 19 25,m 27 26,gN 28 5 27,on 29 (.nilC (.t 28)) 27,fn 30 0 0 29 27,fn 31 3 3 30 27,l8 32 31 27,fn 33 7 8 3 27,l8 34 33 27,on 35 (.bin .eql (.t 32) (.t 34)) 27,or 36 27 35]
def Vj:=some [[],[0],[1],[2],[3,2,2],[2,4],[5,4],[6],[7,6],[8,6],[9,6],[10,6],[11,6],[6,12],[13,6],[14],[15,14],[16,14],[17,14],[18,14],[14],[20,14],[19,21,14],[14,22]]
def YF:=[o 4 (.mv bn)]
def YG:=[m 37 5,f 38 7 8 3,l 39 38,o 40 (.nilC (.t 37)),f 41 0 0 40,f 42 3 3 41,p (.br none (.t 42) (.t 39))]
def YH:=[o 4 (.mv T)]
def Af:aP:=(s (r YC) (s (.ca Vi YD) (s (s (.ca Vj YE) (.cond (.t 36) (s (r YF) .ret) .skip)) (s (r YG) (s (r YH) .ret)))))
def KS:List aZ:=[.tmp 4]
theorem R7:bF Tryz.prog Tryz.f174 Af:=e (by kernel_rfl)
theorem T7:bG Tryz.prog Tryz.f174 KS:=e (by kernel_rfl)
theorem Qo:bE Tryz.prog 174:=e (by kernel_rfl)
def YI:=[b 3 1,o 4 (.mv bn)]
def YJ:=[m 6 0,o 7 (.nilC (.t 6)),f 8 0 0 7,l 9 8,f 10 4 5 3,l 11 10,o 12 (.lk (.i .i64) (.nilp) false (.t 9) (.t 11)),m 5 12]
def Vk:=some [[],[0],[1],[2],[],[4],[3,5],[6,0,1,2,3,4,5,6]]
def YK:=[m 13 5,o 14 (.ptrE false (.t 13) (.c (.nilp)))]
def YL:=[o 4 (.mv bn)]
def vy:=[m 15 5,m 16 5,o 17 (.nilC (.t 16)),f 18 0 0 17,f 19 8 8 18,l 20 19,f 21 8 9 3,aC 22 6 21,o 23 (.bs 6 [.t 22]),o 24 (.dF 66 6 48 (.agg [.int .i64 0,.int .i64 0,.int .i64 0,.int .i64 0,.int .i64 0,.int .i64 0]) (.t 20) (.t 23)),o 25 (.nilC (.t 15)),f 26 0 0 25,f 27 8 8 26,p (.br none (.t 27) (.t 24))]
def Vl:=some [[],[],[1],[2],[3],[4],[],[6],[7],[5,8],[0,0,1,2,3,4,5,6,7,8,9],[10,0,1,2,3,4,5,6,7,8,9],[11,0,1,2,3,4,5,6,7,8,9],[12,9,9,0,1,2,3,4,5,6,7,8,9]] -- DRAW BAD
def YM:=[o 4 (.mv T)]
def Ag:aP:=(s (r YI) (s (.ca Vk YJ) (s (s (r YK) (.cond (.t 14) (s (r YL) .ret) .skip)) (s (.ca Vl vy) (s (r YM) .ret)))))
def KT:List aZ:=[.tmp 4]
theorem R8:bF Tryz.prog Tryz.f175 Ag:=e (by kernel_rfl)
theorem T8:bG Tryz.prog Tryz.f175 KT:=e (by kernel_rfl)
theorem Qp:bE Tryz.prog 175:=e (by kernel_rfl)
def YN:=[b 3 1,o 4 (.mv bn)]
def YO:=[m 6 0,o 7 (.nilC (.t 6)),f 8 0 0 7,l 9 8,f 10 4 5 3,l 11 10,o 12 (.lk (.i .i64) (.nilp) false (.t 9) (.t 11)),m 5 12]
def Vm:=some [[],[0],[1],[2],[],[4],[3,5],[6,0,1,2,3,4,5,6]]
def YP:=[m 13 5,o 14 (.ptrE false (.t 13) (.c (.nilp)))]
def YQ:=[o 4 (.mv bn)]
def YR:=[m 15 5,m 16 5,f 17 7 8 3,l 18 17,o 19 (.nilC (.t 15)),f 20 0 0 19,f 21 3 3 20,p (.br none (.t 21) (.t 18)),o 22 (.nilC (.t 16)),f 23 0 0 22,f 24 7 7 23,p (.br none (.t 24) T)]
def YS:=[o 4 (.mv T)]
def Ah:aP:=(s (r YN) (s (.ca Vm YO) (s (s (r YP) (.cond (.t 14) (s (r YQ) .ret) .skip)) (s (r YR) (s (r YS) .ret)))))
def KU:List aZ:=[.tmp 4]
theorem R9:bF Tryz.prog Tryz.f176 Ah:=e (by kernel_rfl)
theorem T9:bG Tryz.prog Tryz.f176 KU:=e (by kernel_rfl)
theorem Qq:bE Tryz.prog 176:=e (by kernel_rfl)
def YT:=[b 3 1,o 4 (.mv bn)]
def YU:=[m 6 0,o 7 (.nilC (.t 6)),f 8 0 0 7,l 9 8,f 10 4 5 3,l 11 10,o 12 (.lk (.i .i64) (.nilp) false (.t 9) (.t 11)),m 5 12]
def Vn:=some [[],[0],[1],[2],[],[4],[3,5],[6,0,1,2,3,4,5,6]]
def YV:=[m 13 5,o 14 (.ptrE false (.t 13) (.c (.nilp))),m 15 14,gN 16 5 15,on 17 (.call 90 [.t 16]) 15,or 18 15 17]
def YW:=[o 4 (.mv bn)]
def YX:=[m 19 5,f 20 2 3 3,l 21 20,o 22 (.nilC (.t 19)),f 23 0 0 22,f 24 6 6 23,p (.br none (.t 24) (.t 21))]
def YY:=[o 4 (.mv T)]
def Ai:aP:=(s (r YT) (s (.ca Vn YU) (s (s (r YV) (.cond (.t 18) (s (r YW) .ret) .skip)) (s (r YX) (s (r YY) .ret)))))
def KV:List aZ:=[.tmp 4]
theorem Sa:bF Tryz.prog Tryz.f177 Ai:=e (by kernel_rfl)
theorem Ua:bG Tryz.prog Tryz.f177 KV:=e (by kernel_rfl)
theorem Qr:bE Tryz.prog 177:=e (by kernel_rfl)
def EZ:=[l 4 1,o 5 (.len (.t 4)),o 6 (.bin .sub (.t 5) (ai 1)),m 3 6]
def E0:=[m 7 3,o 8 (.bin .geq (.t 7) (ai 0))]
def E4:=[m 11 0,m 12 3,l 13 1,m 14 3,o 15 (.is 17 (.t 13) (.t 14)),aC 16 17 15,o 17 (.eG (.t 11) [.t 12,.t 16]),no 18 17]
def E5:=[m 9 3,o 10 (.bin .sub (.t 9) (ai 1)),m 3 10]
def Aj:aP:=(s (r EZ) (.block 0 (.loop (s (s (r E0) (.cond (.t 8) .skip (.exit 0))) (s (.block 1 (s (r E4) (.cond (.t 18) .ret .skip))) (r E5))))))
def KW:List aZ:=[]
theorem Sb:bF Tryz.prog Tryz.f178 Aj:=e (by kernel_rfl)
theorem Ub:bG Tryz.prog Tryz.f178 KW:=e (by kernel_rfl)
theorem Bf:bE Tryz.prog 178:=e (by kernel_rfl)
def E6:=[b 1 0,o 2 (.mv bn)]
def E7:=[o 3 (.va 6 1 (.t 1)),o 4 (.call 125 [.t 3,(.c (.func 211 []))]),no 5 4,m 2 5]
def Al:aP:=(s (r E6) (s (r E7) .ret))
def KY:List aZ:=[.tmp 2]
theorem Sd:bF Tryz.prog Tryz.f193 Al:=e (by kernel_rfl)
theorem Ud:bG Tryz.prog Tryz.f193 KY:=e (by kernel_rfl)
theorem Qt:bE Tryz.prog 193:=e (by kernel_rfl)
def E8:=[o 2 (.mv bn)]
def E9:=[m 3 0,m 4 0,o 5 (.bin .neq (.t 3) (.t 4)),m 2 5]
def Am:aP:=(s (r E8) (s (r E9) .ret))
def KZ:List aZ:=[.tmp 2]
theorem Se:bF Tryz.prog Tryz.f194 Am:=e (by kernel_rfl)
theorem Ue:bG Tryz.prog Tryz.f194 KZ:=e (by kernel_rfl)
theorem Qu:bE Tryz.prog 194:=e (by kernel_rfl)
def Fa:=[bh 4 0]
def Fb:=[m 6 0,o 7 (.len (.t 6)),bh 8 0]
def Fc:=[lt 9 8 7]
def Fe:=[m 10 8,m 5 10]
def Ff:=[m 11 1,m 12 0,m 13 5,o 14 (.is 7 (.t 12) (.t 13)),aC 15 7 14,o 16 (.eG (.t 11) [.t 15])]
def Fg:=[m 17 5,m 4 17]
def Fh:=[ad 18 8 1,m 8 18]
def Fi:=[bh 4 (-1)]
def An:aP:=(s (r Fa) (s (s (r Fb) (.block 0 (.loop (s (r Fc) (s (.cond (.t 9) .skip (.exit 0)) (s (.block 1 (s (r Fe) (s (r Ff) (.cond (.t 16) (s (r Fg) .ret) .skip)))) (r Fh))))))) (s (r Fi) .ret)))
def K0:List aZ:=[.tmp 4]
theorem Sf:bF Tryz.prog Tryz.f195 An:=e (by kernel_rfl)
theorem Uf:bG Tryz.prog Tryz.f195 K0:=e (by kernel_rfl)
theorem Qv:bE Tryz.prog 195:=e (by kernel_rfl)
def Fj:=[o 4 (.mv bn)]
def Fk:=[m 5 0,m 6 1,o 7 (.bin .and (.t 5) (.t 6)),o 8 (.bin .neq (.t 7) (ai 0)),m 4 8]
def Ao:aP:=(s (r Fj) (s (r Fk) .ret))
def K1:List aZ:=[.tmp 4]
theorem Sg:bF Tryz.prog Tryz.f196 Ao:=e (by kernel_rfl)
theorem Ug:bG Tryz.prog Tryz.f196 K1:=e (by kernel_rfl)
theorem Qw:bE Tryz.prog 196:=e (by kernel_rfl)
def Fl:=[bh 2 0]
def Fm:=[bh 3 0]
def Fo:=[bh 5 0]
def Fp:=[o 6 (.bin .lss (.t 5) (ai 6))]
def Fq:=[m 7 5,m 4 7]
def Fs:=[m 8 0,m 9 4,o 10 (.eG (.t 8) [.t 9]),no 11 10]
def Ft:=[m 12 3,ad 13 12 1,m 3 13]
def vz:=[ad 14 5 1,m 5 14]
def Fu:=[m 15 3,m 2 15]
def Ap:aP:=(s (r Fl) (s (r Fm) (s (s (r Fo) (.block 0 (.loop (s (r Fp) (s (.cond (.t 6) .skip (.exit 0)) (s (.block 1 (s (r Fq) (s (r Fs) (.cond (.t 11) (r Ft) .skip)))) (r vz))))))) (s (r Fu) .ret))))
def K2:List aZ:=[.tmp 2]
theorem Sh:bF Tryz.prog Tryz.f197 Ap:=e (by kernel_rfl)
theorem Uh:bG Tryz.prog Tryz.f197 K2:=e (by kernel_rfl)
theorem Qx:bE Tryz.prog 197:=e (by kernel_rfl)
def Fv:=[o 6 (.mv bn)]
def Fw:=[l 7 1,aC 8 5 2,aC 9 6 3,m 10 0,o 11 (.call 199 [.t 8,.t 9,.t 10]),aC 12 5 2,aC 13 6 4,m 14 0,o 15 (.call 199 [.t 12,.t 13,.t 14]),o 16 (.eG (.t 7) [.t 11,.t 15]),m 6 16]
def Vp:=some [[],[],[],[],[1,2,3],[],[],[],[5,6,7,4],[0,4,8,8],[9,9,0,1,2,3,4,5,6,7,8,9]]
def Aq:aP:=(s (r Fv) (s (.ca Vp Fw) .ret))
def K3:List aZ:=[.tmp 6]
theorem Si:bF Tryz.prog Tryz.f198 Aq:=e (by kernel_rfl)
theorem Ui:bG Tryz.prog Tryz.f198 K3:=e (by kernel_rfl)
theorem Qy:bE Tryz.prog 198:=e (by kernel_rfl)
def Fx:=[b 3 0,b 4 1,bh 6 0]
def Fy:=[m 7 2,o 8 (.ia 6 1 (.t 4) (.t 7)),l 9 8,o 10 (.ia 5 1 (.t 3) (.t 9)),l 11 10,m 6 11]
def Ar:aP:=(s (r Fx) (s (r Fy) .ret))
def K4:List aZ:=[.tmp 6]
theorem Sj:bF Tryz.prog Tryz.f199 Ar:=e (by kernel_rfl)
theorem Uj:bG Tryz.prog Tryz.f199 K4:=e (by kernel_rfl)
theorem Qz:bE Tryz.prog 199:=e (by kernel_rfl)
def vA:=[o 4 (.mv (.c (.nils 7)))]
def vB:=[m 8 0,m 9 1,o 10 (.call 195 [.t 8,.t 9]),m 5 10]
def r7:=[m 11 5,o 12 (.bin .eql (.t 11) (.c (.int .i64 (-1))))]
def vD:=[m 13 0,m 4 13]
def FB:=[m 14 5,ad 15 14 1,m 6 15]
def FC:=[m 16 6,m 17 0,o 18 (.len (.t 17)),lt 19 16 18]
def FD:=[m 22 0,m 23 6,o 24 (.is 7 (.t 22) (.t 23)),aC 25 7 24,o 7 (.alloc (.agg [.int .i64 0,.agg [.int .i64 0,.int .i64 0,.int .i64 0,.int .i64 0,.int .i64 0,.int .i64 0]])),p (.br (some 7) (.t 7) (.t 25))]
def FE:=[m 26 1,aC 27 7 7,o 28 (.eG (.t 26) [.t 27]),no 29 28]
def FF:=[m 30 0,m 31 5,aC 32 7 7,o 33 (.is 7 (.t 30) (.t 31)),p (.br (some 7) (.t 33) (.t 32))]
def FG:=[m 34 5,ad 35 34 1,m 5 35]
def vC:=[m 20 6,ad 21 20 1,m 6 21]
def Fz:=[m 36 0,m 37 5,o 38 (.sl 7 (.t 36) (some (.t 37)) none none),p (.iY 7 (.agg [.int .i64 0,.agg [.int .i64 0,.int .i64 0,.int .i64 0,.int .i64 0,.int .i64 0,.int .i64 0]]) (.t 38))]
def FA:=[m 39 0,m 40 5,o 41 (.sl 7 (.t 39) none (some (.t 40)) none),m 4 41]
def uk:aP:=(s (r vA) (s (r vB) (s (s (r r7) (.cond (.t 12) (s (r vD) .ret) .skip)) (s (s (r FB) (.block 0 (.loop (s (s (r FC) (.cond (.t 19) .skip (.exit 0))) (s (.block 1 (s (r FD) (s (r FE) (.cond (.t 29) (s (r FF) (r FG)) .skip)))) (r vC)))))) (s (r Fz) (s (r FA) .ret))))))
def xE:List aZ:=[.tmp 4]
theorem Bn:bF Tryz.prog Tryz.f200 uk:=e (by kernel_rfl)
theorem BA:bG Tryz.prog Tryz.f200 xE:=e (by kernel_rfl)
theorem Bg:bE Tryz.prog 200:=e (by kernel_rfl)
def FH:=[b 3 0,o 4 (.mv bn)]
def FI:=[f 5 0 0 1,aC 6 5 5,f 7 1 1 3,aC 8 6 7,aC 9 6 2,o 10 (.call 202 [.t 6,.t 8,.t 9]),f 11 1 5 1,l 12 11,o 13 (.bin .gtr (.t 10) (.t 12)),m 4 13]
def Vq:=some [[],[0],[],[2],[],[1,3,4],[],[6],[5,7],[8,5,0,1,2,3,4,5,6,7,8]]
def Au:aP:=(s (r FH) (s (.ca Vq FI) .ret))
def K6:List aZ:=[.tmp 4]
theorem Sl:bF Tryz.prog Tryz.f201 Au:=e (by kernel_rfl)
theorem Ul:bG Tryz.prog Tryz.f201 K6:=e (by kernel_rfl)
theorem QB:bE Tryz.prog 201:=e (by kernel_rfl)
def FJ:=[b 3 0,b 4 1,b 5 2,bh 6 0]
def FK:=[o 7 (.alloc (.da)),p (.br none (.t 7) (.c (.func 196 [])))]
def FL:=[o 8 (.mk 212 [.t 7,.t 3,.t 4,.t 5]),o 9 (.call 197 [.t 8]),m 6 9]
def Av:aP:=(s (r FJ) (s (r FK) (s (r FL) .ret)))
def K7:List aZ:=[.tmp 6]
theorem Sm:bF Tryz.prog Tryz.f202 Av:=e (by kernel_rfl)
theorem Um:bG Tryz.prog Tryz.f202 K7:=e (by kernel_rfl)
theorem QC:bE Tryz.prog 202:=e (by kernel_rfl)
def vE:=[m 10 1,ad 11 10 1,m 8 11]
def FM:=[m 12 8,m 13 2,lt 14 12 13]
def FN:=[m 17 8,m 9 17]
def Zc:=[m 18 9,m 19 1,o 20 (.bin .gtr (.t 18) (.t 19)),m 21 20,dh 22 3 21,dh 23 0 21,dh 24 9 21,bW 25 (.is 1 (.t 23) (.t 24)) 21,ez 26 25 21,dh 27 0 21,dh 28 9 21,bW 29 (.bin .sub (.t 28) (ai 1)) 21,bW 30 (.is 1 (.t 27) (.t 29)) 21,ez 31 30 21,bW 32 (.eG (.t 22) [.t 26,.t 31]) 21,bW 33 (.bin .lss (.t 32) (ai 0)) 21,and 34 21 33]
def Vr:=some [[],[],[0,1],[2],[3],[3],[3],[5,6,3],[7,3],[3],[3],[10,3],[9,11,3],[12,3],[4,8,13,3,3],[14,3],[3,15]]
def Zd:=[m 37 0,m 38 9,m 39 0,m 40 9,o 41 (.bin .sub (.t 40) (ai 1)),m 42 0,m 43 9,o 44 (.bin .sub (.t 43) (ai 1)),o 45 (.is 1 (.t 42) (.t 44)),l 46 45,m 47 0,m 48 9,o 49 (.is 1 (.t 47) (.t 48)),l 50 49,o 51 (.is 1 (.t 37) (.t 38)),p (.br none (.t 51) (.t 46)),o 52 (.is 1 (.t 39) (.t 41)),p (.br none (.t 52) (.t 50))]
def Vs:=some [[],[],[],[],[3],[],[],[6],[5,7],[8],[],[],[10,11],[12],[0,1,0,1,5,6,7,8,9,13],[14,9,0,1,5,6,7,8,9,13],[2,4,0,1,2,3,4,5,6,7,8,9,10,11,12,13,14,15],[16,13,15,0,1,2,3,4,5,6,7,8,9,10,11,12,13,14,15]]
def Ze:=[m 35 9,o 36 (.bin .sub (.t 35) (ai 1)),m 9 36]
def Zf:=[m 15 8,ad 16 15 1,m 8 16]
def um:aP:=(s (r vE) (.block 0 (.loop (s (s (r FM) (.cond (.t 14) .skip (.exit 0))) (s (.block 1 (s (r FN) (.block 2 (.loop (s (s (.ca Vr Zc) (.cond (.t 34) .skip (.exit 2))) (s (.block 3 (.ca Vs Zd)) (r Ze))))))) (r Zf))))))
def xF:List aZ:=[]
theorem Bo:bF Tryz.prog Tryz.f203 um:=e (by kernel_rfl)
theorem BB:bG Tryz.prog Tryz.f203 xF:=e (by kernel_rfl)
theorem Bh:bE Tryz.prog 203:=e (by kernel_rfl)
def r8:=[m 25 2,m 26 1,o 27 (.bin .sub (.t 25) (.t 26)),o 28 (.bin .eql (.t 27) (ai 1))]
def FO:=[m 29 2,m 10 29]
def FT:=[m 30 3,m 11 30]
def FY:=[m 31 10,m 32 11,lt 33 31 32]
def Zz:=[m 34 10,m 35 11,o 36 (.bin .add (.t 34) (.t 35)),o 37 (.conv .u64 (.t 36)),o 38 (.bin .shr (.t 37) (.c (.int .u64 1))),o 39 (.conv .i64 (.t 38)),m 12 39]
def ZF:=[m 40 4,m 41 0,m 42 12,o 43 (.is 1 (.t 41) (.t 42)),l 44 43,m 45 0,m 46 1,o 47 (.is 1 (.t 45) (.t 46)),l 48 47,o 49 (.eG (.t 40) [.t 44,.t 48]),o 50 (.bin .lss (.t 49) (ai 0))]
def Vx:=some [[],[],[],[1,2],[3],[],[],[5,6],[7],[0,4,8],[9]]
def ZG:=[m 51 12,ad 52 51 1,m 10 52]
def ZH:=[m 53 12,m 11 53]
def F2:=[m 54 1,m 13 54]
def ZI:=[m 55 13,m 56 10,o 57 (.bin .sub (.t 56) (ai 1)),lt 58 55 57]
def Zg:=[m 61 0,m 62 13,m 63 0,m 64 13,ad 65 64 1,m 66 0,m 67 13,ad 68 67 1,o 69 (.is 1 (.t 66) (.t 68)),l 70 69,m 71 0,m 72 13,o 73 (.is 1 (.t 71) (.t 72)),l 74 73,o 75 (.is 1 (.t 61) (.t 62)),p (.br none (.t 75) (.t 70)),o 76 (.is 1 (.t 63) (.t 65)),p (.br none (.t 76) (.t 74))]
def Vt:=some [[],[],[],[],[3],[],[],[6],[5,7],[8],[],[],[10,11],[12],[0,1,0,1,5,6,7,8,9,13],[14,9,0,1,5,6,7,8,9,13],[2,4,0,1,2,3,4,5,6,7,8,9,10,11,12,13,14,15],[16,13,15,0,1,2,3,4,5,6,7,8,9,10,11,12,13,14,15]]
def Zh:=[m 59 13,ad 60 59 1,m 13 60]
def vF:=[m 77 3,m 78 2,o 79 (.bin .sub (.t 77) (.t 78)),o 80 (.bin .eql (.t 79) (ai 1))]
def FP:=[m 81 1,m 14 81]
def FQ:=[m 82 2,m 15 82]
def FR:=[m 83 14,m 84 15,lt 85 83 84]
def Zi:=[m 86 14,m 87 15,o 88 (.bin .add (.t 86) (.t 87)),o 89 (.conv .u64 (.t 88)),o 90 (.bin .shr (.t 89) (.c (.int .u64 1))),o 91 (.conv .i64 (.t 90)),m 16 91]
def Zj:=[m 92 4,m 93 0,m 94 2,o 95 (.is 1 (.t 93) (.t 94)),l 96 95,m 97 0,m 98 16,o 99 (.is 1 (.t 97) (.t 98)),l 100 99,o 101 (.eG (.t 92) [.t 96,.t 100]),o 102 (.bin .lss (.t 101) (ai 0)),no 103 102]
def Vu:=some [[],[],[],[1,2],[3],[],[],[5,6],[7],[0,4,8],[9],[10]]
def Zk:=[m 104 16,ad 105 104 1,m 14 105]
def Zl:=[m 106 16,m 15 106]
def FU:=[m 107 2,m 17 107]
def Zm:=[m 108 17,m 109 14,o 110 (.bin .gtr (.t 108) (.t 109))]
def Zn:=[m 113 0,m 114 17,m 115 0,m 116 17,o 117 (.bin .sub (.t 116) (ai 1)),m 118 0,m 119 17,o 120 (.bin .sub (.t 119) (ai 1)),o 121 (.is 1 (.t 118) (.t 120)),l 122 121,m 123 0,m 124 17,o 125 (.is 1 (.t 123) (.t 124)),l 126 125,o 127 (.is 1 (.t 113) (.t 114)),p (.br none (.t 127) (.t 122)),o 128 (.is 1 (.t 115) (.t 117)),p (.br none (.t 128) (.t 126))]
def Vv:=some [[],[],[],[],[3],[],[],[6],[5,7],[8],[],[],[10,11],[12],[0,1,0,1,5,6,7,8,9,13],[14,9,0,1,5,6,7,8,9,13],[2,4,0,1,2,3,4,5,6,7,8,9,10,11,12,13,14,15],[16,13,15,0,1,2,3,4,5,6,7,8,9,10,11,12,13,14,15]]
def Zo:=[m 111 17,o 112 (.bin .sub (.t 111) (ai 1)),m 17 112]
def FV:=[m 129 1,m 130 3,o 131 (.bin .add (.t 129) (.t 130)),o 132 (.conv .u64 (.t 131)),o 133 (.bin .shr (.t 132) (.c (.int .u64 1))),o 134 (.conv .i64 (.t 133)),m 18 134]
def FW:=[m 135 18,m 136 2,o 137 (.bin .add (.t 135) (.t 136)),m 19 137]
def FX:=[bh 20 0,bh 21 0]
def Zp:=[m 138 2,m 139 18,o 140 (.bin .gtr (.t 138) (.t 139))]
def Zq:=[m 141 19,m 142 3,o 143 (.bin .sub (.t 141) (.t 142)),m 20 143]
def Zr:=[m 144 18,m 21 144]
def Zs:=[m 145 1,m 20 145]
def Zt:=[m 146 2,m 21 146]
def FZ:=[m 147 19,o 148 (.bin .sub (.t 147) (ai 1)),m 22 148]
def F0:=[m 149 20,m 150 21,lt 151 149 150]
def Zu:=[m 152 20,m 153 21,o 154 (.bin .add (.t 152) (.t 153)),o 155 (.conv .u64 (.t 154)),o 156 (.bin .shr (.t 155) (.c (.int .u64 1))),o 157 (.conv .i64 (.t 156)),m 23 157]
def Zv:=[m 158 4,m 159 0,m 160 22,m 161 23,o 162 (.bin .sub (.t 160) (.t 161)),o 163 (.is 1 (.t 159) (.t 162)),l 164 163,m 165 0,m 166 23,o 167 (.is 1 (.t 165) (.t 166)),l 168 167,o 169 (.eG (.t 158) [.t 164,.t 168]),o 170 (.bin .lss (.t 169) (ai 0)),no 171 170]
def Vw:=some [[],[],[],[],[2,3],[1,4],[5],[],[],[7,8],[9],[0,6,10],[11],[12]]
def Zw:=[m 172 23,ad 173 172 1,m 20 173]
def Zx:=[m 174 23,m 21 174]
def F1:=[m 175 19,m 176 20,o 177 (.bin .sub (.t 175) (.t 176)),m 24 177]
def Zy:=[m 178 20,m 179 2,lt 180 178 179,m 181 180,dh 182 2 181,dh 183 24 181,bW 184 (.bin .lss (.t 182) (.t 183)) 181,and 185 181 184]
def ZA:=[m 186 0,m 187 20,m 188 2,m 189 24,m 190 4,o 191 (.call 213 [.t 186,.t 187,.t 188,.t 189,.t 190])]
def ZB:=[m 192 1,m 193 20,lt 194 192 193,m 195 194,dh 196 20 195,dh 197 18 195,bW 198 (.bin .lss (.t 196) (.t 197)) 195,and 199 195 198]
def ZC:=[m 200 0,m 201 1,m 202 20,m 203 18,m 204 4,o 205 (.call 204 [.t 200,.t 201,.t 202,.t 203,.t 204])]
def ZD:=[m 206 18,m 207 24,lt 208 206 207,m 209 208,dh 210 24 209,dh 211 3 209,bW 212 (.bin .lss (.t 210) (.t 211)) 209,and 213 209 212]
def ZE:=[m 214 0,m 215 18,m 216 24,m 217 3,m 218 4,o 219 (.call 204 [.t 214,.t 215,.t 216,.t 217,.t 218])]
def rL:aP:=(s (s (r r8) (.cond (.t 28) (s (r FO) (s (r FT) (s (.block 0 (.loop (s (s (r FY) (.cond (.t 33) .skip (.exit 0))) (.block 1 (s (r Zz) (s (.ca Vx ZF) (.cond (.t 50) (r ZG) (r ZH)))))))) (s (s (r F2) (.block 2 (.loop (s (s (r ZI) (.cond (.t 58) .skip (.exit 2))) (s (.block 3 (.ca Vt Zg)) (r Zh)))))) .ret)))) .skip)) (s (s (r vF) (.cond (.t 80) (s (r FP) (s (r FQ) (s (.block 4 (.loop (s (s (r FR) (.cond (.t 85) .skip (.exit 4))) (.block 5 (s (r Zi) (s (.ca Vu Zj) (.cond (.t 103) (r Zk) (r Zl)))))))) (s (s (r FU) (.block 6 (.loop (s (s (r Zm) (.cond (.t 110) .skip (.exit 6))) (s (.block 7 (.ca Vv Zn)) (r Zo)))))) .ret)))) .skip)) (s (r FV) (s (r FW) (s (r FX) (s (s (r Zp) (.cond (.t 140) (s (r Zq) (r Zr)) (s (r Zs) (r Zt)))) (s (r FZ) (s (.block 8 (.loop (s (s (r F0) (.cond (.t 151) .skip (.exit 8))) (.block 9 (s (r Zu) (s (.ca Vw Zv) (.cond (.t 171) (r Zw) (r Zx)))))))) (s (r F1) (s (s (r Zy) (.cond (.t 185) (r ZA) .skip)) (s (s (r ZB) (.cond (.t 199) (r ZC) .skip)) (s (r ZD) (.cond (.t 213) (r ZE) .skip)))))))))))))
def s9:List aZ:=[]
theorem uv:bF Tryz.prog Tryz.f204 rL:=e (by kernel_rfl)
theorem uF:bG Tryz.prog Tryz.f204 s9:=e (by kernel_rfl)
theorem ur:bE Tryz.prog 204:=e (by kernel_rfl)
def Gc:=[o 2 (.mv bn)]
def Gd:=[m 3 0,o 4 (.bin .eql (.t 3) (ai 0)),m 5 4,gN 6 0 5,on 7 (.call 160 [.t 6]) 5,on 8 (.un .not (.t 7)) 5,or 9 5 8,m 2 9]
def Ax:aP:=(s (r Gc) (s (r Gd) .ret))
def K9:List aZ:=[.tmp 2]
theorem Sp:bF Tryz.prog Tryz.f211 Ax:=e (by kernel_rfl)
theorem Uo:bG Tryz.prog Tryz.f211 K9:=e (by kernel_rfl)
theorem QE:bE Tryz.prog 211:=e (by kernel_rfl)
def Ge:=[o 6 (.mv bn)]
def Gf:=[l 7 1,aC 8 5 2,aC 9 6 3,m 10 0,o 11 (.call 199 [.t 8,.t 9,.t 10]),m 12 0,o 13 (.ia 6 1 (.t 4) (.t 12)),l 14 13,o 15 (.eG (.t 7) [.t 11,.t 14]),m 6 15]
def Vz:=some [[],[],[],[],[1,2,3],[],[5],[6],[0,4,7,4],[8,8,0,1,2,3,4,5,6,7,8]]
def Ay:aP:=(s (r Ge) (s (.ca Vz Gf) .ret))
def La:List aZ:=[.tmp 6]
theorem Sq:bF Tryz.prog Tryz.f212 Ay:=e (by kernel_rfl)
theorem Up:bG Tryz.prog Tryz.f212 La:=e (by kernel_rfl)
theorem QF:bE Tryz.prog 212:=e (by kernel_rfl)
def Gg:=[m 12 2,m 13 1,o 14 (.bin .sub (.t 12) (.t 13)),m 10 14]
def Gh:=[m 15 3,m 16 2,o 17 (.bin .sub (.t 15) (.t 16)),m 11 17]
def Gi:=[m 18 10,m 19 11,o 20 (.bin .neq (.t 18) (.t 19))]
def Gj:=[m 21 10,m 22 11,o 23 (.bin .gtr (.t 21) (.t 22))]
def Gk:=[m 24 0,m 25 2,m 26 10,o 27 (.bin .sub (.t 25) (.t 26)),m 28 2,m 29 11,m 30 4,o 31 (.call 216 [.t 24,.t 27,.t 28,.t 29,.t 30])]
def Gl:=[m 32 10,m 33 11,o 34 (.bin .sub (.t 32) (.t 33)),m 10 34]
def Gm:=[m 35 0,m 36 2,m 37 10,o 38 (.bin .sub (.t 36) (.t 37)),m 39 2,m 40 11,o 41 (.bin .add (.t 39) (.t 40)),m 42 10,o 43 (.bin .sub (.t 41) (.t 42)),m 44 10,m 45 4,o 46 (.call 216 [.t 35,.t 38,.t 43,.t 44,.t 45])]
def Gn:=[m 47 11,m 48 10,o 49 (.bin .sub (.t 47) (.t 48)),m 11 49]
def Gp:=[m 50 0,m 51 2,m 52 10,o 53 (.bin .sub (.t 51) (.t 52)),m 54 2,m 55 10,m 56 4,o 57 (.call 216 [.t 50,.t 53,.t 54,.t 55,.t 56])]
def Az:aP:=(s (r Gg) (s (r Gh) (s (.block 0 (.loop (s (s (r Gi) (.cond (.t 20) .skip (.exit 0))) (.block 1 (s (r Gj) (.cond (.t 23) (s (r Gk) (r Gl)) (s (r Gm) (r Gn)))))))) (r Gp))))
def Lb:List aZ:=[]
theorem Sr:bF Tryz.prog Tryz.f213 Az:=e (by kernel_rfl)
theorem Uq:bG Tryz.prog Tryz.f213 Lb:=e (by kernel_rfl)
theorem QG:bE Tryz.prog 213:=e (by kernel_rfl)
def Gq:=[bh 10 0]
def ZJ:=[m 11 10,m 12 3,lt 13 11 12]
def ZK:=[m 16 0,m 17 1,m 18 10,o 19 (.bin .add (.t 17) (.t 18)),m 20 0,m 21 2,m 22 10,o 23 (.bin .add (.t 21) (.t 22)),m 24 0,m 25 2,m 26 10,o 27 (.bin .add (.t 25) (.t 26)),o 28 (.is 1 (.t 24) (.t 27)),l 29 28,m 30 0,m 31 1,m 32 10,o 33 (.bin .add (.t 31) (.t 32)),o 34 (.is 1 (.t 30) (.t 33)),l 35 34,o 36 (.is 1 (.t 16) (.t 19)),p (.br none (.t 36) (.t 29)),o 37 (.is 1 (.t 20) (.t 23)),p (.br none (.t 37) (.t 35))]
def VA:=some [[],[],[],[1,2],[],[],[],[5,6],[],[],[],[9,10],[8,11],[12],[],[],[],[15,16],[14,17],[18],[0,3,0,1,2,3,8,9,10,11,12,13,19],[20,13,0,1,2,3,8,9,10,11,12,13,19],[4,7,0,1,2,3,4,5,6,7,8,9,10,11,12,13,14,15,16,17,18,19,20,21],[22,19,21,0,1,2,3,4,5,6,7,8,9,10,11,12,13,14,15,16,17,18,19,20,21]]
def ZL:=[m 14 10,ad 15 14 1,m 10 15]
def AA:aP:=(s (r Gq) (.block 0 (.loop (s (s (r ZJ) (.cond (.t 13) .skip (.exit 0))) (s (.block 1 (.ca VA ZK)) (r ZL))))))
def Lc:List aZ:=[]
theorem Ss:bF Tryz.prog Tryz.f216 AA:=e (by kernel_rfl)
theorem Ur:bG Tryz.prog Tryz.f216 Lc:=e (by kernel_rfl)
theorem QH:bE Tryz.prog 216:=e (by kernel_rfl)
end Go.Proofs.YtcldiigclhgafaaGreat
namespace Go.Proofs.YtcldiigclhgafaaGreat
open Go Go.Abs
open Go.Abs.Enc (enc)
theorem yN(n lo hi:Int):aB Tryz.prog 94 [enc n,enc lo,enc hi] (enc (decide (lo≤n)&&decide (n≤hi))):=by
 refine aB.bu Tryz.func94 Rf SZ UY (Nat.le_of_ble_eq_true rfl) (fun hwf W0 D0 E1 =>?_)
 simp only[A8,LJ,bp,Nat.zero_add,Nat.reduceAdd]
 refine .ak (by decide +kernel) fun K hK =>?_
 simp only[HS,J,simprocAttr]
 refine .done (hK _ ?_);clear hK K
 refine .ak (by decide +kernel) fun K hK =>?_
 simp only[HT,J,simprocAttr]
 refine .guard (fun h =>?_) (fun h =>?_)
 ·simp only[J,simprocAttr,h]
  refine .done (hK _ ?_);clear hK K
  refine U.ret ?_
  simp only[J,simprocAttr]
  simp_all
 ·simp only[J,simprocAttr,h]
  refine .done (hK _ ?_);clear hK K
  refine U.ret ?_
  simp only[J,simprocAttr]
  simp at h
  simp;omega
theorem ah5(l:List Int)(n:Int):aB Tryz.prog 36 [enc l,enc n] (enc (decide (n∈l))):=by
 refine aB.bu Tryz.func36 QS SC UB (Nat.le_of_ble_eq_true rfl) (fun hwf W0 D0 E1 =>?_)
 simp only[AL,Lm,bp,Nat.zero_add]
 have hlen:l.length≤maxLen:=((kM l).1 hwf.1).1
 simp only[maxLen] at hlen
 refine .ak (by decide +kernel) fun K hK =>?_
 simp only[GU,J,simprocAttr]
 refine .done (hK _ ?_);clear hK K
 refine U.seq ?_
 refine .ak (by decide +kernel) fun K hK =>?_
 simp only[GV,J,simprocAttr]
 refine .done (hK _ ?_);clear hK K
 refine U.block (U.loop (fun i:Nat=>au [(0,enc l),(1,.int .i64 n),(4,.bool false),(5,.int .i64 i)] []) (fun i=>i≤l.length∧n∉l.take i) (fun i=>l.length-i) 0 ⟨Nat.zero_le _,by simp⟩ ?_ (fun i hi =>?_))
 ·refine aE.bP ?_ ?_ ?_ ?_ <;>simp[aT,bJ,bI,bd,aV,I.only,bt]
 ·refine U.seq (U.seq ?_)
  refine .bj (by decide +kernel) fun K hK =>?_
  simp only[GW,J,simprocAttr]
  try simp only[bK,J,simprocAttr]
  refine .done (hK _ ?_);clear hK K;try simp only[ao]
  refine U.bD ?_
  simp only[ar,J,simprocAttr]
  refine ⟨fun h =>?_,fun h =>?_⟩
  ·have hlt:i<l.length:=by simpa using h
   refine U.skip ?_;try simp only[ao,simprocAttr]
   refine U.seq (U.block ?_)
   refine .ak (by decide +kernel) fun K hK =>?_
   simp only[GX,J,simprocAttr]
   try simp only[fL 1 hlt rfl,J,simprocAttr]
   refine .done (hK _ ?_);clear hK K
   refine U.bD ?_
   simp only[ar,J,simprocAttr]
   refine ⟨fun h =>?_,fun h =>?_⟩
   ·refine .ak (by decide +kernel) fun K hK =>?_
    simp only[GY,J,simprocAttr]
    refine .done (hK _ ?_);clear hK K
    refine U.ret ?_
    simp only[bH,ao,J,simprocAttr]
    simp at h
    simp[←h]
   ·refine U.skip ?_;try simp only[ao,bH,simprocAttr]
    refine .bj (by decide +kernel) fun K hK =>?_
    simp only[GZ,J,simprocAttr]
    refine .done (hK _ ?_);clear hK K;try simp only[ao]
    refine ⟨i+1,⟨by omega,fun hm =>?_⟩,by omega,?_⟩
    ·rw[List.take_succ_eq_append_getElem hlt] at hm
     rcases List.mem_append.1 hm with hm | hm
     ·exact hi.2 hm
     ·simp at h hm;exact h hm.symm
    ·rw[cA _ (by omega) (by omega)]
     refine aE.bP ?_ ?_ ?_ ?_ <;>simp[aT,bJ,bI,bd,aV,I.only,bt]
  ·have hge:i=l.length:=by simp at h;omega
   refine U.exit ?_;try simp only[ao,bH,simprocAttr]
   refine .ak (by decide +kernel) fun K hK =>?_
   simp only[G0,J,simprocAttr]
   refine .done (hK _ ?_);clear hK K
   refine U.ret ?_
   simp only[J,simprocAttr]
   simp[hge] at hi
   simp[hi]
theorem ye(n d:Int)(h0:0<d)(h1:d≤4611686018427387904):IntKind.i64.wrap (n.tmod d+d)=n.tmod d+d∧(n.tmod d+d).tmod d=n%d:=by
 have a1:n.tmod d<d:=Int.tmod_lt_of_pos n h0
 have a2:-d<n.tmod d:=by
  have:=Int.tmod_lt_of_pos (-n) h0
  rw[Int.neg_tmod] at this
  omega
 refine ⟨cA _ (by omega) (by omega),?_⟩
 rw[Int.tmod_eq_emod_of_nonneg (by omega),Int.add_emod_right]
 rw[Int.tmod_def,Int.sub_mul_emod_self_left]
theorem gC(n d:Int)(h0:0<d)(h1:d≤4611686018427387904):aB Tryz.prog 25 [enc n,enc d] (enc (n%d)):=by
 refine aB.bu Tryz.func25 QL Sw Uv (Nat.le_of_ble_eq_true rfl) (fun hwf W0 D0 E1 =>?_)
 simp only[AF,Lg,bp,Nat.zero_add]
 have hd:¬ d=0:=by omega
 refine .ak (by decide +kernel) fun K hK =>?_
 simp only[GA,J,simprocAttr]
 refine .done (hK _ ?_);clear hK K
 refine .ak (by decide +kernel) fun K hK =>?_
 simp only[GB,J,simprocAttr]
 try simp only[hd,J,simprocAttr]
 refine .done (hK _ ?_);clear hK K
 refine U.ret ?_
 simp only[J,simprocAttr]
 rw[(ye n d h0 h1).1,(ye n d h0 h1).2]
def bL(c:List Int)(i:Int):Int:=if c=[] then 0 else c.getD (i%c.length).toNat 0
theorem lN(c:List Int)(i:Int)(hc:c.length≤4611686018427387904):aB Tryz.prog 34 [enc c,enc i] (enc (bL c i)):=by
 refine aB.bu Tryz.func34 QP SA Uz (Nat.le_of_ble_eq_true rfl) (fun hwf W0 D0 E1 =>?_)
 simp only[AJ,Lk,bp,Nat.zero_add]
 refine .ak (by decide +kernel) fun K hK =>?_
 simp only[GC,J,simprocAttr]
 refine .done (hK _ ?_);clear hK K
 refine U.seq (U.seq ?_)
 refine .bj (by decide +kernel) fun K hK =>?_
 simp only[GD,J,simprocAttr]
 try simp only[bK,J,simprocAttr]
 refine .done (hK _ ?_);clear hK K;try simp only[ao]
 refine U.bD ?_
 simp only[ar,J,simprocAttr]
 refine ⟨fun h =>?_,fun h =>?_⟩
 ·refine .ak (by decide +kernel) fun K hK =>?_
  simp only[GF,J,simprocAttr]
  refine .done (hK _ ?_);clear hK K
  refine U.ret ?_
  simp only[ao,J,simprocAttr]
  simp at h
  simp[bL,h]
 ·simp at h
  have hpos:0<c.length:=List.length_pos_iff.2 h
  have k1:0≤i%(c.length:Int):=Int.emod_nonneg _ (by omega)
  have k2:i%(c.length:Int)<c.length:=Int.emod_lt_of_pos _ (by omega)
  have k3:(i%(c.length:Int)).toNat<c.length:=by omega
  refine U.skip ?_;try simp only[ao,simprocAttr]
  refine .ak (by decide +kernel) fun K hK =>?_
  simp only[GG,J,simprocAttr]
  try simp only[bK,List.map_cons,List.map_nil,J,simprocAttr]
  refine .flat _ (gC i c.length (by omega) (by omega)) rfl ?_
  try simp only[J,simprocAttr]
  try simp only[ID 1 ⟨k1,k3⟩ rfl,J,simprocAttr]
  refine .done (hK _ ?_);clear hK K
  refine U.ret ?_
  simp only[J,simprocAttr]
  simp[bL,h,List.getD_eq_getElem?_getD,k3]
def cm(lo hi n:Int):Bool:=decide (lo≤n)&&decide (n≤hi)
def nB(a b:Int):Int:=IntKind.i64.wrap ((BitVec.ofInt IntKind.i64.bits a &&& BitVec.ofInt IntKind.i64.bits b).toNat:Int)
def shl(a:Int)(k:Nat):Int:=IntKind.i64.wrap (a*2^min k IntKind.i64.bits)
theorem M4(m:aM 6 Int):aB Tryz.prog 100 [enc m] (enc (if (List.range 6).all (fun i=>cm 0 4 (m.g i)) then (0:Int) else 10)):=by
 refine aB.bu Tryz.func100 PD Rm Tj (Nat.le_of_ble_eq_true rfl) (fun hwf W0 D0 E1 =>?_)
 simp only[zl,J6,bp]
 refine .ak (by decide +kernel) fun K hK =>?_
 simp only[Cs,J,simprocAttr]
 refine .done (hK _ ?_);clear hK K
 refine U.seq ?_
 refine .ak (by decide +kernel) fun K hK =>?_
 simp only[Ct,J,simprocAttr]
 refine .done (hK _ ?_);clear hK K
 refine U.block (U.loop (fun i:Nat=>au [(1,.ptr 1 []),(2,.int .i64 0),(3,.int .i64 i)] [(1,.box (enc m))]) (fun j=>j≤6∧∀ i,i<j→cm 0 4 (m.g i)=true) (fun i=>6-i) 0 ⟨by omega,fun k h=>by omega⟩ ?_ (fun i hi =>?_))
 ·refine aE.bP ?_ ?_ ?_ ?_ <;>simp[aT,bJ,bI,bd,al,aV,cw,I.only,ah.only,bt]
 ·refine U.seq (U.seq ?_)
  refine .bj (by decide +kernel) fun K hK =>?_
  simp only[Cu,J,simprocAttr]
  refine .done (hK _ ?_);clear hK K;try simp only[ao]
  refine U.bD ?_
  simp only[ar,J,simprocAttr]
  refine ⟨fun h =>?_,fun h =>?_⟩
  ·have hlt:i<6:=by simp at h;omega
   refine U.skip ?_;try simp only[ao,simprocAttr]
   refine U.seq (U.block ?_)
   refine .ak (by decide +kernel) fun K hK =>?_
   simp only[Cv,J,simprocAttr]
   try simp only[bK,jb 1 m hlt rfl,eF m hlt,J,simprocAttr]
   refine .flat _ (yN _ 0 4) rfl ?_
   try simp only[J,simprocAttr]
   refine .done (hK _ ?_);clear hK K
   refine U.bD ?_
   simp only[ar,J,simprocAttr]
   refine ⟨fun h =>?_,fun h =>?_⟩
   ·refine .ak (by decide +kernel) fun K hK =>?_
    simp only[Cw,J,simprocAttr]
    refine .done (hK _ ?_);clear hK K
    refine U.ret ?_
    simp only[bH,ao,J,simprocAttr]
    rw[ny i hlt]
    ·simp
    ·simp at h;simp[cm];omega
   ·refine U.skip ?_;try simp only[ao,bH,simprocAttr]
    refine .bj (by decide +kernel) fun K hK =>?_
    simp only[Cx,J,simprocAttr]
    refine .done (hK _ ?_);clear hK K;try simp only[ao]
    refine ⟨i+1,⟨by omega,fun k hk =>?_⟩,by omega,?_⟩
    ·by_cases hk':k=i
     ·subst hk'
      simpa[cm] using h
     ·exact hi.2 k (by omega)
    ·rw[cA _ (by omega) (by omega)]
     refine aE.bP ?_ ?_ ?_ ?_ <;>simp[aT,bJ,bI,bd,al,aV,cw,I.only,ah.only,bt]
  ·have hge:i=6:=by simp at h;omega
   subst hge
   refine U.exit ?_;try simp only[ao,bH,simprocAttr]
   refine .ak (by decide +kernel) fun K hK =>?_
   simp only[Cy,J,simprocAttr]
   refine .done (hK _ ?_);clear hK K
   refine U.ret ?_
   simp only[J,simprocAttr]
   rw[pU hi.2]
   simp
structure b7 where
 bN:Int
 mark:aM 6 Int
instance:Enc b7 where
 enc g:=.agg [.int .i64 g.bN,enc g.mark]
 sz:=7
 aJ:=.dZ [.one,.dZ (List.replicate 6 .one)]
 fQ:=true
 done g:=by simp only[I.done,I.eR,Enc.done,Bool.and_self]
 size g:=by simp only[I.size,I.sizes,fX,kq,kr]
 j8 g:=by simp only[I.aJ,I.cQ,eH,rU,rV]
 agg _:=rfl
structure bX where
 eC:aM 5 Int
 ew:Int
 given:List b7
instance:Enc bX where
 enc m:=.agg [enc m.eC,.int .i64 m.ew,enc m.given]
 sz:=7
 aJ:=.dZ [.dZ (List.replicate 5 .one),.one,.one]
 fQ:=true
 done m:=by simp only[I.done,I.eR,Enc.done,Bool.and_self]
 size m:=by simp only[I.size,I.sizes,fX,kq,kr,uO]
 j8 m:=by simp only[I.aJ,I.cQ,eH,rU,rV,BU]
 agg _:=rfl
theorem lA{fs:List I}{f off:Nat}{v:I}(h1:f<fs.length)(h:I.sizes (fs.take f)=off):dQ fs f off v=some v:=by simp[dQ,h,h1]
theorem cC :
  (∀ m:bX,(enc m).dj=some [enc m.eC,.int .i64 m.ew,enc m.given])∧(∀ g:b7,(enc g).dj=some [.int .i64 g.bN,enc g.mark]) ∧
  (∀ (w:aM 5 Int) (n:Int) (g:List b7) v,dQ [enc w,.int .i64 n,enc g] 0 0 v=some v)∧(∀ (w:aM 5 Int) (n:Int) (g:List b7) v,dQ [enc w,.int .i64 n,enc g] 1 5 v=some v)∧(∀ (w:aM 5 Int) (n:Int) (g:List b7) v,dQ [enc w,.int .i64 n,enc g] 2 6 v=some v) ∧
  (∀ (n:Int) (m:aM 6 Int) v,dQ [.int .i64 n,enc m] 0 0 v=some v)∧(∀ (n:Int) (m:aM 6 Int) v,dQ [.int .i64 n,enc m] 1 1 v=some v) ∧
  (∀ (g:List b7),bU none (enc g)=true)∧(∀ (g:List Int),bU none (enc g)=true)∧(∀ (g:aM 5 Int),bU (some 5) (enc g)=true)∧(∀ (g:aM 6 Int),bU (some 6) (enc g)=true)∧(∀ (g:b7),bU (some 7) (enc g)=true)∧(∀ (g:bX),bU (some 7) (enc g)=true) ∧
  (∀ (fs:List I) x,(x::fs)[0]?=some x)∧(∀ (fs:List I) x n,(x::fs)[n+1]?=fs[n]?)∧(∀ (fs:List I) x,(x::fs)[1]?=fs[0]?)∧(∀ (fs:List I) x,(x::fs)[2]?=fs[1]?) :=
 ⟨fun _=>rfl,fun _=>rfl,fun _ _ _ _=>lA (Nat.le_of_ble_eq_true rfl) rfl,fun w n g v=>lA (Nat.le_of_ble_eq_true rfl) (by simp[I.sizes,fX,kq,kr]),fun w n g v=>lA (Nat.le_of_ble_eq_true rfl) (by simp[I.sizes,I.size,fX,kq,kr]),fun _ _ _=>lA (Nat.le_of_ble_eq_true rfl) rfl,fun _ _ _=>lA (Nat.le_of_ble_eq_true rfl) (by simp[I.sizes,I.size]),
  fun _=>by simp[lW,mP],fun _=>by simp[lW,mP],fun _=>by simp[fJ,uN,kq,kr],fun _=>by simp[fJ,uN,kq,kr],fun _=>by rw[fJ];rfl,fun _=>by rw[fJ];rfl,
  fun _ _=>rfl,fun _ _ _=>rfl,fun _ _=>rfl,fun _ _=>rfl⟩
theorem rm(n lo hi:Int):aB Tryz.prog 121 [enc n,enc lo,enc hi] (enc (cm lo hi n)):=by
 refine aB.bu Tryz.func121 PL Ru Ts (Nat.le_of_ble_eq_true rfl) (fun hwf W0 D0 E1 =>?_)
 simp only[zu,Ke,bp,Nat.zero_add,Nat.reduceAdd]
 refine .ak (by decide +kernel) fun K hK =>?_
 simp only[C1,J,simprocAttr]
 refine .done (hK _ ?_);clear hK K
 refine .ak (by decide +kernel) fun K hK =>?_
 simp only[C2,J,simprocAttr]
 refine .guard (fun h =>?_) (fun h =>?_)
 ·simp only[J,simprocAttr,h]
  refine .done (hK _ ?_);clear hK K
  refine U.ret ?_
  simp only[J,simprocAttr]
  simp_all[cm]
 ·simp only[J,simprocAttr,h]
  refine .done (hK _ ?_);clear hK K
  refine U.ret ?_
  simp only[J,simprocAttr]
  simp at h
  simp[cm];omega
theorem yB(n:Int):aB Tryz.prog 160 [enc n] (enc (cm 0 31 n)):=by
 refine aB.bu Tryz.func160 Qc RV TT (Nat.le_of_ble_eq_true rfl) (fun hwf W0 D0 E1 =>?_)
 simp only[zX,KG,bp]
 refine .ak (by decide +kernel) fun K hK =>?_
 simp only[El,J,simprocAttr]
 refine .done (hK _ ?_);clear hK K
 refine .ak (by decide +kernel) fun K hK =>?_
 simp only[Em,J,simprocAttr]
 refine .flat _ (rm n 0 31) rfl ?_
 try simp only[J,simprocAttr]
 refine .done (hK _ ?_);clear hK K
 refine U.ret ?_
 simp only[J,simprocAttr]
theorem yE(a b:Int):aB Tryz.prog 196 [enc a,enc b] (enc (nB a b != 0)):=by
 refine aB.bu Tryz.func196 Qw Sg Ug (Nat.le_of_ble_eq_true rfl) (fun hwf W0 D0 E1 =>?_)
 simp only[Ao,K1,bp,Nat.zero_add]
 refine .ak (by decide +kernel) fun K hK =>?_
 simp only[Fj,J,simprocAttr]
 refine .done (hK _ ?_);clear hK K
 refine .ak (by decide +kernel) fun K hK =>?_
 simp only[Fk,J,simprocAttr]
 refine .done (hK _ ?_);clear hK K
 refine U.ret ?_
 simp only[J,simprocAttr]
 rfl
theorem tS(w:aM 5 Int)(m:aM 6 Int)(i:Nat)(hi:i<6)(h0:0≤m.g i)(h5:m.g i<5):aB Tryz.prog 199 [enc w,enc m,enc (i:Int)] (enc (w.g (m.g i).toNat)):=by
 refine aB.bu Tryz.func199 Qz Sj Uj (Nat.le_of_ble_eq_true rfl) (fun hwf W0 D0 E1 =>?_)
 simp only[Ar,K4,bp,Nat.zero_add,Nat.reduceAdd]
 refine .ak (by decide +kernel) fun K hK =>?_
 simp only[Fx,J,simprocAttr]
 refine .done (hK _ ?_);clear hK K
 refine .ak (by decide +kernel) fun K hK =>?_
 simp only[Fy,J,simprocAttr]
 have hk:(m.g i).toNat<5:=by omega
 try simp only[bK,jb 1 m hi rfl,eF m hi,J,simprocAttr]
 try simp only[bK,fP 1 w ⟨h0,h5⟩ rfl,eF w hk,J,simprocAttr]
 refine .done (hK _ ?_);clear hK K
 refine U.ret ?_
 simp only[J,simprocAttr]
def ev(p:Nat→Bool):Nat→Nat
 |0=>0
 |n+1=>ev p n+if p n then 1 else 0
theorem uD(p:Nat→Bool):∀ n,ev p n≤n
 |0=>Nat.le_refl _
 |n+1=>by have:=uD p n;simp only[ev];split <;>omega
def iy(w:aM 5 Int)(a b:aM 6 Int)(i:Nat):Bool:=nB (w.g (a.g i).toNat) (w.g (b.g i).toNat)==0
def dH(m:aM 6 Int):Bool:=(List.range 6).all fun i=>cm 0 4 (m.g i)
theorem nc{m:aM 6 Int}(h:dH m=true){i:Nat}(hi:i<6):0≤m.g i∧m.g i<5:=by
 simp only[dH,List.all_eq_true,List.mem_range] at h
 have:=h i hi
 simp[cm] at this
 omega
theorem Nf(w:aM 5 Int)(a b:aM 6 Int)(ha:dH a=true)(hb:dH b=true):aB Tryz.prog 129 [enc w,enc a,enc b] (enc (ev (iy w a b) 6:Int)):=by
 refine aB.bu Tryz.func129 PU RC TA (Nat.le_of_ble_eq_true rfl) (fun hwf W0 D0 E1 =>?_)
 simp only[zE,Km,bp,Nat.zero_add,Nat.reduceAdd]
 refine .ak (by decide +kernel) fun K hK =>?_
 simp only[Dk,J,simprocAttr]
 refine .done (hK _ ?_);clear hK K
 refine .ak (by decide +kernel) fun K hK =>?_
 simp only[Dl,J,simprocAttr]
 refine .done (hK _ ?_);clear hK K
 refine U.seq (U.seq ?_)
 refine .bj (by decide +kernel) fun K hK =>?_
 simp only[Dm,J,simprocAttr]
 refine .done (hK _ ?_);clear hK K;try simp only[ao]
 refine U.block (U.loop (fun i:Nat=>au [(3,.ptr 3 []),(4,.ptr 4 []),(5,.ptr 5 []),(7,.int .i64 (ev (iy w a b) i)),(8,.int .i64 i)] [(3,.box (enc w)),(4,.box (enc a)),(5,.box (enc b))]) (fun i=>i≤6) (fun i=>6-i) 0 (by omega) ?_ (fun i hi =>?_))
 ·simp only[ev]
  refine aE.bP ?_ ?_ ?_ ?_ <;>simp[aT,bJ,bI,bd,al,aV,cw,I.only,ah.only,bt]
 ·have hc:=uD (iy w a b) i
  refine U.seq (U.seq ?_)
  refine .bj (by decide +kernel) fun K hK =>?_
  simp only[Dn,J,simprocAttr]
  refine .done (hK _ ?_);clear hK K;try simp only[ao]
  refine U.bD ?_
  simp only[ar,J,simprocAttr]
  refine ⟨fun h =>?_,fun h =>?_⟩
  ·have hlt:i<6:=by simp at h;omega
   have h1:=nc ha hlt
   have h2:=nc hb hlt
   refine U.skip ?_;try simp only[ao,simprocAttr]
   refine U.seq (U.block ?_)
   refine .ak (by decide +kernel) fun K hK =>?_
   simp only[Dp,J,simprocAttr]
   have k1:(a.g i).toNat<5:=by omega
   have k2:(b.g i).toNat<5:=by omega
   try simp only[bK,jb 1 a hlt rfl,eF a hlt,J,simprocAttr]
   try simp only[bK,fP 1 w h1 rfl,eF w k1,J,simprocAttr]
   try simp only[bK,jb 1 b hlt rfl,eF b hlt,J,simprocAttr]
   try simp only[bK,fP 1 w h2 rfl,eF w k2,J,simprocAttr]
   refine .done (hK _ ?_);clear hK K
   refine U.bD ?_
   simp only[ar,J,simprocAttr]
   refine ⟨fun h =>?_,fun h =>?_⟩
   ·have hap:iy w a b i=true:=h
    refine .bj (by decide +kernel) fun K hK =>?_
    simp only[Dq,J,simprocAttr]
    refine .done (hK _ ?_);clear hK K;try simp only[ao,bH]
    refine .bj (by decide +kernel) fun K hK =>?_
    simp only[vi,J,simprocAttr]
    refine .done (hK _ ?_);clear hK K;try simp only[ao]
    refine ⟨i+1,by omega,by omega,?_⟩
    rw[cA _ (by omega) (by omega),cA _ (by omega) (by omega)]
    simp only[ev,hap,if_true]
    refine aE.bP ?_ ?_ ?_ ?_ <;>simp[aT,bJ,bI,bd,al,aV,cw,I.only,ah.only,bt]
   ·have hap:iy w a b i=false:=h
    refine U.skip ?_;try simp only[ao,bH,simprocAttr]
    refine .bj (by decide +kernel) fun K hK =>?_
    simp only[vi,J,simprocAttr]
    refine .done (hK _ ?_);clear hK K;try simp only[ao]
    refine ⟨i+1,by omega,by omega,?_⟩
    rw[cA _ (by omega) (by omega)]
    simp only[ev,hap,Bool.false_eq_true,if_false]
    refine aE.bP ?_ ?_ ?_ ?_ <;>simp[aT,bJ,bI,bd,al,aV,cw,I.only,ah.only,bt]
  ·have hge:i=6:=by simp at h;omega
   subst hge
   refine U.exit ?_;try simp only[ao,bH,simprocAttr]
   refine .ak (by decide +kernel) fun K hK =>?_
   simp only[Dr,J,simprocAttr]
   refine .done (hK _ ?_);clear hK K
   refine U.ret ?_
   simp only[J,simprocAttr]
def gF(w:Int)(k:Nat):Bool:=nB w (shl 1 k) != 0
def gn(w:Int):Nat→List Int
 |0=>[]
 |k+1=>gn w k++if gF w k then [(k:Int)] else []
theorem wR(w:Int):∀ k,(gn w k).length≤k
 |0=>Nat.le_refl _
 |k+1=>by
  have:=wR w k
  simp only[gn,List.length_append]
  split <;>simp <;>omega
theorem Nn(w:Int):aB Tryz.prog 141 [enc w] (enc (gn w 5)):=by
 refine aB.bu Tryz.func141 P3 RL TJ (Nat.le_of_ble_eq_true rfl) (fun hwf W0 D0 E1 =>?_)
 simp only[zN,Kv,bp]
 refine .ak (by decide +kernel) fun K hK =>?_
 simp only[DC,J,simprocAttr]
 refine .done (hK _ ?_);clear hK K
 refine .ak (by decide +kernel) fun K hK =>?_
 simp only[DE,J,simprocAttr]
 refine .done (hK _ ?_);clear hK K
 refine U.seq (U.seq ?_)
 refine .bj (by decide +kernel) fun K hK =>?_
 simp only[DF,J,simprocAttr]
 refine .done (hK _ ?_);clear hK K;try simp only[ao]
 refine U.block (U.loop (fun i:Nat=>au [(0,.int .i64 w),(2,.nils 1),(3,.own 3 (gn w i).length),(4,.int .i64 i)] [(3,.bS 3 1 ((gn w i).map enc))]) (fun i=>i≤5) (fun i=>5-i) 0 (by omega) ?_ (fun i hi =>?_))
 ·refine aE.pT 3 3 3 1 1 ?_ ?_ ?_
  ·simp only[oG,Nat.reduceEqDiff,reduceIte]
  ·simp only[oG]
  ·simp only[gn,List.map_nil,List.length_nil]
   refine aE.bP ?_ ?_ ?_ ?_ <;>simp[aT,bJ,bI,bd,al,aV,cw,I.only,I.bV,ah.only]
 ·refine U.seq (U.seq ?_)
  refine .bj (by decide +kernel) fun K hK =>?_
  simp only[DG,J,simprocAttr]
  refine .done (hK _ ?_);clear hK K;try simp only[ao]
  refine U.bD ?_
  simp only[ar,J,simprocAttr]
  refine ⟨fun h =>?_,fun h =>?_⟩
  ·have hlt:i<5:=by simp at h;omega
   have hml:=wR w i
   refine U.skip ?_;try simp only[ao,simprocAttr]
   refine U.seq (U.block ?_)
   refine .ak (by decide +kernel) fun K hK =>?_
   simp only[DH,J,simprocAttr]
   refine .done (hK _ ?_);clear hK K
   refine U.bD ?_
   simp only[ar,J,simprocAttr]
   refine ⟨fun h =>?_,fun h =>?_⟩
   ·have hb:gF w i=true:=h
    refine .bj (by decide +kernel) fun K hK =>?_
    simp only[DI,J,simprocAttr]
    rw[nA 3 1 8 3 rfl rfl (by simp) (by simp[maxLen];omega) (by simp;omega)]
    try simp only[J,simprocAttr]
    refine .done (hK _ ?_);clear hK K;try simp only[ao,bH]
    refine .bj (by decide +kernel) fun K hK =>?_
    simp only[vp,J,simprocAttr]
    refine .done (hK _ ?_);clear hK K;try simp only[ao]
    refine ⟨i+1,by omega,by omega,?_⟩
    rw[cA _ (by omega) (by omega)]
    simp only[gn,hb,reduceIte]
    refine aE.bP ?_ ?_ ?_ ?_ <;>simp[aT,bJ,bI,bd,al,aV,cw,I.only,I.bV,ah.only,eh,gw,iZ]
   ·have hb:gF w i=false:=h
    refine U.skip ?_;try simp only[ao,bH,simprocAttr]
    refine .bj (by decide +kernel) fun K hK =>?_
    simp only[vp,J,simprocAttr]
    refine .done (hK _ ?_);clear hK K;try simp only[ao]
    refine ⟨i+1,by omega,by omega,?_⟩
    rw[cA _ (by omega) (by omega)]
    simp only[gn,hb,reduceIte,Bool.false_eq_true,List.append_nil]
    refine aE.bP ?_ ?_ ?_ ?_ <;>simp[aT,bJ,bI,bd,al,aV,cw,I.only,ah.only,eh]
  ·have hge:i=5:=by simp at h;omega
   subst hge
   refine U.exit ?_;try simp only[ao,bH,simprocAttr]
   refine .ak (by decide +kernel) fun K hK =>?_
   simp only[DJ,J,simprocAttr]
   refine .done (hK _ ?_);clear hK K
   refine U.ret ?_
   try simp only[J,simprocAttr]
theorem Om(m:aM 5 Int):aB Tryz.prog 99 [enc m] (enc (if (List.range 5).all (fun i=>cm 0 31 (m.g i)&&gF (m.g i) i) then (0:Int) else 11)):=by
 refine aB.bu Tryz.func99 Rh S1 U0 (Nat.le_of_ble_eq_true rfl) (fun hwf W0 D0 E1 =>?_)
 simp only[Ba,LL,bp]
 refine .ak (by decide +kernel) fun K hK =>?_
 simp only[H7,J,simprocAttr]
 refine .done (hK _ ?_);clear hK K
 refine U.seq ?_
 refine .ak (by decide +kernel) fun K hK =>?_
 simp only[H8,J,simprocAttr]
 refine .done (hK _ ?_);clear hK K
 refine U.block (U.loop (fun i:Nat=>au [(1,.ptr 1 []),(2,.int .i64 0),(3,.int .i64 i)] [(1,.box (enc m))]) (fun j=>j≤5∧∀ i,i<j→(cm 0 31 (m.g i)&&gF (m.g i) i)=true) (fun i=>5-i) 0 ⟨by omega,fun k h=>by omega⟩ ?_ (fun i hi =>?_))
 ·refine aE.bP ?_ ?_ ?_ ?_ <;>simp[aT,bJ,bI,bd,al,aV,cw,I.only,ah.only,bt]
 ·refine U.seq (U.seq ?_)
  refine .bj (by decide +kernel) fun K hK =>?_
  simp only[H9,J,simprocAttr]
  refine .done (hK _ ?_);clear hK K;try simp only[ao]
  refine U.bD ?_
  simp only[ar,J,simprocAttr]
  refine ⟨fun h =>?_,fun h =>?_⟩
  ·have hlt:i<5:=by simp at h;omega
   refine U.skip ?_;try simp only[ao,simprocAttr]
   refine U.seq (U.block ?_)
   refine .ak (by decide +kernel) fun K hK =>?_
   simp only[Ia,J,simprocAttr]
   try simp only[bK,jb 1 m hlt rfl,eF m hlt,J,simprocAttr]
   refine .flat _ (yN _ 0 31) rfl ?_
   generalize hb:(decide (0≤m.g i)&&decide (m.g i≤31))=b
   cases b
   ·try simp only[J,simprocAttr]
    refine .done (hK _ ?_);clear hK K
    refine U.bD ?_
    simp only[ar,J,simprocAttr]
    refine ⟨fun h =>?_,fun h =>?_⟩
    ·refine .ak (by decide +kernel) fun K hK =>?_
     simp only[vP,J,simprocAttr]
     refine .done (hK _ ?_);clear hK K
     refine U.ret ?_
     simp only[bH,ao,J,simprocAttr]
     rw[ny i hlt]
     ·simp
     ·simp only[cm,hb,Bool.false_and]
    ·cases h
   ·try simp only[bK,jb 1 m hlt rfl,eF m hlt,J,simprocAttr]
    refine .done (hK _ ?_);clear hK K
    refine U.bD ?_
    simp only[ar,J,simprocAttr]
    refine ⟨fun h =>?_,fun h =>?_⟩
    ·refine .ak (by decide +kernel) fun K hK =>?_
     simp only[vP,J,simprocAttr]
     refine .done (hK _ ?_);clear hK K
     refine U.ret ?_
     simp only[bH,ao,J,simprocAttr]
     rw[ny i hlt]
     ·simp
     ·simp only[cm,hb,Bool.true_and,gF,nB,shl]
      simpa using h
    ·refine U.skip ?_;try simp only[ao,bH,simprocAttr]
     refine .bj (by decide +kernel) fun K hK =>?_
     simp only[Ib,J,simprocAttr]
     refine .done (hK _ ?_);clear hK K;try simp only[ao]
     refine ⟨i+1,⟨by omega,fun k hk =>?_⟩,by omega,?_⟩
     ·by_cases hk':k=i
      ·subst hk'
       simp only[cm,hb,Bool.true_and,gF,nB,shl]
       simpa using h
      ·exact hi.2 k (by omega)
     ·rw[cA _ (by omega) (by omega)]
      refine aE.bP ?_ ?_ ?_ ?_ <;>simp[aT,bJ,bI,bd,al,aV,cw,I.only,ah.only,bt]
  ·have hge:i=5:=by simp at h;omega
   subst hge
   refine U.exit ?_;try simp only[ao,bH,simprocAttr]
   refine .ak (by decide +kernel) fun K hK =>?_
   simp only[Ic,J,simprocAttr]
   refine .done (hK _ ?_);clear hK K
   refine U.ret ?_
   simp only[J,simprocAttr]
   rw[pU hi.2]
   simp
theorem yG(a b:List Int):aB Tryz.prog 20 [enc a,enc b] (enc (decide (a=b))):=by
 refine aB.bu Tryz.func20 QA Sk Uk (Nat.le_of_ble_eq_true rfl) (fun hwf W0 D0 E1 =>?_)
 simp only[As,K5,bp,Nat.zero_add]
 have hlen:a.length≤maxLen:=((kM a).1 hwf.1).1
 simp only[maxLen] at hlen
 refine .ak (by decide +kernel) fun K hK =>?_
 simp only[F3,J,simprocAttr]
 refine .done (hK _ ?_);clear hK K
 refine U.seq (U.seq ?_)
 refine .bj (by decide +kernel) fun K hK =>?_
 simp only[F4,J,simprocAttr]
 try simp only[bK,J,simprocAttr]
 refine .done (hK _ ?_);clear hK K;try simp only[ao]
 refine U.bD ?_
 simp only[ar,J,simprocAttr]
 refine ⟨fun h =>?_,fun h =>?_⟩
 ·refine .ak (by decide +kernel) fun K hK =>?_
  simp only[F5,J,simprocAttr]
  refine .done (hK _ ?_);clear hK K
  refine U.ret ?_
  simp only[ao,J,simprocAttr]
  simp at h
  have:a≠b:=fun e=>h (by rw[e])
  simp[this]
 ·have hab:a.length=b.length:=by simp at h;omega
  refine U.skip ?_;try simp only[ao,simprocAttr]
  refine U.seq ?_
  refine .ak (by decide +kernel) fun K hK =>?_
  simp only[F6,J,simprocAttr]
  refine .done (hK _ ?_);clear hK K
  refine U.block (U.loop (fun i:Nat=>au [(0,enc a),(1,enc b),(5,.int .i64 i)] []) (fun i=>i≤a.length∧a.take i=b.take i) (fun i=>a.length-i) 0 ⟨Nat.zero_le _,by simp⟩ ?_ (fun i hi =>?_))
  ·refine aE.bP ?_ ?_ ?_ ?_ <;>simp[aT,bJ,bI,bd,aV,I.only,bt]
  ·refine U.seq (U.seq ?_)
   refine .bj (by decide +kernel) fun K hK =>?_
   simp only[F7,J,simprocAttr]
   try simp only[bK,J,simprocAttr]
   refine .done (hK _ ?_);clear hK K;try simp only[ao]
   refine U.bD ?_
   simp only[ar,J,simprocAttr]
   refine ⟨fun h =>?_,fun h =>?_⟩
   ·have hlt:i<a.length:=by simpa using h
    have hlb:i<b.length:=by omega
    refine U.skip ?_;try simp only[ao,simprocAttr]
    refine U.seq (U.block ?_)
    refine .ak (by decide +kernel) fun K hK =>?_
    simp only[F8,J,simprocAttr]
    try simp only[fL 1 hlt rfl,fL 1 hlb rfl,J,simprocAttr]
    refine .done (hK _ ?_);clear hK K
    refine U.bD ?_
    simp only[ar,J,simprocAttr]
    refine ⟨fun h =>?_,fun h =>?_⟩
    ·refine .ak (by decide +kernel) fun K hK =>?_
     simp only[F9,J,simprocAttr]
     refine .done (hK _ ?_);clear hK K
     refine U.ret ?_
     simp only[bH,ao,J,simprocAttr]
     have hne:a≠b:=fun e=>by subst e;simp at h
     simp[hne]
    ·refine U.skip ?_;try simp only[ao,bH,simprocAttr]
     refine .bj (by decide +kernel) fun K hK =>?_
     simp only[Ga,J,simprocAttr]
     refine .done (hK _ ?_);clear hK K;try simp only[ao]
     refine ⟨i+1,⟨by omega,?_⟩,by omega,?_⟩
     ·rw[List.take_succ_eq_append_getElem hlt,List.take_succ_eq_append_getElem hlb,hi.2]
      simp at h
      rw[h]
     ·rw[cA _ (by omega) (by omega)]
      refine aE.bP ?_ ?_ ?_ ?_ <;>simp[aT,bJ,bI,bd,aV,I.only,bt]
   ·have hge:i=a.length:=by simp at h;omega
    refine U.exit ?_;try simp only[ao,bH,simprocAttr]
    refine .ak (by decide +kernel) fun K hK =>?_
    simp only[Gb,J,simprocAttr]
    refine .done (hK _ ?_);clear hK K
    refine U.ret ?_
    simp only[J,simprocAttr]
    have:a=b:=by
     have:=hi.2
     rw[hge,List.take_length] at this
     rw[hab,List.take_length] at this
     exact this
    simp[this]
def cU(m:bX)(i:Nat):b7:=m.given.getD i ⟨0,⟨List.replicate 6 0,rfl⟩⟩
theorem ja{m:bX}{i:Nat}(h:i<m.given.length):m.given[i]=cU m i:=by simp[cU,List.getD_eq_getElem?_getD,h]
theorem wm{A:ab}{m:bX}{i:Nat}(h:i<m.given.length):ic A 7 (i:Int) (enc m.given)=some (.ref (enc (cU m i))):=by
 rw[fL 7 h rfl,ja h]
def gR(w:aM 5 Int):Bool:=(List.range 5).all (fun i=>cm 0 31 (w.g i)&&gF (w.g i) i)
theorem On(w:aM 5 Int):aB Tryz.prog 99 [enc w] (enc (if gR w then (0:Int) else 11)):=Om w
theorem M5(m:aM 6 Int):aB Tryz.prog 100 [enc m] (enc (if dH m then (0:Int) else 10)):=M4 m
def jK(m:bX)(a b:aM 6 Int):Bool:=decide ((ev (iy m.eC a b) 6:Int)≤IntKind.i64.wrap (2*m.ew))
def gq(m:bX)(i:Nat):Bool:=cm 1 99 (cU m i).bN&&(dH (cU m i).mark&&((i==0||decide ((cU m (i-1)).bN<(cU m i).bN))&&(List.range i).all (fun j => !jK m (cU m j).mark (cU m i).mark)))
def ee(m:bX):Bool:=gR m.eC&&(cm 0 2 m.ew&&(decide (m.given.length≤40)&&(List.range m.given.length).all (gq m)))
theorem xg{m:bX}{i:Nat}(h:gq m i=true):dH (cU m i).mark=true:=by
 simp only[gq,Bool.and_eq_true] at h
 exact h.2.1
end Go.Proofs.YtcldiigclhgafaaGreat
