/-
  A part of the proof that the law HerdLists returns true for every input; conditions: none beyond the statement's own. (part 3 of 7)
-/
import Derived.RangeFuncIn
import Derived.Laws.Externs
import Derived.ProofKit
import Derived.SizedLaws
import Derived.Test.YtcldiigclhgafaaGreatChecked
import Derived.KernelRfl
import Derived.Test.YtcldiigclhgafaaGreatNcb
set_option linter.unusedSimpArgs false
set_option linter.unusedVariables false
set_option maxHeartbeats 16000000
set_option maxRecDepth 100000
namespace Go.Abs
open Go Go.RowKit
open Enc (enc)
mutual
theorem iN{p q:Nat→Bool}(h:∀ n,p n=true→q n=true):∀ x:I,x.only p=true→x.only q=true
 | .agg fs,hx | .tuple fs,hx=>by simp only[I.only] at *;exact iq h fs hx
 | .slice _ es,hx=>by simp only[I.only] at *;exact iq h es hx
 | .ref x,hx=>by simp only[I.only] at *;exact iN h x hx
 | .func _ caps,hx=>by simp only[I.only] at *;exact iq h caps hx
 | .iface _ v,hx=>by simp only[I.only] at *;exact iN h v hx
 | .ptr _ _,hx | .own _ _,hx | .view _ _ _ _ _,hx | .mref _,hx | .dj _,hx=>by simp only[I.only] at *;exact h _ hx
 | .cS ks vs,hx=>by simp only[I.only,Bool.and_eq_true] at *;exact ⟨iq h ks hx.1,iq h vs hx.2⟩
 | .bool _,_ | .int _ _,_ | .cX _,_ | .nilp,_ | .de,_ | .dQ,_ | .raw _,_ | .nils _,_ | .c0 _,_ | .undef,_ | .db,_=>by simp[I.only]
theorem iq{p q:Nat→Bool}(h:∀ n,p n=true→q n=true):∀ xs:List I,I.bU p xs=true→I.bU q xs=true
 | [],_=>rfl
 |x::xs,hx=>by
  simp only[I.bU,Bool.and_eq_true] at *
  exact ⟨iN h x hx.1,iq h xs hx.2⟩
end
theorem ai.iN{p q:Nat→Bool}(h:∀ n,p n=true→q n=true)(x:ai)(hx:x.only p=true):x.only q=true:=by
 cases x with
 |box y=>simp only[ai.only] at *;exact Abs.iN h y hx
 |bX T sz es=>simp only[ai.only] at *;exact iq h es hx
 |dJ o=>rfl
 |cU T xs=>rfl
 |ct ks vs=>simp only[ai.only,Bool.and_eq_true] at *;exact ⟨iq h ks hx.1,iq h vs hx.2⟩
 |it ks vs left cur=>simp only[ai.only,Bool.and_eq_true] at *;exact ⟨iq h ks hx.1,iq h vs hx.2⟩
theorem Ij{x:I}(h:x.bu=true):x.cq=true:=by
 cases x <;>first | rfl | simp[I.bu] at h
theorem uk{aD:Bool}{A0:af}{ρ:List (Nat×Nat)}{os:List (Nat×ai)} : ∀ xs:List I,I.bV xs=true→iZ aD A0 ρ os xs xs
 | [],_=>trivial
 |x::xs,h=>by
  simp only[I.bV,Bool.and_eq_true] at h
  exact ⟨.inl ⟨(qD _ x h.1).symm,l5 _ x h.1,Ij h.1⟩,uk xs h.2⟩
structure fk (os os':List (Nat×ai)):Prop where
 same:∀ m,au os' m=au os m
 ok:∀ m x,al os' m=some x→x.only (au os')=true∧x.eC=true
 nu:∀ m,au os m=true→1000000≤m
def ud(P:Program)(g:FuncId)(caps:List I)(N:Nat)(item:Nat→List I):Prop :=
 ∀ (Y:Value→List I→List (Nat×ai)→cR→Prop) (v:Value) (aj:Nat→List (Nat×ai)→Prop) (Ix:List (Nat×ai)→Prop) (os:List (Nat×ai)),v.oneCell'=true →
  (∀ k os' post,k<N→aj k os'→(∀ r os2,(r=.bool true∧aj (k+1) os2)∨(r=.bool false∧Ix os2)→post r os2)→Y v (item k) os' post) →
  (∀ k os',aj k os'→fk os os')→(∀ os',Ix os'→fk os os')→aj 0 os→j8 P g Y (.raw v::caps) os (fun r os'=>r=.tuple []∧(aj N os'∨Ix os'))
def dE(o:Obj)(os:List (Nat×ai)):List (Nat×ai):=(1999999,.dJ o)::os
theorem lg(o:Obj)(os:List (Nat×ai))(m:Nat):au (dE o os) m=(decide (m=1999999)||au os m):=by
 simp only[dE,au,al]
 by_cases h:m=1999999 <;>simp[h]
theorem oW(o:Obj)(os:List (Nat×ai))(m:Nat):al (dE o os) m=if m=1999999 then some (.dJ o) else al os m:=rfl
theorem fk.dE{os os':List (Nat×ai)}(h:fk os os')(o o':Obj):fk (dE o os) (dE o' os'):=by
 refine ⟨fun m=>by rw[lg,lg,h.same],fun m x hx =>?_,fun m hm =>?_⟩
 ·rw[oW] at hx
  split at hx
  ·cases hx;exact ⟨rfl,rfl⟩
  ·obtain ⟨h1,h2⟩:=h.ok m x hx
   exact ⟨x.iN (fun n hn=>by rw[lg,hn];simp) h1,h2⟩
 ·rw[lg] at hm
  simp only[Bool.or_eq_true,decide_eq_true_eq] at hm
  rcases hm with rfl | hm
  ·decide
  ·exact h.nu m hm
def qA:List Nat→List I→List (Nat×I)→List (Nat×I)
 |p::ps,v::vs,ts=>qA ps vs ((p,v)::ts)
 |_,_,ts=>ts
def mq(ρ:List (Nat×Nat))(p:Nat→Bool)(ts:List (Nat×I)):List (Nat×I)→Prop
 | []=>True
 |(k,v)::r=>b8 ts k=v.aS (bF ρ)∧v.only p=true∧mq ρ p ts r
theorem LY{ρ:List (Nat×Nat)}{p:Nat→Bool}{ts:List (Nat×I)} : ∀ {tsR:List (Nat×I)},mq ρ p ts tsR→∀ k,b8 tsR k=.db∨(b8 ts k=(b8 tsR k).aS (bF ρ)∧(b8 tsR k).only p=true)
 | [],_,k=>.inl rfl
 |(j,v)::r,h,k=>by
  simp only[mq] at h
  simp only[b8]
  split
  ·rename_i hk;subst hk;exact .inr ⟨h.1,h.2.1⟩
  ·exact LY h.2.2 k
section
variable {c:cQ} {a:Act} {w:World} {D:aQ} {E:aX}
theorem aU.yc{A:af}(h:aU c A a w D E){n b:Nat}{o o':Obj}(hn:A.o n=some (.dJ o))(aw:E n=some (.op b))(ho:oT o'=true):aU c (A.aR n (.dJ o')) a (w.putObj b o') D E:=by
 have hob:=h.bQ n
 rw[hn] at hob
 obtain ⟨b',k1,k2,k3,k4,k5⟩:=hob
 rw[aw] at k1
 cases k1
 have hnc:o.isCells=false:=by cases o <;>first | rfl | cases k4
 have hlt:b<w.heap.size:=fI k3
 have hl:dM w D E (w.putObj b o') D E:=⟨fun _ _ h=>h,fun b1 o1 v _ hv=>uH k3 hnc hv,fun _ _ _ h=>h,fun _ aE l h=>⟨aE,l,h,Nat.le_refl _,fun _=>rfl⟩,fun _ _ h=>h,fun _ _ h=>h,fun b1 es ck hd hm=>(World.putObj_heap_other (fun e1=>k5 0 (by rw[←e1];exact hd))).trans hm⟩
 refine ⟨h.sz,h.eG.mono fun B _ hB=>(World.putObj_heap_other (fun e=>by rw[e,k3] at hB;cases hB;cases k4)).trans hB,fun t=>aW.bK hl (h.ed t),h.dR.trans ⟨rfl,rfl,rfl,by simp,fun k hk=>World.putObj_heap_other (fun e=>hk (e▸k2))⟩,h.cZ,
  fun b1 o1 hd=>by have:=h.dc b1 o1 hd;simpa using this,fun m =>?_,h.cT,h.dT,h.eQ,h.cJ,h.eU,h.kE hl⟩
 simp only[af.aR]
 by_cases hm:m=n
 ·subst hm
  simp only[if_true,c5]
  exact ⟨b,aw,k2,World.putObj_heap_same hlt,ho,k5⟩
 ·simp only[if_neg hm]
  exact (h.bQ m).bK hl rfl fun e b1 he hb=>⟨World.putObj_heap_other (fun e1=>hm (h.cT m n e _ b1 he aw hb (by rw[e1];rfl))),fun _ ho=>ho⟩
theorem aU.Wu{A:af}(h:aU c A a w D E){n b:Nat}(aw:E n=some (.op b)):aU c ⟨A.t,fun m=>if m=n then none else A.o m⟩ a w D (fun m=>if m=n then none else E m):=by
 have hne:∀ {m:Nat} {e:bR},E m=some e→(∀ b,e≠.op b)→m≠n:=fun he h2 e'=>by
  subst e';rw[aw] at he;cases he;exact h2 _ rfl
 have hl:dM w D E w D (fun m=>if m=n then none else E m):=by
  refine ⟨fun _ _ h=>h,fun _ _ _ _ h=>h,fun m b aT he =>?_,fun m aE l he=>⟨aE,l,?_,Nat.le_refl _,fun _=>rfl⟩,fun m b he =>?_,fun m b he =>?_,fun _ _ _ _ h=>h⟩
  ·simp only[if_neg (hne he (fun b=>by simp))];exact he
  ·simp only[if_neg (hne he (fun b=>by simp))];exact he
  ·simp only[if_neg (hne he (fun b=>by simp))];exact he
  ·simp only[if_neg (hne he (fun b=>by simp))];exact he
 refine ⟨h.sz,h.eG,fun t=>aW.bK hl (h.ed t),h.dR,h.cZ,h.dc,fun m =>?_,fun m m' e e' b h1 h2 h3 h4 =>?_,fun m e hm =>?_,h.eQ,h.cJ,h.eU,h.fv⟩
 ·by_cases hm:m=n
  ·simp only[hm,if_true,c5]
  ·simp only[if_neg hm]
   exact (h.bQ m).bK hl (by simp only[if_neg hm]) fun _ _ _ _=>⟨rfl,fun _ ho=>ho⟩
 ·split at h1
  ·cases h1
  ·split at h2
   ·cases h2
   ·exact h.cT m m' e e' b h1 h2 h3 h4
 ·by_cases hmn:m=n
  ·left;simp only[hmn,if_true]
  ·simp only[if_neg hmn];exact h.dT m e hm
theorem aU.enter{ts:List (Nat×I)}{os0:List (Nat×ai)}(h:aU c (av ts os0) a w D E)(hfree:al os0 999999=none)(hE0:c.dp 999999=none){o:Obj}(ho:oT o=true) :
  ∃ E1,aU c (av ts ((999999,.dJ o)::os0)) { a with defers := { target:=.collected w.heap.size,args := #[] } :: a.defers } ((w.alloc (.deferred (some []))).alloc o) D E1∧E1 999999=some (.op (w.heap.size+1))∧∀ xs vs,aG w D E xs vs→aG ((w.alloc (.deferred (some []))).alloc o) D E1 xs vs:=by
 have hb:Below w.heap.size w ((w.alloc (.deferred (some []))).alloc o):=((Below.refl _ w).alloc (Nat.le_refl _) _).alloc (by simp) _
 have h1:=h.grow (D':=D) hb (fun _ _ h=>h) (fun _ _ h _=>h) (fun b o' hd=>by have:=h.dc b o' hd;simp;omega)
 obtain ⟨W,hW⟩:∃ W,W=(w.alloc (.deferred (some []))).alloc o:=⟨_,rfl⟩
 have hL:W.heap[w.heap.size+1]?=some o:=by
  rw[hW];have:=World.alloc_heap_new (w.alloc (.deferred (some []))) o;rwa [World.size_alloc] at this
 have hK:W.heap[w.heap.size]?=some (.deferred (some [])):=by
  rw[hW];exact (Below.heap_alloc _ _ _ (by simp)).trans (World.alloc_heap_new w _)
 rw[←hW] at h1 hb ⊢
 have hEn:E 999999=none:=by have:=h.bQ 999999;simp only[av,hfree] at this;exact this
 have hl:dM W D E W D (fun m=>if m=999999 then some (.op (w.heap.size+1)) else E m):=by
  refine ⟨fun _ _ h=>h,fun _ _ _ _ h=>h,fun m b aT he =>?_,fun m aE l he=>⟨aE,l,?_,Nat.le_refl _,fun _=>rfl⟩,fun m b he =>?_,fun m b he =>?_,fun _ _ _ _ h=>h⟩
  all_goals
   have:m≠999999:=fun e=>by rw[e,hEn] at he;cases he
   simp only[if_neg this];exact he
 have hsz:c.eT.heap.size≤w.heap.size:=h.dR.size
 have nb:∀ {m:Nat} {e:bR} {b:Nat},E m=some e→e.aE=some b→b<w.heap.size:=fun he hb'=>h.fH he hb'
 refine ⟨fun m=>if m=999999 then some (.op (w.heap.size+1)) else E m,⟨h1.sz,?_,fun t=>aW.bK hl (h1.ed t),h1.dR,h1.cZ,h1.dc,fun m =>?_,fun m m' e e' b g1 g2 g3 g4 =>?_,fun m e hm =>?_,h1.eQ,h1.cJ,h1.eU,h1.fv⟩,by simp,fun xs vs hx=>aG.bK hl xs vs (aG.bK (dM.grow hb fun _ _ h=>h) xs vs hx)⟩
 ·obtain ⟨Bs,k1,k2,k3⟩:=h1.eG
  refine ⟨w.heap.size::Bs,by simp only[List.map_cons];rw[←k1],List.nodup_cons.2 ⟨fun hin =>?_,k2⟩,fun B hB =>?_⟩
  ·obtain ⟨Bs',j1,_,j3⟩:=h.eG
   have e1:Bs=Bs':=by
    have:Bs.map (fun B=>({ target:=.collected B,args := #[] } : Deferred))=Bs'.map (fun B => { target:=.collected B,args := #[] }):=by rw[←k1,←j1]
    exact (List.map_inj_right (fun x y hxy=>by simpa using hxy)).1 this
   rw[e1] at hin
   have:=fI (j3 _ hin).2
   omega
  ·rcases List.mem_cons.1 hB with rfl | hB
   ·exact ⟨hsz,hK⟩
   ·exact k3 B hB
 ·simp only[av,al]
  by_cases hm:m=999999
  ·subst hm
   simp only[if_true,c5]
   exact ⟨_,rfl,.inl (by omega),hL,ho,fun o' hd=>by have:=h.dc _ o' hd;omega⟩
  ·simp only[if_neg hm]
   exact (h1.bQ m).bK hl (by simp only[if_neg hm]) fun _ _ _ _=>⟨rfl,fun _ ho=>ho⟩
 ·by_cases hm:m=999999 <;>by_cases hm':m'=999999
  ·rw[hm,hm']
  ·simp only[if_pos hm,Option.some.injEq] at g1
   simp only[if_neg hm'] at g2
   subst g1
   simp only[bR.aE,Option.some.injEq] at g3
   have:=nb g2 g4;omega
  ·simp only[if_neg hm] at g1
   simp only[if_pos hm',Option.some.injEq] at g2
   subst g2
   simp only[bR.aE,Option.some.injEq] at g4
   have:=nb g1 g3;omega
  ·simp only[if_neg hm] at g1;simp only[if_neg hm'] at g2;exact h.cT m m' e e' b g1 g2 g3 g4
 ·have hmn:m≠999999:=fun e=>by rw[e,hE0] at hm;cases hm
  simp only[if_neg hmn]
  exact h.dT m e hm
theorem c5.lW{M M':Nat→Prop}{n:Nat}{x:Option ai}(h:c5 M w D E n x)(hM:∀ e b,E n=some e→e.aE=some b→M' b):c5 M' w D E n x:=by
 unfold c5 at *
 split
 ·exact h
 ·obtain ⟨b,cs,T,h1,_,h3⟩:=h
  exact ⟨b,cs,T,h1,hM _ b h1 rfl,h3⟩
 ·obtain ⟨aE,h1,h2,h3⟩:=h
  refine ⟨aE,h1,h2,?_⟩
  split
  ·exact h3
  ·obtain ⟨cs,pre,rest,_,h4⟩:=h3
   exact ⟨cs,pre,rest,hM _ _ h1 rfl,h4⟩
 ·obtain ⟨b,h1,_,h3⟩:=h
  exact ⟨b,h1,hM _ b h1 rfl,h3⟩
 ·obtain ⟨b,es,ck,h1,_,h3⟩:=h
  exact ⟨b,es,ck,h1,hM _ b h1 rfl,h3⟩
 ·obtain ⟨r,b,es,ck,si,se,la,h1,_,h3⟩:=h
  exact ⟨r,b,es,ck,si,se,la,h1,hM _ r h1 rfl,h3⟩
 ·obtain ⟨aE,h1,h2,h3⟩:=h
  refine ⟨aE,h1,h2,?_⟩
  split
  ·exact h3
  ·obtain ⟨cs,m,_,h4⟩:=h3
   exact ⟨cs,m,hM _ _ h1 rfl,h4⟩
theorem aU.Jr{os:List (Nat×ai)} : ∀ (ps:List Nat) (vs:List Value) (xs:List I) (ts:List (Nat×I)) (a:Act),aU c (av ts os) a w D E→(∀ p∈ps,p<c.n)→aG w D E xs vs→ps.length=vs.length →
  aU c (av (qA ps xs ts) os) { a with tmps:=(ps.zip vs).foldl (fun t q=>t.setIfInBounds q.1 q.2) a.tmps } w D E
 | [],[],xs,ts,a,h,_,hv,_=>by
  cases xs with
  |nil=>exact h
  |cons x xs=>simp[aG] at hv
 | [],_::_,_,_,_,_,_,_,hl=>by simp at hl
 |_::_,[],_,_,_,_,_,_,hl=>by simp at hl
 |p::ps,v::vs,xs,ts,a,h,hp,hv,hl=>by
  cases xs with
  |nil=>simp[aG] at hv
  |cons x xs =>
   simp only[aG] at hv
   obtain ⟨v',rest,cs,e,h1,h2,h3⟩:=hv
   simp only[List.cons.injEq] at e
   obtain ⟨rfl,rfl⟩:=e
   have h4:=h.put (hp p (by simp)) (lX h1 h2)
   rw[sI] at h4
   have:=aU.Jr ps vs xs ((p,x)::ts) (a.put (some p) v) h4 (fun q hq=>hp q (by simp[hq])) h3 (by simpa using hl)
   exact this
end
end Go.Abs
namespace Go.Abs
open Go Go.RowKit
def iT:b5→Bool
 | .mv _ | .pick .. | .bin .. | .eqv .. | .conv .. | .un .. | .fl .. | .ix .. | .lenT _ | .bld .. | .ext .. | .mk .. | .nilC _ | .ptrE .. =>true
 | .ld .. | .fa .. | .ia .. | .is .. | .len _ | .va .. | .bs .. | .sl .. | .cap _ | .bs0 _ | .lk .. =>true
 |_=>false
def sW:b5→Bool
 | .alloc _ | .box _ | .bx .. | .call .. | .en .. | .dq .. =>true
 |op=>iT op
def oU(hs:List FuncId):b5→Bool
 | .alloc _ | .box _=>true
 | .call f _ => !hs.contains f
 |op=>iT op
abbrev eM:=List (Nat×List Nat)
def jj(aA:eM)(s:Nat):Option (List Nat):=(aA.find? fun q=>q.1==s).map (·.2)
def eW(aA:eM)(A:af):Prop:=∀ s ns,jj aA s=some ns→(A.t s).only (fun n=>ns.contains n)=true
def qj(aA:eM):aJ→Option (List Nat)
 | .t s=>jj aA s
 | .c x=>if x.bu then some [] else none
def tF(a:Option (List Nat))(ns:List Nat):Bool:=match a with
 |some ms=>ms.all fun m=>ns.contains m
 |none=>false
def jn(aA:eM)(g:aB):Bool:=match g.dst with
 |none=>true
 |some d=>match jj aA d with
  |none=>true
  |some ns=>match g.op with
   | .mv x | .nilC x | .fa _ _ x | .ia _ _ x _=>tF (qj aA x) ns
   | .bin .. | .len _ | .bs .. | .bs0 _ | .conv .. | .lenT _=>true
   | .box _ | .alloc _=>ns.contains d
   |_=>false
def mS:b5→Option (List Nat)
 | .ld _ (.t x) | .fa _ _ (.t x) | .ia _ _ (.t x) _ | .is _ (.t x) _ | .len (.t x) | .va _ _ (.t x) | .sl _ (.t x) _ _ _ | .cap (.t x) | .lk _ _ _ (.t x) _=>some [x]
 | .bs _ ps=>if (ps.all fun x=>match x with | .t _=>true | .c _=>false)=true then some (jI ps) else none
 | .bs0 _=>some []
 |op=>if op.gl=0∧iT op=true then some [] else none
def rr(aA:eM)(g:aB)(p:Nat→Bool):Bool:=match mS g.op with
 |some xs=>xs.all fun s=>match jj aA s with | some ns=>ns.all p | none=>false
 |none=>false
def nK(hs:List FuncId)(aA:eM)(g h:aB):Bool:=oU hs h.op||match h.op with
 | .bx _ (.t y) _=>match mS g.op with
  |some []=>true
  |_=>match jj aA y with
   |some ms=>rr aA g fun n => !ms.contains n
   |none=>false
 | .bx .. =>match mS g.op with
  |some []=>true
  |_=>false
 | .dq _ _ _ _ s _=>rr aA g (fun _=>false)||tF (qj aA s) []
 |_=>false
def nz(hs:List FuncId)(aA:eM)(g h:aB):Bool:=iT g.op&&(nK hs aA g h&&((match g.dst with
  |some d => !h.cY.contains d&&h.dst != some d
  |none=>true)&&(match h.dst with
  |some d => !g.cY.contains d
  |none=>true)))
theorem we{op:b5}(h:iT op=true)(A:af)(dst:Option Nat)(rest:List aB)(k:af→cE):bl A dst op rest k=cL (br A op) fun v=>k (A.aO dst v):=by
 cases op <;>first | rfl | cases h
inductive cC (P:Program) (hs:List FuncId) (K:af→Prop):cE→Prop where
 |done {A:af} : K A→cC P hs K (.done A)
 |flat {f:FuncId} {avs cargs:List I} {a2:Option (List I)} {dst:Option Nat} {rest:List aB} {A:af} (r:I):az P f cargs r→r.flat=true→cC P hs K (aC rest (A.aO dst r))→cC P hs K (.call f avs (some cargs) a2 dst rest A)
 |lead {f:FuncId} {avs cargs:List I} {a1:Option (List I)} {dst:Option Nat} {rest:List aB} {A:af} (r:I):az P f cargs r→cC P hs K (aC rest (A.aO dst r))→cC P hs K (.call f avs a1 (some cargs) dst rest A)
 |bQ {f:FuncId} {avs:List I} {a1 a2:Option (List I)} {dst:Option Nat} {rest:List aB} {ts:List (Nat×I)} {os0:List (Nat×ai)} (ρ:List (Nat×Nat)) (cargs:List I) (post:cR):cA P f cargs [] post →
   fy ρ [] os0→iZ false (av ts os0) ρ [] avs cargs→(∀ r os',post r os'→dn false ρ [] os0 r os') →
   (∀ r os',post r os'→cC P hs K (aC rest ((av ts (dF ρ os'++os0)).aO dst (r.aS (bF ρ)))))→cC P hs K (.call f avs a1 a2 dst rest (av ts os0))
 |any {p:Nat→Prop} {k:Nat→cE} : (∀ m,p m→cC P hs K (k m))→cC P hs K (.any p k)
 |xl {f:FuncId} {avs:List I} {a1 a2:Option (List I)} {dst:Option Nat} {rest:List aB} {ts:List (Nat×I)} {os0:List (Nat×ai)} (aD:Bool) (ρ:List (Nat×Nat)) (os:List (Nat×ai)) (cargs:List I) (post:cR):hs.contains f=true→cA P f cargs os post →
   fy ρ os os0→iZ aD (av ts (c4 (jD ρ os) os0)) ρ os avs cargs→(∀ r os',post r os'→dn aD ρ os os0 r os') →
   (∀ r os',post r os'→cC P hs K (aC rest ((av ts (dF ρ os'++os0)).aO dst (r.aS (bF ρ)))))→cC P hs K (.call f avs a1 a2 dst rest (av ts os0))
theorem Wt(os:List (Nat×ai)):c4 [] os=os:=by simp[c4]
section
variable {P:Program} {hs:List FuncId} {K:af→Prop} {Y:Value→List I→List (Nat×ai)→cR→Prop}
theorem cC.y9{p:Nat→Prop}{k:Nat→cE}(h:cC P hs K (.any p k)):∀ m,p m→cC P hs K (k m):=by cases h;assumption
theorem eW.put{aA:eM}{A B:af}(h:eW aA A)(ht:∀ k,B.t k=A.t k){dst:Option Nat}{v:I}(hv:∀ d,dst=some d→∀ ns,jj aA d=some ns→v.only (fun n=>ns.contains n)=true):eW aA (B.aO dst v):=by
 intro s ns hs'
 cases dst with
 |none=>exact (ht s).symm▸h s ns hs'
 |some d =>
  simp only[af.aO,af.put]
  by_cases hd:s=d
  ·rw[if_pos hd];exact hv d rfl ns (hd▸hs')
  ·rw[if_neg hd,ht];exact h s ns hs'
theorem qL{aA:eM}{A:af}(h:eW aA A){x:aJ}{ns:List Nat}(hx:tF (qj aA x) ns=true):(ae A x).only (fun n=>ns.contains n)=true:=by
 cases x with
 |c x =>
  simp only[qj] at hx
  split at hx
  ·rename_i hc;exact l5 _ x hc
  ·cases hx
 |t s =>
  simp only[qj] at hx
  cases hl:jj aA s with
  |none=>rw[hl] at hx;cases hx
  |some ms =>
   rw[hl] at hx
   simp only[tF,List.all_eq_true] at hx
   exact iN (fun n hn=>hx n (by simpa using hn)) _ (h s ms hl)
theorem OY{op:BinOp}{x y v:I}(p:Nat→Bool)(h:cF op x y=some v):v.only p=true:=by
 unfold cF at h
 (repeat' split at h) <;>first | (cases h;done) | (simp only[Option.some.injEq] at h;subst h;rfl)
theorem xC{p:Nat→Bool} : ∀ {xs:List I} {i:Nat} {x:I},I.bU p xs=true→xs[i]?=some x→x.only p=true
 | [],_,_,_,h=>by simp at h
 |a::xs,0,x,h,e=>by
  simp only[I.bU,Bool.and_eq_true] at h
  simp only[List.getElem?_cons_zero,Option.some.injEq] at e
  exact e▸h.1
 |a::xs,i+1,x,h,e=>by
  simp only[I.bU,Bool.and_eq_true] at h
  exact xC (xs:=xs) h.2 (by simpa using e)
theorem IZ{aA:eM}{A:af}{g:aB}(h:eW aA A)(hg:jn aA g=true){v:I}(hv:br A g.op=some v):∀ d,g.dst=some d→∀ ns,jj aA d=some ns→v.only (fun n=>ns.contains n)=true:=by
 intro d hd ns hn
 obtain ⟨dst,op,gd⟩:=g
 simp only at hd hv
 subst hd
 simp only[jn,hn] at hg
 cases op <;>simp only at hg <;>(try (cases hg;done)) <;>simp only[br] at hv <;>(try (cases hv;done))
 case mv x=>simp only[Option.some.injEq] at hv;exact hv▸qL h hg
 case nilC x =>
  have:=qL h hg
  generalize ae A x=aq at hv this
  cases aq <;>simp only[lY] at hv <;>first | (cases hv;done) | (simp only[Option.some.injEq] at hv;exact hv▸this)
 case bin op x y=>exact OY _ hv
 case conv k x=>split at hv <;>first | (cases hv;done) | (simp only[Option.some.injEq] at hv;subst hv;rfl)
 case lenT x=>split at hv <;>first | (cases hv;done) | (simp only[Option.some.injEq] at hv;subst hv;rfl)
 case len x=>(repeat' split at hv) <;>first | (cases hv;done) | (simp only[Option.some.injEq] at hv;subst hv;rfl)
 case bs0 e=>simp only[Option.some.injEq] at hv;subst hv;rfl
 case bs e ps =>
  split at hv
  ·split at hv
   ·rename_i hc
    simp only[Option.some.injEq] at hv;subst hv
    simp only[I.only];exact jX _ _ hc.2
   ·cases hv
  ·cases hv
 case fa f off x =>
  have hx:=qL h hg
  split at hv
  ·rename_i fs he
   rw[he] at hx
   simp only[I.only] at hx
   split at hv
   ·rename_i aq hu
    split at hv
    ·simp only[Option.some.injEq] at hv;subst hv
     simp only[I.only];exact xC hx hu
    ·cases hv
   ·cases hv
  ·rename_i n q he
   rw[he] at hx
   simp only[I.only] at hx
   split at hv
   ·split at hv
    ·simp only[Option.some.injEq] at hv;subst hv;simpa only[I.only] using hx
    ·cases hv
   ·cases hv
  ·cases hv
 case ia n esz x i =>
  have hx:=qL h hg
  split at hv
  case h_2=>cases hv
  split at hv
  case isFalse=>cases hv
  split at hv
  ·rename_i fs he
   rw[he] at hx
   simp only[I.only] at hx
   split at hv
   ·simp only[Option.map_eq_some_iff] at hv
    obtain ⟨aq,hu,rfl⟩:=hv
    simp only[I.only];exact xC hx hu
   ·cases hv
  ·rename_i m q he
   rw[he] at hx
   simp only[I.only] at hx
   split at hv
   ·split at hv
    ·simp only[Option.some.injEq] at hv;subst hv;simpa only[I.only] using hx
    ·cases hv
   ·cases hv
  ·cases hv
def ri(A:af)(dst:Option Nat)(s:I)(B:af):Prop:=(∀ t,dst≠some t→B.t t=A.t t)∧(s.only (fun _=>false)=true→ee A B)
def na(A:af)(dst:Option Nat)(s:I)(R:(af→cE)→cE):Prop :=
 (∀ k,R k=.fail)∨(∃ B,(∀ k,R k=k B)∧ri A dst s B)∨∃ (p:Nat→Prop) (bt:Nat→af),(∀ k,R k=.any p fun m=>k (bt m))∧∀ m,ri A dst s (bt m)
theorem qz{A B:af}{dst:Option Nat}{v:I}{t:Nat}(ht:∀ k,B.t k=A.t k)(h:dst≠some t):(B.aO dst v).t t=A.t t:=by
 cases dst with
 |none=>exact ht t
 |some d =>
  have:t≠d:=fun e=>h (by rw[e])
  simp only[af.aO,af.put,if_neg this]
  exact ht t
theorem Om(A:af)(dst:Option Nat)(esz bytes:Nat)(z s:I)(es ys:List I):na A dst s (fM A dst esz bytes z es ys):=by
 cases dst with
 |none=>exact .inl fun _=>rfl
 |some d =>
  cases ho:A.o d with
  |some y=>exact .inl fun k=>by simp only[fM,ho]
  |none =>
   by_cases hc:(es.length+ys.length)*bytes≤140737488355328∧es.length+ys.length≤maxLen
   ·refine .inr (.inr ⟨_,fun m=>(A.aR d (.box (.agg (es++(ys++List.replicate m z))))).aO (some d) (.view d [] esz 0 (es.length+ys.length)),fun k=>by simp only[fM,ho];rw[if_pos hc],fun m=>⟨fun t ht=>qz (A:=A) (B:=A.aR d _) (fun _=>rfl) ht,fun _ n y hy =>?_⟩⟩)
    have:n≠d:=fun e=>by rw[e,ho] at hy;cases hy
    rw[iu]
    simp only[af.aR,if_neg this];exact hy
   ·exact .inl fun k=>by simp only[fM,ho];rw[if_neg hc]
theorem Ot(A:af)(dst:Option Nat)(esz bytes:Nat)(z s:I)(es ys:Option (List I)):na A dst s (eY A dst esz bytes z s es ys):=by
 cases es with
 |none=>exact .inl fun _=>rfl
 |some es =>
  cases ys with
  |none=>exact .inl fun _=>rfl
  |some ys =>
   by_cases h0:ys=[]
   ·exact .inr (.inl ⟨A.aO dst s,fun k=>by simp only[eY,if_pos h0],fun t ht=>qz (A:=A) (fun _=>rfl) ht,fun _ n y hy=>by rw[iu];exact hy⟩)
   ·have gg:=fun s'=>Om A dst esz bytes z s' es ys
    cases s
    case nils=>simp only[na,eY,if_neg h0];exact gg _
    case c0=>simp only[na,eY,if_neg h0];exact gg _
    case view n p sz lo l =>
     cases ho:A.o n with
     |none=>exact .inl fun k=>by simp only[eY,if_neg h0,ho]
     |some y =>
      cases y with
      |box b =>
       cases hb:b.at p with
       |none=>exact .inl fun k=>by simp only[eY,if_neg h0,ho,hb]
       |some c =>
        cases c
        case agg fs =>
         by_cases h1:lo+l+ys.length≤fs.length
         ·by_cases h2:sz=esz∧I.cM ys=I.cM ((fs.drop (lo+l)).take ys.length)
          ·exact .inr (.inl ⟨(A.aR n (.box (gV b p (lo+l) fs ys))).aO dst (.view n p esz lo (l+ys.length)),fun k=>by simp only[eY,if_neg h0,ho,hb,if_pos h1];rw[if_pos h2],fun t ht=>qz (A:=A) (B:=A.aR n _) (fun _=>rfl) ht,fun h=>by simp[I.only] at h⟩)
          ·exact .inl fun k=>by simp only[eY,if_neg h0,ho,hb,if_pos h1];rw[if_neg h2]
         ·simp only[na,eY,if_neg h0,ho,hb,if_neg h1];exact gg _
        all_goals exact .inl fun k=>by simp only[eY,if_neg h0,ho,hb]
      |_=>exact .inl fun k=>by simp only[eY,if_neg h0,ho]
    all_goals exact .inl fun k=>by simp only[eY,if_neg h0]
theorem zc(A:af)(dst:Option Nat)(e esz bytes:Nat)(z:I)(s x:aJ)(rest:List aB):na A dst (ae A s) (bl A dst (.dq e esz bytes z s x) rest):=by
 generalize hs:ae A s=yk
 cases yk
 case own n l =>
  cases hx:ae A x
  case slice sz ys =>
   cases ho:A.o n with
   |none=>exact .inl fun k=>by simp only[bl,hs,hx,ho]
   |some y =>
    cases y with
    |bX T sz' es =>
     by_cases hc:xn e esz bytes l sz ys T sz' es
     ·exact .inr (.inl ⟨(A.aR n (.bX e esz (es++ys))).aO dst (.own n (es.length+ys.length)),fun k=>by simp only[bl,hs,hx,ho];rw[if_pos hc],fun t ht=>qz (A:=A) (B:=A.aR n _) (fun _=>rfl) ht,fun h=>by simp[I.only] at h⟩)
     ·exact .inl fun k=>by simp only[bl,hs,hx,ho];rw[if_neg hc]
    |cU T xs =>
     by_cases hc:xp e esz bytes l ys T xs z
     ·exact .inr (.inl ⟨(A.aR n (.cU e (xs++qd ys))).aO dst (.own n (xs.length+ys.length)),fun k=>by simp only[bl,hs,hx,ho];rw[if_pos hc],fun t ht=>qz (A:=A) (B:=A.aR n _) (fun _=>rfl) ht,fun h=>by simp[I.only] at h⟩)
     ·exact .inl fun k=>by simp only[bl,hs,hx,ho];rw[if_neg hc]
    |_=>exact .inl fun k=>by simp only[bl,hs,hx,ho]
  all_goals exact .inl fun k=>by simp only[bl,hs,hx]
 all_goals (simp only[na,bl,hs];exact Ot ..)
theorem xN{A:af}{d:Nat}{v:I}{n:Nat}{y:ai}{dst:Option Nat}{aq:I}(h:dst≠some d):((A.put d v).aR n y).aO dst aq=((A.aR n y).aO dst aq).put d v:=by
 cases dst with
 |none=>rfl
 |some e =>
  have:e≠d:=fun he=>h (by rw[he])
  simp only[af.aO,af.put,af.aR,af.mk.injEq,and_true]
  funext k
  by_cases h1:k=e <;>by_cases h2:k=d <;>simp_all
theorem aiF{A:af}{d:Nat}{v:I}{dst:Option Nat}{aq:I}(h:dst≠some d):(A.put d v).aO dst aq=(A.aO dst aq).put d v:=by
 cases dst with
 |none=>rfl
 |some e =>
  have:e≠d:=fun he=>h (by rw[he])
  simp only[af.aO,af.put,af.mk.injEq,and_true]
  funext k
  by_cases h1:k=e <;>by_cases h2:k=d <;>simp_all
theorem On{A:af}{d:Nat}{v:I}{dst:Option Nat}(h:dst≠some d)(esz bytes:Nat)(z:I)(es ys:List I)(k:af→cE):fM (A.put d v) dst esz bytes z es ys k=fM A dst esz bytes z es ys fun B=>k (B.put d v):=by
 cases dst with
 |none=>rfl
 |some e =>
  simp only[fM]
  have:(A.put d v).o=A.o:=rfl
  rw[this]
  cases A.o e with
  |some _=>rfl
  |none =>
   simp only
   split
   ·simp only[xN h]
   ·rfl
theorem Ou{A:af}{d:Nat}{v:I}{dst:Option Nat}(h:dst≠some d)(esz bytes:Nat)(z s:I)(es ys:Option (List I))(k:af→cE):eY (A.put d v) dst esz bytes z s es ys k=eY A dst esz bytes z s es ys fun B=>k (B.put d v):=by
 have ho:(A.put d v).o=A.o:=rfl
 cases es with
 |none=>rfl
 |some es =>
  cases ys with
  |none=>rfl
  |some ys =>
   simp only[eY]
   split
   ·rw[aiF h]
   ·cases s <;>simp only[On h,ho]
    rename_i n p sz lo l
    cases A.o n with
    |none=>rfl
    |some y =>
     cases y with
     |box b =>
      simp only
      cases b.at p with
      |none=>rfl
      |some c =>
       cases c <;>simp only[xN h]
     |_=>rfl
theorem Oz{A:af}{d:Nat}{v:I}{dst:Option Nat}(h:dst≠some d){e esz bytes:Nat}{z:I}{s x:aJ}(hag:dZ A (A.put d v) (s.sl++x.sl))(rest rest':List aB)(k:af→cE) :
  bl (A.put d v) dst (.dq e esz bytes z s x) rest k=bl A dst (.dq e esz bytes z s x) rest' fun B=>k (B.put d v):=by
 have ho:(A.put d v).o=A.o:=rfl
 have hsrc:∀ y,ec (A.put d v) esz y=ec A esz y:=fun y=>by cases y <;>rfl
 simp only[bl,da hag.l,da hag.r,hsrc]
 cases ae A s <;>simp only[Ou h]
 rename_i n l
 cases ae A x <;>simp only[ho]
 cases A.o n with
 |none=>rfl
 |some y=>cases y <;>simp only[xN h]
theorem cC.BA{aA:eM}{f:FuncId}{avs:List I}{a1 a2:Option (List I)}{dst:Option Nat}{rest:List aB}{A:af}(hi:eW aA A)(hd:∀ d,dst=some d→jj aA d=none)(h:cC P hs K (.call f avs a1 a2 dst rest A)) :
  a6 P Y false (fun B=>cC P hs K (aC rest B)∧eW aA B) (.call f avs a1 a2 dst [] A):=by
 have no:∀ {v:I},∀ d,dst=some d→∀ ns,jj aA d=some ns→v.only (fun n=>ns.contains n)=true:=fun d e ns hn=>by rw[hd d e] at hn;cases hn
 cases h with
 |flat r hc hf hw=>exact .flat r hc hf (.done ⟨hw,hi.put (fun _=>rfl) no⟩)
 |lead r hc hw=>exact .lead r hc (.done ⟨hw,hi.put (fun _=>rfl) no⟩)
 |bQ ρ cargs post hc hg ha hb hw=>exact .bQ false ρ [] cargs post rfl hc hg (by simp only[jD,List.map_nil,Wt];exact ha) hb fun r os' hp=>.done ⟨hw r os' hp,hi.put (B:=av _ (dF ρ os'++_)) (fun _=>rfl) no⟩
 |xl aD ρ os cargs post _ hc hg ha hb hw=>exact .bQ aD ρ os cargs post rfl hc hg ha hb fun r os' hp=>.done ⟨hw r os' hp,hi.put (B:=av _ (dF ρ os'++_)) (fun _=>rfl) no⟩
theorem cC.one{aA:eM}{A:af}{g:aB}{rest:List aB}(hi:eW aA A)(ho:sW g.op=true)(hL:jn aA g=true)(h:cC P hs K (bl A g.dst g.op rest (aC rest))):a6 P Y false (fun B=>cC P hs K (aC rest B)∧eW aA B) (bl A g.dst g.op [] (aC [])):=by
 have hval:=fun v (hv:br A g.op=some v)=>IZ hi hL hv
 obtain ⟨dst,op,gd⟩:=g
 simp only at ho h hval ⊢
 have pure:iT op=true→a6 P Y false (fun B=>cC P hs K (aC rest B)∧eW aA B) (bl A dst op [] (aC [])):=by
  intro hsm
  rw[we hsm] at h ⊢
  cases hv:br A op with
  |none=>rw[hv] at h;cases h
  |some v=>rw[hv] at h;exact .done ⟨h,hi.put (fun _=>rfl) (hval v hv)⟩
 have unl:(∀ ns d,dst=some d→jj aA d=some ns→jn aA ⟨dst,op,gd⟩=false)→∀ d,dst=some d→jj aA d=none:=fun h1 d hd=>by
  cases hn:jj aA d with
  |none=>rfl
  |some ns=>rw[h1 ns d hd hn] at hL;cases hL
 cases op with
 |alloc z =>
  cases dst with
  |none=>simp only[bl] at h;cases h
  |some d =>
   simp only[bl] at h ⊢
   split at h
   case h_2=>cases h
   refine .done ⟨h,hi.put (B:=A.aR d _) (dst:=some d) (fun _=>rfl) fun d' e ns hn =>?_⟩
   simp only[Option.some.injEq] at e;subst e
   simpa only[jn,hn,I.only] using hL
 |box x =>
  cases dst with
  |none=>simp only[bl] at h;cases h
  |some d =>
   simp only[bl] at h ⊢
   split at h
   case h_2=>cases h
   split at h
   case isFalse=>cases h
   rename_i hv
   rw[if_pos hv]
   refine .done ⟨h,hi.put (B:=A.aR d _) (dst:=some d) (fun _=>rfl) fun d' e ns hn =>?_⟩
   simp only[Option.some.injEq] at e;subst e
   simpa only[jn,hn,I.only] using hL
 |bx s x v =>
  cases dst with
  |some d=>simp only[bl] at h;cases h
  |none =>
   simp only[bl] at h ⊢
   split at h
   case h_2=>cases h
   rename_i n p hx
   split at h
   case h_2=>cases h
   rename_i b hb
   split at h
   case h_2=>cases h
   rename_i old hold
   split at h
   case isFalse=>cases h
   rename_i hok
   simp only[if_pos hok]
   exact .done ⟨h,fun s ns hn=>hi s ns hn⟩
 |call f args=>exact cC.BA hi (unl fun ns d e hn=>by subst e;simp only[jn,hn]) h
 |en x args =>
  have hu:=unl fun ns d e hn=>by subst e;simp only[jn,hn]
  simp only[bl] at h ⊢
  split at h
  ·exact cC.BA hi hu h
  ·cases h
  ·cases h
 |dq e esz bytes z s x =>
  have hu:=unl fun ns d e hn=>by subst e;simp only[jn,hn]
  have sr:∀ B,ri A dst (ae A s) B→eW aA B:=fun B hB t ns hn=>by
   rw[hB.1 t fun e=>by rw[hu t e] at hn;cases hn]
   exact hi t ns hn
  have hf:=zc A dst e esz bytes z s x
  rcases hf rest with h1 | ⟨B,h1,h2⟩ | ⟨p,bt,h1,h2⟩
  ·rw[h1] at h;cases h
  ·rw[h1] at h
   have:bl A dst (.dq e esz bytes z s x) [] (aC [])=aC [] B:=(show bl A dst (.dq e esz bytes z s x) [] (aC [])=bl A dst (.dq e esz bytes z s x) rest (aC []) from rfl).trans (h1 _)
   rw[this]
   exact .done ⟨h,sr B h2⟩
  ·rw[h1] at h
   have:bl A dst (.dq e esz bytes z s x) [] (aC [])=.any p fun m=>aC [] (bt m):=(show bl A dst (.dq e esz bytes z s x) [] (aC [])=bl A dst (.dq e esz bytes z s x) rest (aC []) from rfl).trans (h1 _)
   rw[this]
   exact .any rfl fun m hm=>.done ⟨h.y9 m hm,sr _ (h2 m)⟩
 |_=>first | exact pure rfl | cases ho
def fU(g:aB)(A:af)(v:I):Prop:=(ga A g∧v=.undef)∨(pass A g∧br A g.op=some v)
theorem cC.yf{A:af}{g:aB}{rest:List aB}(hs':iT g.op=true)(h:cC P hs K (aC (g::rest) A)):∃ v,fU g A v∧cC P hs K (aC rest (A.aO g.dst v)):=by
 have step:pass A g→cC P hs K (bl A g.dst g.op rest (aC rest))→∃ v,fU g A v∧cC P hs K (aC rest (A.aO g.dst v)):=by
  intro hp h
  rw[we hs'] at h
  cases hv:br A g.op with
  |none=>rw[hv] at h;cases h
  |some v=>rw[hv] at h;exact ⟨v,.inr ⟨hp,hv⟩,h⟩
 simp only[aC] at h
 split at h
 ·rename_i hg
  exact step (by simp only[pass,hg]) h
 ·rename_i t b hg
  split at h
  ·rename_i b' hb
   split at h
   ·rename_i hbb
    subst hbb
    exact step (by simp only[pass,hg];exact hb) h
   ·rename_i hbb
    exact ⟨_,.inl ⟨by simp only[ga,hg];exact .inl (by rw[hb,ur hbb]),rfl⟩,h⟩
  ·rename_i hb
   exact ⟨_,.inl ⟨by simp only[ga,hg];exact .inr hb,rfl⟩,h⟩
  ·cases h
theorem rq{A:af}{g:aB}{rest:List aB}(hn:ga A g):aC (g::rest) A=aC rest (A.aO g.dst .undef):=by
 simp only[aC]
 cases hg:g.guard with
 |none=>simp only[ga,hg] at hn
 |some tb =>
  obtain ⟨t,b⟩:=tb
  simp only[ga,hg] at hn
  rcases hn with hn | hn
  ·simp only[hn];rw[if_neg (by cases b <;>simp)]
  ·simp only[hn]
theorem fU.to{A:af}{g:aB}{rest:List aB}{v:I}(hs':iT g.op=true)(h:fU g A v):aC (g::rest) A=aC rest (A.aO g.dst v):=by
 rcases h with ⟨hn,rfl⟩ | ⟨hp,hv⟩
 ·exact rq hn
 ·rw[nf hp,we hs',hv];rfl
theorem Wd{A A':af}{p:Nat→Bool}(ho:∀ n,p n=true→A'.o n=A.o n){x:I}(hx:x.only p=true):cv A' x=cv A x:=by
 cases x <;>simp only[cv]
 rename_i n q
 rw[ho n (by simpa[I.only] using hx)]
mutual
theorem W8{A A':af}{p:Nat→Bool}(ho:∀ n,p n=true→A'.o n=A.o n):∀ {x:I},x.only p=true→bp false A' x=bp false A x
 | .own n k,h=>by simp only[bp];rw[ho n (by simpa[I.only] using h)]
 | .func f caps,h=>by simp only[bp];rw[rW ho (xs:=caps) (by simpa[I.only] using h)]
 | .agg fs,h=>by simp only[bp];rw[rW ho (xs:=fs) (by simpa[I.only] using h)]
 | .undef,_ | .db,_ | .bool _,_ | .int _ _,_ | .cX _,_ | .nilp,_ | .de,_ | .dQ,_ | .raw _,_ | .nils _,_ | .c0 _,_ | .slice _ _,_ | .tuple _,_ | .ref _,_ | .iface _ _,_ | .ptr _ _,_ | .view _ _ _ _ _,_ | .mref _,_ | .dj _,_ | .cS _ _,_=>by simp[bp]
theorem rW{A A':af}{p:Nat→Bool}(ho:∀ n,p n=true→A'.o n=A.o n):∀ {xs:List I},I.bU p xs=true→bY false A' xs=bY false A xs
 | [],_=>rfl
 |x::xs,h=>by
  simp only[I.bU,Bool.and_eq_true] at h
  simp only[bY,W8 ho h.1,rW ho h.2]
end
theorem I8{p:Nat→Bool}{f:aJ→I} : ∀ {xs:List aJ},(∀ x∈xs,(f x).only p=true)→I.bU p (xs.map f)=true
 | [],_=>rfl
 |x::xs,h=>by
  simp only[List.map_cons,I.bU,Bool.and_eq_true]
  exact ⟨h x (by simp),I8 fun y hy=>h y (by simp[hy])⟩
theorem agz{A A':af}{p:Nat→Bool}(ho:∀ n,p n=true→A'.o n=A.o n){x:I}(hx:x.only p=true):fZ A' x=fZ A x:=by
 cases x with
 |mref n=>simp only[fZ];rw[ho n (by simpa[I.only] using hx)]
 |raw v=>cases v <;>first | rfl | (rename_i o;cases o <;>rfl)
 |_=>rfl
theorem aiu{A A':af}{op:b5}{xs:List Nat}{p:Nat→Bool}(hm:mS op=some xs)(h:dZ A A' op.cY)(hx:∀ s∈xs,(A.t s).only p=true)(ho:∀ n,p n=true→A'.o n=A.o n):br A' op=br A op:=by
 have ik:op.gl=0→br A' op=br A op:=fun hc=>xM hc h
 have dl:=fun {x:I} (hx:x.only p=true)=>Wd ho hx
 unfold mS at hm
 split at hm
 ·rename_i s x
  simp only[Option.some.injEq] at hm;subst hm
  have e:=h x (by simp[b5.cY,aJ.sl])
  simp only[br,ae,e,dl (hx x (by simp))]
 ·rename_i f off x
  simp only[Option.some.injEq] at hm;subst hm
  have e:=h x (by simp[b5.cY,aJ.sl])
  have k:=hx x (by simp)
  simp only[br,ae,e]
  generalize A.t x=aq at k ⊢
  cases aq with
  |ptr n q=>simp only[dl (x:=.ptr n q) k]
  |ref c=>cases c <;>rfl
  |_=>rfl
 ·rename_i n esz x i
  simp only[Option.some.injEq] at hm;subst hm
  have e:=h x (by simp[b5.cY,aJ.sl])
  have ei:=da (x:=i) (fun m hm=>h m (by simp[b5.cY,hm]))
  have k:=hx x (by simp)
  simp only[br,ei]
  generalize ae A i=w
  simp only[ae,e]
  generalize A.t x=aq at k ⊢
  cases aq with
  |ptr n q=>simp only[dl (x:=.ptr n q) k]
  |ref c=>cases c <;>rfl
  |_=>rfl
 ·rename_i esz x i
  simp only[Option.some.injEq] at hm;subst hm
  have e:=h x (by simp[b5.cY,aJ.sl])
  have ei:=da (x:=i) (fun m hm=>h m (by simp[b5.cY,hm]))
  have k:=hx x (by simp)
  simp only[br,ei]
  generalize ae A i=w
  simp only[ae,e]
  generalize A.t x=aq at k ⊢
  cases aq with
  |own n l=>simp only[ho n (by simpa[I.only] using k)]
  |view n q=>simp only[dl (x:=.ptr n q) (by simpa[I.only] using k)]
  |_=>rfl
 ·rename_i x
  simp only[Option.some.injEq] at hm;subst hm
  have e:=h x (by simp[b5.cY,aJ.sl])
  have k:=hx x (by simp)
  simp only[br,ae,e]
  generalize A.t x=aq at k ⊢
  cases aq with
  |own n l=>simp only[ho n (by simpa[I.only] using k)]
  |_=>rfl
 ·rename_i n esz x
  simp only[Option.some.injEq] at hm;subst hm
  have e:=h x (by simp[b5.cY,aJ.sl])
  have k:=hx x (by simp)
  simp only[br,ae,e]
  generalize A.t x=aq at k ⊢
  cases aq with
  |ptr n q=>simp only[dl (x:=.ptr n q) k]
  |ref c=>cases c <;>rfl
  |_=>rfl
 ·rename_i esz x lo hi mx
  simp only[Option.some.injEq] at hm;subst hm
  have e:=h x (by simp[b5.cY,aJ.sl])
  have e1:=oN (x:=lo) (fun m hm=>h m (by simp[b5.cY,hm]))
  have e2:=oN (x:=hi) (fun m hm=>h m (by simp[b5.cY,hm]))
  have e3:=oN (x:=mx) (fun m hm=>h m (by simp[b5.cY,hm]))
  have k:=hx x (by simp)
  simp only[br,e1,e2,e3]
  generalize lo.map (ae A)=w1
  generalize hi.map (ae A)=w2
  generalize mx.map (ae A)=w3
  simp only[ae,e]
  generalize A.t x=aq at k ⊢
  cases aq with
  |view n q=>simp only[dl (x:=.ptr n q) (by simpa[I.only] using k)]
  |_=>rfl
 ·rename_i x
  simp only[Option.some.injEq] at hm;subst hm
  have e:=h x (by simp[b5.cY,aJ.sl])
  have k:=hx x (by simp)
  simp only[br,ae,e]
  generalize A.t x=aq at k ⊢
  cases aq with
  |view n q=>simp only[dl (x:=.ptr n q) (by simpa[I.only] using k)]
  |_=>rfl
 ·rename_i ty z ok x kk
  simp only[Option.some.injEq] at hm;subst hm
  have e:=h x (by simp[b5.cY,aJ.sl])
  have ek:=da (x:=kk) (fun m hm=>h m (by simp[b5.cY,hm]))
  have k:=hx x (by simp)
  simp only[br,ek]
  generalize ae A kk=w
  simp only[ae,e,agz ho k]
 ·rename_i esz ps
  split at hm
  case isFalse=>cases hm
  rename_i hall
  simp only[Option.some.injEq] at hm;subst hm
  have hev:ps.map (ae A')=ps.map (ae A):=lO h
  have hon:I.bU p (ps.map (ae A))=true:=I8 fun x hx'=>by
   have h1:=List.all_eq_true.1 hall x hx'
   cases x with
   |c _=>cases h1
   |t s=>exact hx s (by simp only[jI,List.mem_flatMap];exact ⟨_,hx',by simp[aJ.sl]⟩)
  simp only[br,hev,rW ho hon]
 ·rfl
 ·split at hm
  ·rename_i hc;exact ik hc.1
  ·cases hm
theorem zb{aA:eM}{A:af}{g:aB}{p:Nat→Bool}(hi:eW aA A)(h:rr aA g p=true):∃ xs,mS g.op=some xs∧∀ s∈xs,(A.t s).only p=true:=by
 unfold rr at h
 split at h
 case h_2=>cases h
 rename_i xs hm
 refine ⟨xs,hm,fun s hs' =>?_⟩
 have h1:=List.all_eq_true.1 h s hs'
 split at h1
 case h_2=>cases h1
 rename_i ns hn
 exact iN (fun n h2=>List.all_eq_true.1 h1 n (by simpa using h2)) _ (hi s ns hn)
theorem fU.wZ{A A':af}{g:aB}{v:I}{xs:List Nat}{p:Nat→Bool}(h:fU g A v)(hm:mS g.op=some xs)(ha:dZ A A' g.cY)(hx:∀ s∈xs,(A.t s).only p=true)(ho:∀ n,p n=true→A'.o n=A.o n):fU g A' v:=by
 rcases h with ⟨h,rfl⟩ | ⟨h,k⟩
 ·exact .inl ⟨pd ha h,rfl⟩
 ·exact .inr ⟨mY ha h,by rw[aiu hm (aB.jY ha) hx ho];exact k⟩
theorem fU.sr{aA:eM}{A:af}{g:aB}{v:I}(hi:eW aA A)(hg:jn aA g=true)(h:fU g A v):eW aA (A.aO g.dst v):=by
 rcases h with ⟨_,rfl⟩ | ⟨_,k⟩
 ·exact hi.put (fun _=>rfl) fun _ _ _ _=>rfl
 ·exact hi.put (fun _=>rfl) (IZ hi hg k)
theorem fU.cJ{A A':af}{g:aB}{v:I}(h:fU g A v)(hu:ee A A')(ha:dZ A A' g.cY):fU g A' v:=by
 rcases h with ⟨h,rfl⟩ | ⟨h,k⟩
 ·exact .inl ⟨pd ha h,rfl⟩
 ·exact .inr ⟨mY ha h,Jq hu (aB.jY ha) k⟩
theorem H6{aA:eM}{g h:aB}(hi:nz hs aA g h=true):iT g.op=true∧nK hs aA g h=true∧(∀ d,g.dst=some d→d∉h.cY)∧(∀ d,g.dst=some d→h.dst≠some d)∧(∀ d,h.dst=some d→d∉g.cY):=by
 simp only[nz,Bool.and_eq_true] at hi
 obtain ⟨h1,h2,h3,h4⟩:=hi
 refine ⟨h1,h2,fun d hd =>?_,fun d hd =>?_,fun d hd =>?_⟩
 ·rw[hd] at h3;simp at h3;exact h3.1
 ·rw[hd] at h3;simp at h3;exact h3.2
 ·rw[hd] at h4;simpa using h4
theorem zf{aD:Bool}{A A':af}{ρ:List (Nat×Nat)}{os:List (Nat×ai)}(hu:ee A A'):∀ {xs cs:List I},iZ aD A ρ os xs cs→iZ aD A' ρ os xs cs
 | [],[],_=>trivial
 |x::xs,c::cs,h=>⟨h.1.imp id fun h=>Cv hu h,zf hu h.2⟩
 | [],_::_,h=>h.elim
 |_::_,[],h=>h.elim
theorem agG{A:af}{d:Option Nat}{v:I}{ts:List (Nat×I)}{os:List (Nat×ai)}(h:A.aO d v=av ts os):∃ ts2,A=av ts2 os∧∀ X:List (Nat×ai),(av ts2 X).aO d v=av ts X:=by
 cases d with
 |none=>exact ⟨ts,h,fun _=>rfl⟩
 |some d =>
  have ht:∀ k,(A.aO (some d) v).t k=b8 ts k:=fun k=>by rw[h];rfl
  have ho:A.o=al os:=by
   have:(A.aO (some d) v).o=al os:=by rw[h];rfl
   rwa [iu] at this
  refine ⟨(d,A.t d)::ts,?_,fun X =>?_⟩
  ·cases A with
   |mk t o =>
    simp only[av,af.mk.injEq]
    refine ⟨funext fun k =>?_,ho⟩
    have:=ht k
    simp only[af.aO,af.put] at this
    simp only[b8]
    by_cases hk:k=d
    ·subst hk;simp
    ·rw[if_neg hk] at this
     have hk':¬ d=k:=fun e=>hk e.symm
     simp only[hk,if_false]
     exact this
  ·simp only[af.aO,af.put,av,af.mk.injEq,and_true]
   funext k
   have:=ht k
   simp only[af.aO,af.put] at this
   by_cases hk:k=d
   ·subst hk;simp at this ⊢;exact this
   ·have hk':¬ d=k:=fun e=>hk e.symm
    simp only[b8,hk,if_false]
theorem ais{ρ:List (Nat×Nat)}{os0 os':List (Nat×ai)}{r:I}(hb:dn false ρ [] os0 r os'){n:Nat}{x:ai}(hx:al os0 n=some x):al (dF ρ os'++os0) n=some x:=by
 rw[qn]
 cases hp:pre ρ os' n with
 |none=>exact hx
 |some m =>
  obtain ⟨h1,h2⟩:=lv hp
  have:=(hb.o8 m h1 (by simp[au,al])).1
  rw[h2,hx] at this
  cases this
theorem cC.Q9{A B:af}{j:aB}{v:I}{f:FuncId}{args:List aJ}{dst:Option Nat}{rest:List aB}(hj:iT j.op=true)(hv:fU j A v)(hB:B=A.aO j.dst v)(hf:hs.contains f=false)(hag:dZ A B (jI args))(hd:∀ d,j.dst=some d→dst≠some d)(hr:∀ d,dst=some d→d∉j.cY)
  (h:cC P hs K (.call f (args.map (ae B)) (bY true B (args.map (ae B))) (bY false B (args.map (ae B))) dst rest B)):cC P hs K (.call f (args.map (ae A)) (bY true A (args.map (ae A))) (bY false A (args.map (ae A))) dst (j::rest) A):=by
 have eo:B.o=A.o:=by rw[hB,iu]
 have cJ:ee B A:=fun n x hx=>by rwa [←eo]
 have up':ee A B:=fun n x hx=>by rwa [eo]
 have eav:args.map (ae B)=args.map (ae A):=lO hag
 rw[eav] at h
 have cont:∀ r:I,cC P hs K (aC rest (B.aO dst r))→cC P hs K (aC (j::rest) (A.aO dst r)):=fun r hw=>by
  have h1:fU j (A.aO dst r) v:=hv.cJ (fun n x hx=>by rwa [iu]) (l7 hr)
  rw[h1.to hj,pw (fun d hd'=>fun e=>hd d e hd'),←hB]
  exact hw
 generalize e1:bY true B (args.map (ae A))=a1 at h
 generalize e2:bY false B (args.map (ae A))=a2 at h
 generalize hBm:B=B0 at h
 cases h with
 |flat r hc hfl hw =>
  subst hBm
  rw[kX cJ e1]
  exact .flat r hc hfl (cont r hw)
 |lead r hc hw =>
  subst hBm
  rw[kX cJ e2]
  exact .lead r hc (cont r hw)
 |bQ ρ cargs post hc hg ha hb hw =>
  rename_i ts os0
  rw[hB] at hBm
  obtain ⟨ts2,hA,hts⟩:=agG hBm
  have hA':=hA
  clear cont
  subst hA
  refine .bQ ρ cargs post hc hg (zf (A:=av ts os0) (A':=av ts2 os0) (fun n x hx=>hx) ha) hb fun r os' hp =>?_
  have h1:fU j ((av ts2 (dF ρ os'++os0)).aO dst (r.aS (bF ρ))) v:=hv.cJ (fun n x hx=>by
   rw[iu]
   exact ais (hb r os' hp) hx) (fun k hk=>by
    have:=l7 (A:=av ts2 (dF ρ os'++os0)) (v:=r.aS (bF ρ)) hr k hk
    rw[this];rfl)
  rw[h1.to hj,pw (fun d hd'=>fun e=>hd d e hd'),hts]
  exact hw r os' hp
 |xl aD ρ os cargs post hfs =>
  rw[hf] at hfs;cases hfs
theorem cC.swap{aA:eM}{A:af}{j g:aB}{rest:List aB}(hinv:eW aA A)(hi:nz hs aA j g=true)(hw:cC P hs K (aC (j::g::rest) A)):cC P hs K (aC (g::j::rest) A):=by
 obtain ⟨hj,hl,i1,i2,i3⟩:=H6 hi
 obtain ⟨v,hv,hw⟩:=cC.yf hj hw
 have ag:dZ (A.aO j.dst v) A g.cY:=(l7 i1).symm
 have ag':dZ A (A.aO j.dst v) g.cY:=l7 i1
 have cJ:ee (A.aO j.dst v) A:=fun n x hx=>by rwa [iu] at hx
 have up':∀ (d:Option Nat) (aq:I),ee A (A.aO d aq):=fun d aq n x hx=>by rwa [iu]
 by_cases hsg:iT g.op=true
 ·obtain ⟨aq,hu,hw⟩:=cC.yf hsg hw
  rw[(hu.cJ cJ ag).to hsg,(hv.cJ (up' _ _) (l7 i3)).to hj,←pw i2]
  exact hw
 ·-- the guard
  have guard:(ga (A.aO j.dst v) g∧aC (g::rest) (A.aO j.dst v)=aC rest ((A.aO j.dst v).aO g.dst .undef))∨(pass (A.aO j.dst v) g∧aC (g::rest) (A.aO j.dst v)=bl (A.aO j.dst v) g.dst g.op rest (aC rest))∨aC (g::rest) (A.aO j.dst v)=.fail:=by
   cases hg:g.guard with
   |none=>exact .inr (.inl ⟨by simp only[pass,hg],by simp only[aC,hg]⟩)
   |some tb =>
    obtain ⟨t,b⟩:=tb
    cases ht:(A.aO j.dst v).t t with
    |bool b' =>
     by_cases hbb:b'=b
     ·subst hbb
      have hp:pass (A.aO j.dst v) g:=by simp only[pass,hg,ht]
      exact .inr (.inl ⟨hp,nf hp⟩)
     ·have hn:ga (A.aO j.dst v) g:=by simp only[ga,hg];exact .inl (by rw[ht,ur hbb])
      exact .inl ⟨hn,rq hn⟩
    |undef =>
     have hn:ga (A.aO j.dst v) g:=by simp only[ga,hg];exact .inr ht
     exact .inl ⟨hn,rq hn⟩
    |_=>exact .inr (.inr (by simp only[aC,hg,ht]))
  rcases guard with ⟨hn,he⟩ | ⟨hp,he⟩ | he
  ·rw[he] at hw
   rw[rq (pd ag hn),(hv.cJ (up' _ _) (l7 i3)).to hj,←pw i2]
   exact hw
  ·rw[he] at hw
   rw[nf (mY ag hp)]
   obtain ⟨dst,op,gd⟩:=g
   simp only at hw hsg i2 i3 ⊢
   cases op with
   |alloc z =>
    cases dst with
    |none=>simp only[bl] at hw;cases hw
    |some d =>
    simp only[bl] at hw ⊢
    split at hw
    case h_2=>cases hw
    rename_i ho
    rw[iu] at ho
    simp only[ho]
    have h1:fU j ((A.aR d (.box z)).put d (.ptr d [])) v:=hv.cJ (fun n y hy=>by
     have:n≠d:=fun he=>by rw[he,ho] at hy;cases hy
     simp only[af.put,af.aR,this,if_false];exact hy) (fun k hk=>by
     have:k≠d:=fun he=>i3 d rfl (he▸hk)
     simp only[af.put,af.aR,this,if_false])
    rw[h1.to hj]
    have e:((A.aO j.dst v).aR d (.box z)).put d (.ptr d [])=((A.aR d (.box z)).put d (.ptr d [])).aO j.dst v:=by
     cases hgd:j.dst with
     |none=>rfl
     |some e =>
      have hne:e≠d:=fun he=>i2 e hgd (by rw[he])
      simp only[af.aO,af.put,af.aR,af.mk.injEq,and_true]
      funext k
      by_cases h1:k=e <;>by_cases h2:k=d <;>simp_all
    rw[←e];exact hw
   |box x =>
    have ex:ae (A.aO j.dst v) x=ae A x:=da (aB.jY ag')
    cases dst with
    |none=>simp only[bl] at hw;cases hw
    |some d =>
    simp only[bl] at hw ⊢
    split at hw
    case h_2=>cases hw
    rename_i ho
    rw[iu] at ho
    simp only[ho]
    rw[ex] at hw
    split at hw
    case isFalse=>cases hw
    rename_i hval
    rw[if_pos hval]
    have h1:fU j ((A.aR d (.box (ae A x))).put d (.ptr d [])) v:=hv.cJ (fun n y hy=>by
     have:n≠d:=fun he=>by rw[he,ho] at hy;cases hy
     simp only[af.put,af.aR,this,if_false];exact hy) (fun k hk=>by
     have:k≠d:=fun he=>i3 d rfl (he▸hk)
     simp only[af.put,af.aR,this,if_false])
    rw[h1.to hj]
    have e:((A.aO j.dst v).aR d (.box (ae A x))).put d (.ptr d [])=((A.aR d (.box (ae A x))).put d (.ptr d [])).aO j.dst v:=by
     cases hgd:j.dst with
     |none=>rfl
     |some e =>
      have hne:e≠d:=fun he=>i2 e hgd (by rw[he])
      simp only[af.aO,af.put,af.aR,af.mk.injEq,and_true]
      funext k
      by_cases h1:k=e <;>by_cases h2:k=d <;>simp_all
    rw[←e];exact hw
   |call f args =>
    simp only[bl] at hw ⊢
    refine cC.Q9 hj hv rfl (by simpa[nK,oU] using hl) (aB.jY ag') i2 i3 hw
   |bx s y aq =>
    cases dst with
    |some d=>simp only[bl] at hw;cases hw
    |none =>
    have ey:ae (A.aO j.dst v) y=ae A y:=da (aB.jY ag').l
    have eu:ae (A.aO j.dst v) aq=ae A aq:=da (aB.jY ag').r
    simp only[bl] at hw ⊢
    rw[ey,eu,iu] at hw
    cases hx:ae A y <;>simp only[hx] at hw ⊢ <;>try (cases hw;done)
    rename_i n q
    cases ho:A.o n with
    |none=>rw[ho] at hw;cases hw
    |some ob =>
    rw[ho] at hw
    cases ob <;>simp only at hw ⊢ <;>try (cases hw;done)
    rename_i b
    cases hb:b.at q with
    |none=>rw[hb] at hw;cases hw
    |some old =>
    rw[hb] at hw
    simp only at hw ⊢
    split at hw
    case isFalse=>cases hw
    rename_i hok
    rw[if_pos hok]
    have h1:fU j (A.aR n (.box (b.dK q (ae A aq)))) v:=by
     have none0:mS j.op=some []→fU j (A.aR n (.box (b.dK q (ae A aq)))) v:=fun hm=>hv.wZ (p:=fun _=>false) hm (fun _ _=>rfl) (fun s hs'=>by cases hs') (fun m hm=>by cases hm)
     cases y with
     |c y =>
      simp only[nK,oU,iT,Bool.false_or] at hl
      split at hl
      ·rename_i hm;exact none0 hm
      ·cases hl
     |t y =>
      simp only[nK,oU,iT,Bool.false_or] at hl
      split at hl
      ·rename_i hm;exact none0 hm
      ·split at hl
       case h_2=>cases hl
       rename_i ms hms
       obtain ⟨xs,hm,hx2⟩:=zb hinv hl
       refine hv.wZ hm (fun _ _=>rfl) hx2 fun m hm2 =>?_
       have hn:=hinv y ms hms
       simp only[ae] at hx
       rw[hx] at hn
       have:m≠n:=fun e=>by subst e;simp[I.only] at hn hm2;exact hm2 hn
       simp only[af.aR,if_neg this]
    rw[h1.to hj]
    have e:(A.aO j.dst v).aR n (.box (b.dK q (ae A aq)))=(A.aR n (.box (b.dK q (ae A aq)))).aO j.dst v:=by cases j.dst <;>rfl
    rw[←e];exact hw
   |dq e esz bytes z s x =>
    have hag:dZ A (A.aO j.dst v) (s.sl++x.sl):=aB.jY ag'
    have he2:bl (A.aO j.dst v) dst (.dq e esz bytes z s x) rest (aC rest)=bl A dst (.dq e esz bytes z s x) (j::rest) fun B=>aC rest (B.aO j.dst v):=by
     cases hjd:j.dst with
     |none=>rfl
     |some d =>
      rw[hjd] at hag
      exact Oz (fun e=>i2 d hjd e) hag rest (j::rest) (aC rest)
    rw[he2] at hw
    have jP:∀ B,ri A dst (ae A s) B→aC (j::rest) B=aC rest (B.aO j.dst v):=fun B hB=>by
     have hagB:dZ A B j.cY:=fun k hk=>hB.1 k fun e=>i3 k e hk
     have:fU j B v:=by
      simp only[nK,oU,iT,Bool.false_or,Bool.or_eq_true] at hl
      rcases hl with hl | hl
      ·obtain ⟨xs,hm,hx2⟩:=zb hinv hl
       exact hv.wZ hm hagB hx2 fun m hm2=>by cases hm2
      ·have:=qL hinv hl
       exact hv.cJ (hB.2 (by simpa using this)) hagB
     rw[this.to hj]
    rcases zc A dst e esz bytes z s x (j::rest) with h1 | ⟨B,h1,h2⟩ | ⟨p,bt,h1,h2⟩
    ·rw[h1] at hw;cases hw
    ·rw[h1] at hw ⊢;rw[jP B h2];exact hw
    ·rw[h1] at hw ⊢
     exact .any fun m hm=>by rw[jP _ (h2 m)];exact hw.y9 m hm
   |_=>first | exact absurd rfl hsg | (simp[nK,oU,iT] at hl)
  ·rw[he] at hw;cases hw
theorem cC.pR{aA:eM}{g:aB} : ∀ {l:List aB} {r:List aB} {A:af},eW aA A→(∀ j∈l,nz hs aA j g=true∧jn aA j=true)→cC P hs K (aC (l++g::r) A)→cC P hs K (aC (g::(l++r)) A)
 | [],r,A,_,_,h=>h
 |j::l,r,A,hinv,hi,h=>by
  have hj:=(H6 (hi j (by simp)).1).1
  obtain ⟨v,hv,h2⟩:=cC.yf (g:=j) (rest:=l++g::r) hj h
  have h3:=cC.pR (l:=l) (r:=r) (hv.sr hinv (hi j (by simp)).2) (fun k hk=>hi k (by simp[hk])) h2
  refine cC.swap hinv (hi j (by simp)).1 ?_
  rw[hv.to hj];exact h3
end
def sP:List Nat→Bool
 | []=>true
 |a::l => !l.contains a&&sP l
def rp(hs:List FuncId)(aA:eM)(gs:List aB)(cl:List Nat):List Nat→List Nat→Bool
 |_,[]=>true
 |before,i::σ=>(before.all fun j=>(cl.getD i 0).testBit j||nz hs aA (gs.getD j default) (gs.getD i default))&&rp hs aA gs cl (i::before) σ
def s7(hs:List FuncId)(aA:eM)(on:List (List Nat))(gs:List aB)(cl:List Nat)(σ:List Nat):Bool :=
 (Nat.beq σ.length gs.length&&(sP σ&&(σ.all (fun i=>decide (i<gs.length))&&((List.range gs.length).all (fun i=>σ.contains i)&&gs.all fun g=>sW g.op&&jn aA g))))&&(rp hs aA gs cl [] σ&&(List.range gs.length).all fun i=>(on.getD i []).all (fun k=>decide (k<i))&&Nat.beq (cl.getD i 0) (oa cl (on.getD i [])))
theorem IK:∀ {l:List Nat},sP l=true→l.Nodup
 | [],_=>List.nodup_nil
 |a::l,h=>by
  simp only[sP,Bool.and_eq_true,Bool.not_eq_true',List.contains_eq_mem,decide_eq_false_iff_not] at h
  exact List.nodup_cons.2 ⟨h.1,IK h.2⟩
theorem y7{hs:List FuncId}{aA:eM}{gs:List aB}{cl:List Nat} : ∀ {σ before:List Nat},rp hs aA gs cl before σ=true→∀ s1 i s2,σ=s1++i::s2→∀ j,j∈before∨j∈s1→(cl.getD i 0).testBit j=true∨nz hs aA (gs.getD j default) (gs.getD i default)=true
 | [],_,_,s1,i,s2,e,_,_=>by cases s1 <;>cases e
 |a::σ,before,h,s1,i,s2,e,j,hj=>by
  simp only[rp,Bool.and_eq_true,List.all_eq_true,Bool.or_eq_true] at h
  cases s1 with
  |nil =>
   simp only[List.nil_append,List.cons.injEq] at e
   obtain ⟨rfl,rfl⟩:=e
   rcases hj with hj | hj
   ·exact h.1 j hj
   ·cases hj
  |cons b s1 =>
   simp only[List.cons_append,List.cons.injEq] at e
   obtain ⟨rfl,rfl⟩:=e
   refine y7 h.2 s1 i s2 rfl j ?_
   rcases hj with hj | hj
   ·exact .inl (List.mem_cons_of_mem _ hj)
   ·rcases List.mem_cons.1 hj with hj | hj
    ·exact .inl (by rw[hj];exact List.mem_cons_self)
    ·exact .inr hj
def iR(σ:List Nat)(listed:Array Bool):List Nat:=σ.filter fun i => !listed.getD i true
def nN(gs:List aB)(σ:List Nat)(listed:Array Bool):List aB:=(iR σ listed).map fun i=>gs.getD i default
theorem aiL{σ:List Nat}{listed:Array Bool}{i:Nat}(hn:σ.Nodup)(hi:i∈σ)(hl:i<listed.size)(hu:listed.getD i true=false):∃ s1 s2,σ=s1++i::s2∧iR σ listed=(s1.filter fun j => !listed.getD j true)++i::(s2.filter fun j => !listed.getD j true) ∧
  iR σ (listed.setIfInBounds i true)=(s1.filter fun j => !listed.getD j true)++(s2.filter fun j => !listed.getD j true):=by
 obtain ⟨s1,s2,rfl⟩:=List.append_of_mem hi
 have same:∀ j,j≠i→(listed.setIfInBounds i true).getD j true=listed.getD j true:=fun j hj=>getD_set_ne true (Ne.symm hj)
 have hit:(listed.setIfInBounds i true).getD i true=true:=by simp[hl]
 have hnd:=List.nodup_append.1 hn
 have h1:∀ j∈s1,j≠i:=fun j hj=>hnd.2.2 j hj i List.mem_cons_self
 have h2:∀ j∈s2,j≠i:=fun j hj e=>(List.nodup_cons.1 hnd.2.1).1 (e▸hj)
 refine ⟨s1,s2,rfl,?_,?_⟩
 ·simp only[iR,List.filter_append,List.filter_cons,hu,Bool.not_false,if_true]
 ·simp only[iR,List.filter_append,List.filter_cons,hit,Bool.not_true,Bool.false_eq_true,if_false]
  congr 1
  ·exact List.filter_congr fun j hj=>by rw[same j (h1 j hj)]
  ·exact List.filter_congr fun j hj=>by rw[same j (h2 j hj)]
structure yV (hs:List FuncId) (aA:eM) (l:List Oper) (gs:List aB) (σ:List Nat):Prop where
 agZ:σ.Nodup
 lt:∀ i∈σ,i<gs.length
 all:∀ i,i<gs.length→i∈σ
 ok:∀ g∈gs,sW g.op=true∧jn aA g=true
 len:σ.length=gs.length
 oE:∀ i o,l[i]?=some o→∀ k∈er o,k<i
 wH:∀ (S:Nat→Prop),(∀ i o,l[i]?=some o→S i→∀ k∈er o,S k)→∀ s1 i s2 o,σ=s1++i::s2→l[i]?=some o→(∀ k∈er o,S k)→∀ j∈s1,¬ S j→nz hs aA (gs.getD j default) (gs.getD i default)=true
theorem ain{hs:List FuncId}{aA:eM}{l:List Oper}{gs:List aB}{cl σ:List Nat}(hlen:gs.length=l.length)(h:s7 hs aA (l.map er) gs cl σ=true):yV hs aA l gs σ:=by
 simp only[s7,Bool.and_eq_true,List.all_eq_true,decide_eq_true_eq,List.mem_range,List.contains_eq_mem] at h
 obtain ⟨⟨h1,h2,h3,h4,h5⟩,h6,h7⟩:=h
 have bj:∀ i o,l[i]?=some o→(∀ k∈er o,k<i)∧(∀ j,(cl.getD i 0).testBit j=true→j∈er o∨∃ k∈er o,(cl.getD k 0).testBit j=true):=by
  intro i o ho
  have hi:i<l.length:=(List.getElem?_eq_some_iff.1 ho).1
  have h8:=h7 i (by omega)
  have hon:(l.map er).getD i []=er o:=by simp[List.getD_eq_getElem?_getD,ho]
  rw[hon] at h8
  have hb:=Nat.eq_of_beq_eq_true h8.2
  exact ⟨h8.1,fun j hj=>yp (by rw[←hb];exact hj)⟩
 refine ⟨IK h2,h3,h4,h5,Nat.eq_of_beq_eq_true h1,fun i o ho=>(bj i o ho).1,?_⟩
 intro S hS s1 i s2 o e ho hon j hj hnj
 have key:∀ n i o,i≤n→l[i]?=some o→(∀ k∈er o,S k)→∀ j,(cl.getD i 0).testBit j=true→S j:=by
  intro n
  induction n with
  |zero =>
   intro i o hi ho hon j hj
   obtain ⟨h8,h9⟩:=bj i o ho
   rcases h9 j hj with h | ⟨k,hk,_⟩
   ·exact hon j h
   ·have:=h8 k hk;omega
  |succ n ih =>
   intro i o hi ho hon j hj
   obtain ⟨h8,h9⟩:=bj i o ho
   rcases h9 j hj with h | ⟨k,hk,hjk⟩
   ·exact hon j h
   ·have hki:=h8 k hk
    have hkl:k<l.length:=Nat.lt_trans hki (List.getElem?_eq_some_iff.1 ho).1
    obtain ⟨ok,hok⟩:∃ ok,l[k]?=some ok:=⟨l[k],List.getElem?_eq_getElem hkl⟩
    exact ih k ok (by omega) hok (hS k ok hok (hon k hk)) j hjk
 rcases y7 h6 s1 i s2 e j (.inr hj) with h | h
 ·exact absurd (key i i o (Nat.le_refl _) ho hon j h) hnj
 ·exact h
section
variable {c:cQ}
theorem aeM{K:af→Prop}{hs:List FuncId}{aA:eM}{bO:Array Oper}{Q:Exit→Act→World→Prop}{o:Oper}{g:aB}{rest:List aB}{A:af}{a:Act}{w:World}{Kw:Act→World→Prop}(hg:oI c.P c.n bO o=some g)(hi:eW aA A)(ho:sW g.op=true∧jn aA g=true)(hwp:cC c.P hs K (aC (g::rest) A))(hs':cn c A a w)
  (hK:∀ B a' w',cC c.P hs K (aC rest B)→eW aA B→cn c B a' w'→Kw a' w'):if Region.wanted o (yielded bO a.tmps) then o.wpIn c.bt 9 c.P a w Kw Q else (∀ f,o.about c.P w a.eval=some f→c.bt.fn f)∧Kw (a.put o.dst undef) w:=by
 obtain ⟨h1,h2,h3,h4⟩:=uy hg
 have step:cC c.P hs K (bl A g.dst g.op rest (aC rest))→o.wpIn c.bt 9 c.P a w Kw Q:=fun h =>
  wg h1 h2.symm (by rw[h2];exact h3) (cC.one (Y:=c.Y) hi ho.1 ho.2 h) hs' (fun B a' w' hw hs2=>by
   cases hw with
   |done hk=>exact hK B a' w' hk.1 hk.2 hs2)
 simp only[aC] at hwp
 rcases h4 with ⟨h5,h6⟩ | ⟨j,b,t,h5,h6,h7⟩
 ·rw[h6] at hwp
  have hw:Region.wanted o (yielded bO a.tmps)=true:=by simp[Region.wanted,h5]
  rw[hw,if_pos rfl]
  exact step hwp
 ·rw[h7] at hwp
  simp only at hwp
  split at hwp
  ·rename_i b' hb'
   rw[wu hs' h5 h6 hb']
   split at hwp
   ·rename_i hbb
    subst hbb
    simp only[BEq.rfl,if_true]
    exact step hwp
   ·rename_i hbb
    have:(b'==b)=false:=by simpa using hbb
    rw[this]
    simp only[Bool.false_eq_true,if_false]
    exact ⟨fun f _=>nq c f,hK _ _ _ hwp (hi.put (fun _=>rfl) fun _ _ _ _=>rfl) (by rw[h2];exact hs'.pt h3)⟩
  ·rename_i hb'
   rw[wv hs' h5 h6 hb']
   simp only[Bool.false_eq_true,if_false]
   exact ⟨fun f _=>nq c f,hK _ _ _ hwp (hi.put (fun _=>rfl) fun _ _ _ _=>rfl) (by rw[h2];exact hs'.pt h3)⟩
  ·cases hwp
theorem Oj{K:af→Prop}{fs:List FuncId}{aA:eM}{bO:Array Oper}{gs:List aB}{σ:List Nat}{Q:Exit→Act→World→Prop}(hQ:∀ B a w,K B→cn c B a w→Q .normal a w)(hgs:kd c.P c.n bO bO.toList=some gs)(hd:yV fs aA bO.toList gs σ) :
  ∀ (fuel:Nat) (listed:Array Bool) (A:af) (a:Act) (w:World),listed.size=bO.size→(∀ i o,bO.toList[i]?=some o→listed.getD i false=true→∀ k∈er o,listed.getD k false=true)→(iR σ listed).length≤fuel →
   eW aA A→cC c.P fs K (aC (nN gs σ listed) A)→cn c A a w→wpAnyIn c.bt 9 c.P .any bO Q fuel listed a w:=by
 obtain ⟨hlen,hat⟩:=mE hgs
 have onOf_mem:∀ (o:Oper) (e:Edge),e∈o.after→Region.binds .any e=true→e.on∈er o:=fun o e he hb=>by
  simp only[er,List.mem_map,List.mem_filter]
  exact ⟨e,⟨by simpa using he,hb⟩,rfl⟩
 have of_onOf:∀ (o:Oper) (k:Nat),k∈er o→∃ e∈o.after,Region.binds .any e=true∧e.on=k:=fun o k hk=>by
  simp only[er,List.mem_map,List.mem_filter] at hk
  obtain ⟨e,⟨h1,h2⟩,h3⟩:=hk
  exact ⟨e,by simpa using h1,h2,h3⟩
 have hgl:gs.length=bO.size:=by rw[hlen,Array.length_toList]
 have last:∀ (listed:Array Bool) (A:af) (a:Act) (w:World),listed.size=bO.size→Region.ready .any bO listed=[]→cC c.P fs K (aC (nN gs σ listed) A)→cn c A a w→Q .normal a w:=by
  intro listed A a w hsz hr hwp hs
  have hnone:iR σ listed=[]:=by
   have all:∀ n,∀ i,i<n→i<bO.size→listed.getD i true=true:=by
    intro n
    induction n with
    |zero=>intro i hi;omega
    |succ n ih =>
     intro i hi his
     cases hb:listed.getD i true with
     |true=>rfl
     |false =>
      exfalso
      have ho:bO[i]?=some bO[i]:=Array.getElem?_eq_getElem his
      have:i∈Region.ready .any bO listed:=mem_ready.2 ⟨hb,bO[i],ho,fun e he hbd=>by
       have hlt:=hd.oE i bO[i] (by simp) e.on (onOf_mem _ e he hbd)
       have h1:=ih e.on (by omega) (by omega)
       have h2:e.on<listed.size:=by omega
       simpa[Array.getD_eq_getD_getElem?,h2] using h1⟩
      rw[hr] at this
      cases this
   simp only[iR]
   refine List.filter_eq_nil_iff.2 fun i hi =>?_
   have:=all (i+1) i (by omega) (by rw[←hgl];exact hd.lt i hi)
   simp only[this,Bool.not_true,Bool.false_eq_true,not_false_eq_true]
  simp only[nN,hnone,List.map_nil,aC] at hwp
  cases hwp with
  |done hk=>exact hQ A a w hk hs
 intro fuel
 induction fuel with
 |zero =>
  intro listed A a w hsz hcl hcnt hinv hwp hs
  have hnone:iR σ listed=[]:=List.length_eq_zero_iff.1 (by omega)
  have hr:Region.ready .any bO listed=[]:=by
   refine List.eq_nil_iff_forall_not_mem.2 fun i hi =>?_
   obtain ⟨h1,o,ho,_⟩:=mem_ready.1 hi
   have:i∈iR σ listed:=by
    simp only[iR,List.mem_filter,h1,Bool.not_false,and_true]
    exact hd.all i (by rw[hgl];exact (Array.getElem?_eq_some_iff.1 ho).1)
   rw[hnone] at this
   cases this
  exact ⟨hr,last listed A a w hsz hr hwp hs⟩
 |succ fuel ih =>
  intro listed A a w hsz hcl hcnt hinv hwp hs
  refine ⟨fun hr=>last listed A a w hsz hr hwp hs,fun i hi =>?_⟩
  obtain ⟨hun,o,ho,hall⟩:=mem_ready.1 hi
  have hin:i<bO.size:=(Array.getElem?_eq_some_iff.1 ho).1
  obtain ⟨s1,s2,hσ,e1,e2⟩:=aiL hd.agZ (hd.all i (by omega)) (by omega) hun
  have hol:bO.toList[i]?=some o:=by simpa using ho
  obtain ⟨g,hgi,hcg⟩:=hat i o hol
  have hon:∀ k∈er o,listed.getD k false=true:=fun k hk=>by
   obtain ⟨e,h1,h2,h3⟩:=of_onOf o k hk
   exact h3▸hall e h1 h2
  have hgd:gs.getD i default=g:=by simp[List.getD_eq_getElem?_getD,hgi]
  have hwp':cC c.P fs K (aC (g::nN gs σ (listed.setIfInBounds i true)) A):=by
   simp only[nN,e1,List.map_append,List.map_cons,hgd] at hwp
   simp only[nN,e2,List.map_append]
   refine cC.pR hinv (fun j hj =>?_) hwp
   obtain ⟨k,hk,rfl⟩:=List.mem_map.1 hj
   obtain ⟨hk1,hk2⟩:=List.mem_filter.1 hk
   have:=hd.wH (fun k=>listed.getD k false=true) hcl s1 i s2 o hσ hol hon k hk1 (by
    have hks:k<listed.size:=by
     have:=hd.lt k (by rw[hσ];exact List.mem_append_left _ hk1)
     omega
    simp[Array.getD_eq_getD_getElem?,hks] at hk2 ⊢
    exact hk2)
   rw[hgd] at this
   refine ⟨this,(hd.ok _ ?_).2⟩
   have hkl:=hd.lt k (by rw[hσ];exact List.mem_append_left _ hk1)
   rw[List.getD_eq_getElem?_getD,List.getElem?_eq_getElem hkl]
   exact List.getElem_mem _
  unfold wpOpIn
  rw[ho]
  refine aeM hcg hinv (hd.ok g (List.mem_of_getElem? hgi)) hwp' hs fun B a' w' hw hiB hs'=>ih _ B a' w' (by simpa using hsz) ?_ ?_ hiB hw hs'
  ·intro m om hom hm k hk
   by_cases hmi:m=i
   ·subst hmi
    rw[hol,Option.some.injEq] at hom
    subst hom
    exact getD_set_true (hon k hk)
   ·rw[getD_set_ne false (Ne.symm hmi)] at hm
    exact getD_set_true (hcl m om hom hm k hk)
  ·have:(iR σ listed).length=(iR σ (listed.setIfInBounds i true)).length+1:=by
    rw[e1,e2];simp;omega
   omega
def pn(σ:List Nat)(gs:List aB):List aB:=σ.map fun i=>gs.getD i default
theorem U.aiI{Q:Exit→af→Prop}{A:af}{on:List (List Nat)}{gs:List aB}(hs:List FuncId)(aA:eM)(cl σ:List Nat)(hd:s7 hs aA on gs cl σ=true)(hi:eW aA A)(h:∀ K:af→Prop,(∀ B,Q .normal B→K B)→cC c.P hs K (aC (pn σ gs) A)):U c (.bW (some on) gs) Q A:=by
 intro code hc a w hs'
 cases code <;>simp only[eZ] at hc <;>try (first | (cases hc;done) | ((repeat' split at hc) <;>cases hc;done))
 rename_i id bO draw
 split at hc
 ·rename_i gs' hgs
  split at hc
  case isFalse=>cases hc
  rename_i hok
  simp only[Option.some.injEq,aN.bW.injEq] at hc
  obtain ⟨he,rfl⟩:=hc
  cases draw with
  |false=>cases he
  |true =>
   simp only[cond_true,Option.some.injEq] at he
   subst he
   simp only[Bool.not_true,Bool.false_or] at hok
   have hp:=ain (mE hgs).1 hd
   refine wpIn_region_any hok (Oj (K:=Q .normal) (fun B a w hk hs=>⟨B,hk,hs⟩) hgs hp bO.size (Array.replicate bO.size false) A a _ (by simp) ?_ ?_ hi ?_ ?_)
   ·intro i o _ h
    exfalso
    simp only[Array.getD_eq_getD_getElem?,Array.getElem?_replicate] at h
    split at h <;>simp at h
   ·refine Nat.le_trans (List.length_filter_le _ _) ?_
    rw[hp.len,(mE hgs).1,Array.length_toList];exact Nat.le_refl _
   ·have hall:iR σ (Array.replicate bO.size false)=σ:=by
     simp only[iR]
     refine List.filter_eq_self.2 fun i hi =>?_
     have h1:=hp.lt i hi
     rw[(mE hgs).1,Array.length_toList] at h1
     simp[h1]
    simp only[nN,hall]
    exact h _ fun _ hb=>hb
   ·obtain ⟨D,E,hs'⟩:=hs'
    exact ⟨D,E,hs'.grow (w' := { w with drawn:=w.drawn+1 }) ⟨rfl,rfl,rfl,Nat.le_refl _,fun _ _=>rfl⟩ (fun _ _ h=>h) (fun _ _ h _=>h) (fun b o h=>hs'.dc b o h)⟩
 ·cases hc
def oS(ts:List (Nat×I)):eM→Prop
 | []=>True
 |(s,ns)::aA=>(b8 ts s).only (fun n=>ns.contains n)=true∧oS ts aA
theorem eW.of{ts:List (Nat×I)}{os:List (Nat×ai)}{aA:eM}(h:oS ts aA):eW aA (av ts os):=by
 intro s ns hn
 simp only[av]
 induction aA with
 |nil=>cases hn
 |cons q aA ih =>
  obtain ⟨s',ns'⟩:=q
  simp only[oS] at h
  simp only[jj,List.find?_cons] at hn
  split at hn
  ·rename_i e
   simp only[Option.map_some,Option.some.injEq] at hn
   simp only[beq_iff_eq] at e
   subst e hn
   exact h.1
  ·exact ih h.2 hn
end
end Go.Abs
namespace Go.Abs
open Go Go.RowKit
open Enc (enc)
theorem ai7{P:Program}(w:World)(tS tR e:TypeId)(ht:P.underlying tS=some (.slice e))(size:Nat)(hz:∀ w,(Go.sizeOf e).run P w=.ok size w)
  (a b:Addr) (la ca lb cb:Nat) (hne:a.block≠b.block) (tA tB:TypeId) (su kB:Nat) (hsa:w.shape? a.block=some (tA,su+1)) (hsb:w.shape? b.block=some (tB,kB+1)) (hfb:w.frozen? b=false) (hfe:w.frozen? { block:=b.block,off:=kB+1 } = false) :
  (Extern.SlicesOverlaps.overlaps #[tS,tS] #[tR] #[.slice (some a) la ca,.slice (some b) lb cb]).run P w=.ok (.bool false) w:=by
 have hnb:(a.block != b.block)=true:=by simpa using hne
 have hnb':(a.block==b.block)=false:=by simpa using hne
 change Sem.run P (α:=Value) (do
  let some t := (#[tS, tS] : Array TypeId)[0]? | stuck "slices.overlaps: no parameter types"
  let .slice elem ← underlying t | stuck "slices.overlaps: slice type expected"
  let size ←sizeOf elem
  match (some a:Option Addr),(some b:Option Addr) with
  |some a,some b =>
   if la=0∨lb=0∨size=0 then pure (Value.bool false)
   else if a.block != b.block&&(←frozen a)&&(←frozen b) then unsupported .addressObserved
   else do
    if a.block != b.block then do
     noView a;noView b
     if ← mayBeOne a b then return Value.bool ((← choose (.extern "sameAddr.stringBytes" 2)) == 1)
    pure (Value.bool (a.block==b.block&&a.off<b.off+lb*size&&b.off<a.off+la*size))
  |_,_=>pure (Value.bool false)) w=_
 by_cases h0:la=0∨lb=0∨size=0
 ·simp[run_underlying ht,hz,h0]
 ·cases hfa:w.frozen? a <;>cases hfk:w.frozen? { block:=a.block,off:=su+1 } <;>
   simp[run_underlying ht,hz,h0,hnb,hnb',frozen,noView,viewAt,mayBeOne,stringish,shape,Sem.run,hsa,hsb,hfa,hfb,hfe,hfk]
theorem LJ{P:Program}(w:World)(tS tR e:TypeId)(ht:P.underlying tS=some (.slice e))(size:Nat)(hz:∀ w,(Go.sizeOf e).run P w=.ok size w)(a:Option Addr)(b:Addr)(ca lb cb:Nat) :
  (Extern.SlicesOverlaps.overlaps #[tS,tS] #[tR] #[.slice a 0 ca,.slice (some b) lb cb]).run P w=.ok (.bool false) w:=by
 cases a with
 |none =>
  change Sem.run P (α:=Value) (do
   let some t := (#[tS, tS] : Array TypeId)[0]? | stuck "slices.overlaps: no parameter types"
   let .slice elem ← underlying t | stuck "slices.overlaps: slice type expected"
   let size ←sizeOf elem
   pure (Value.bool false)) w=_
  simp[run_underlying ht,hz]
 |some a =>
  change Sem.run P (α:=Value) (do
   let some t := (#[tS, tS] : Array TypeId)[0]? | stuck "slices.overlaps: no parameter types"
   let .slice elem ← underlying t | stuck "slices.overlaps: slice type expected"
   let size ←sizeOf elem
   if (0:Nat)=0∨lb=0∨size=0 then pure (Value.bool false)
   else if a.block != b.block&&(←frozen a)&&(←frozen b) then unsupported .addressObserved
   else do
    if a.block != b.block then do
     noView a;noView b
     if ← mayBeOne a b then return Value.bool ((← choose (.extern "sameAddr.stringBytes" 2)) == 1)
    pure (Value.bool (a.block==b.block&&a.off<b.off+lb*size&&b.off<a.off+0*size))) w=_
  simp[run_underlying ht,hz]
theorem aje{w:World}{b o:Nat}{v:Value}(h:w.cell? ⟨b,o,none⟩=some v):∃ t k,w.shape? b=some (t,k+1):=by
 simp only[World.cell?] at h
 cases hb:w.heap[b]? with
 |none=>rw[hb] at h;cases h
 |some ob =>
  rw[hb] at h
  cases ob with
  |cells cs T fr =>
   simp only at h
   have hlt:o<cs.size:=(Array.getElem?_eq_some_iff.1 (by simpa using h)).1
   exact ⟨T,cs.size-1,by simp only[World.shape?,hb];congr 2;omega⟩
  |_=>cases h
theorem aj1 {P : Program} {f : FuncId} {fn : Func} {tS tR e : TypeId} (hf : P.funcs[f]? = some fn) (hname : (fn.name == "runtime.NumGoroutine") = false) (hb : fn.body.isNone = true) (hn : Extern.findNext fn = none) (he : Extern.find fn = some (Extern.SlicesOverlaps.overlaps #[tS, tS] #[tR]))
  (ht:P.underlying tS=some (.slice e)) (hi:(P.info? e).isSome=true) {A:af} {n sz sz' lo k:Nat} {p:List Nat} {y:I} {es fs:List I} (hA:A.o n=some (.box y)) (hat:y.at p=some (.agg fs)) (hy:y.size≠0) (hsz:sz'≠0):y5 P A f [.slice sz' es,.view n p sz lo k] (.bool false):=by
 intro c a w D E vs hP hs hargs
 subst hP
 obtain ⟨i,hi⟩:=Option.isSome_iff_exists.1 hi
 have hz:∀ w,(Go.sizeOf e).run c.P w=.ok i.size w:=fun w=>by simp[sizeOf,typeInfo,hi]
 cases hargs with
 |cons h1 hrest =>
  cases hrest with
  |cons h2 hnil =>
   cases hnil
   rename_i v1 v2
   refine ⟨.bool false,?_,mV false⟩
   rw[run_callFunc_extern hf hname hb hn he]
   obtain ⟨ad,cap,rfl,c1,c2,c3,ja⟩:=mc h1
   obtain ⟨y',b,cs,T,off,d1,d2,d3,q1,q2,q3,q4,q5,q6,q7,q8,q9,q10,q11,q12,rfl⟩:=hs.view (fs:=fs) h2 (by simp only[cv,hA,hat])
   rw[hA] at q1
   simp only[Option.some.injEq,ai.box.injEq] at q1
   subst q1
   rcases c3 with rfl | ⟨b1,off1,cs1,rfl,r1,dN⟩
   ·rw[List.length_nil,LJ w tS tR e ht i.size hz];rfl
   ·cases es with
    |nil=>rw[List.length_nil,LJ w tS tR e ht i.size hz];rfl
    |cons e0 es =>
     have hl:=aH.length _ _ dN
     have he0:=ja e0 (by simp)
     have hpos:0<cs1.length:=by rw[hl];simp only[I.sizes];omega
     have hc:=r1 0 cs1[0] (List.getElem?_eq_getElem hpos)
     obtain ⟨tA,su,hsa⟩:=aje hc.1
     have ho:=hs.bQ n
     rw[hA] at ho
     obtain ⟨b',cs',T',k1,k2,k3,k4,k5⟩:=ho
     rw[q2] at k1
     simp only[Option.some.injEq,bR.aD.injEq,and_true] at k1
     subst k1
     have hne:b1≠b:=fun e1=>k5 _ (e1▸hc.2)
     have hcs:cs.size≠0:=by
      have:=ah.length _ _ q9
      rw[Array.length_toList] at this
      omega
     obtain ⟨kB,hkB⟩:∃ kB,cs.size=kB+1:=⟨cs.size-1,by omega⟩
     rw[ai7 w tS tR e ht i.size hz ⟨b1,off1,none⟩ ⟨b,off+lo*sz,none⟩ _ _ _ _ hne tA T su kB hsa (by simp only[World.shape?,q3,hkB]) (by simp[World.frozen?,q3]) (by simp[World.frozen?,q3])]
     rfl
noncomputable def uj(A:af)(d:Option Nat)(esz bytes:Nat)(z s:I)(rest:List aB):I→cE
 | .int _ m=>pQ A d esz bytes z m.toNat s (ec A esz s) (aC rest)
 |_=>.fail
theorem ag5(A:af)(d:Option Nat)(rest:List aB)(e esz bytes:Nat)(z:I)(s n:aJ):bN A d (.ka e esz bytes z s n) rest=uj A d esz bytes z (ae A s) rest (ae A n):=by
 simp only[bN,bl]
 cases ae A n <;>rfl
theorem ahG(A:af)(d:Option Nat)(rest:List aB)(f:FuncId)(args:List aJ):bN A d (.iX f args) rest=.iX f (args.map (ae A)) d rest A:=rfl
def rG(A:af):I→Option I
 | .nils _ | .c0 _=>some (.int .i64 ((0:Nat):Int))
 | .view n p _ lo _=>match ff (eH p (A.o n)) with
  |some fs=>some (.int .i64 ((fs.length-lo:Nat):Int))
  |none=>none
 |_=>none
theorem ahc(A:af)(d:Option Nat)(rest:List aB)(x:aJ):bN A d (.cap x) rest=cL (rG A (ae A x)) (c8 d rest A):=by
 simp only[bN,bl,br]
 cases ae A x <;>try rfl
 rename_i n p sz l0 k
 simp only[rG,kQ,gm]
 cases eH p (A.o n) with
 |none=>rfl
 |some c=>cases c <;>rfl
theorem sR(A:af)(d:Option Nat)(rest:List aB)(esz:Nat)(x y:aJ):bN A d (.ib esz x y) rest=nk A d esz (aC rest) (ae A x) (ec A esz (ae A y)):=rfl
section
variable {α:Type} [Enc α] {P:Program} {Y:Value→List I→List (Nat×ai)→cR→Prop} {K:af→Prop} {A:af} {rest:List aB} {esz bytes:Nat}
theorem Re{n lo k sz:Nat}{xs:List α}(ho:A.o n=some (.box (.agg (xs.map enc)))):rG A (.view n [] sz lo k)=some (.int .i64 ((xs.length-lo:Nat):Int)):=by
 have h2:(I.agg (xs.map (enc (α:=α)))).at []=some (.agg (xs.map enc)):=rfl
 simp only[rG,eH,ho,h2,ff,I.du,List.length_map]
theorem mw{n lo k:Nat}{xs:List α}(ho:A.o n=some (.box (.agg (xs.map enc))))(h:lo+k≤xs.length):ec A esz (.view n [] esz lo k)=some (((xs.drop lo).take k).map enc):=by
 have h1:cv A (.ptr n [])=some (.agg (xs.map enc)):=by simp only[cv,ho];rfl
 simp only[ec,h1,List.length_map]
 rw[if_pos ⟨h,trivial⟩,List.map_take,List.map_drop]
theorem ye{xs ys:List α}(h:xs.length=ys.length):I.cM (xs.map enc)=I.cM (ys.map enc):=by
 rw[qJ,qJ,h]
theorem rK{d:Option Nat}{n lo l c:Nat}{xs ys:List α}(ho:A.o n=some (.box (.agg (xs.map enc))))(hl:lo+l≤xs.length)(hc:min ys.length l=c) :
  nk A d esz (aC rest) (.view n [] esz lo l) (some (ys.map enc))=aC rest ((A.aR n (.box (.agg ((xs.take lo++(ys.take c++xs.drop (lo+c))).map enc)))).aO d (.int .i64 (c:Nat))):=by
 have h2:(I.agg (xs.map (enc (α:=α)))).at []=some (.agg (xs.map enc)):=rfl
 have h1:I.cM ((ys.map (enc (α:=α))).take c)=I.cM (((xs.map (enc (α:=α))).drop lo).take c):=by
  rw[←List.map_take,←List.map_drop,←List.map_take]
  exact ye (by rw[List.length_take,List.length_take,List.length_drop];omega)
 have hc':min (ys.map (enc (α:=α))).length l=c:=by rw[List.length_map];exact hc
 simp only[nk,ho,h2,hc']
 rw[if_pos ⟨rfl,by rw[hc'];exact h1⟩]
 have h3:((ys.map (enc (α:=α))).take c).length=c:=by rw[List.length_take,List.length_map];omega
 simp only[gV,gh,h3,List.map_append,List.map_take,List.map_drop]
theorem a6.OD{d:Nat}(z:α)(hs:Enc.sz α=esz){n l m:Nat}{xs:List α}(ho:A.o n=some (.box (.agg (xs.map enc))))(hl:l≤xs.length)(hm:0<m)(hr:xs.length<l+m)(hf:A.o d=none)(hb:(l+m)*bytes≤140737488355328)(hml:l+m≤maxLen)
  (h:∀ q,a6 P Y false K (aC rest ((A.aR d (.box (.agg ((xs.take l++(List.replicate m z++List.replicate q z)).map enc)))).aO (some d) (.view d [] esz 0 (l+m))))):a6 P Y false K (uj A (some d) esz bytes (enc z) (.view n [] esz 0 l) rest (.int .i64 (m:Nat))):=by
 have h1:=mw (A:=A) (esz:=esz) (lo:=0) (k:=l) ho (by omega)
 have h2:(I.agg (xs.map (enc (α:=α)))).at []=some (.agg (xs.map enc)):=rfl
 have h4:(xs.take l).length=l:=by rw[List.length_take];omega
 simp only[uj,h1,List.drop_zero,pQ,ho,h2,List.length_map,Int.toNat_natCast]
 rw[if_pos ⟨hm,by omega⟩]
 simp only[fM,hf,List.length_map,h4,List.length_replicate]
 rw[if_pos ⟨hb,hml⟩]
 refine .any rfl fun q _ =>?_
 have:=h q
 simp only[List.map_append,List.map_replicate] at this
 exact this
theorem Ow{d:Option Nat}{e:Nat}(z:I)(hs:Enc.sz α=esz){n l:Nat}{xs ys:List α}(hy:ys≠[])(ho:A.o n=some (.box (.agg (xs.map enc))))(hr:l+ys.length≤xs.length) :
  gG A d e esz bytes z (enc ys) rest (.view n [] esz 0 l)=aC rest ((A.aR n (.box (.agg ((xs.take l++(ys++xs.drop (l+ys.length))).map enc)))).aO d (.view n [] esz 0 (l+ys.length))):=by
 have h1:=mw (A:=A) (esz:=esz) (lo:=0) (k:=l) ho (by omega)
 have h2:(I.agg (xs.map (enc (α:=α)))).at []=some (.agg (xs.map enc)):=rfl
 have h3:I.cM (ys.map (enc (α:=α)))=I.cM (((xs.map (enc (α:=α))).drop l).take ys.length):=by
  rw[←List.map_drop,←List.map_take]
  exact ye (by rw[List.length_take,List.length_drop];omega)
 simp only[gG,h1,nX A esz ys hs,eY]
 rw[if_neg (by simpa using hy)]
 simp only[ho,h2,List.length_map,Nat.zero_add]
 rw[if_pos hr,if_pos ⟨rfl,by rw[List.length_map,Nat.zero_add];exact h3⟩]
 simp only[gV,gh,List.length_map,List.map_append,List.map_take,List.map_drop]
theorem a6.Oo{d e:Nat}(z:α)(hs:Enc.sz α=esz){n l:Nat}{xs ys:List α}(hy:ys≠[])(ho:A.o n=some (.box (.agg (xs.map enc))))(hl:l≤xs.length)(hr:xs.length<l+ys.length)(hf:A.o d=none)(hb:(l+ys.length)*bytes≤140737488355328)(hml:l+ys.length≤maxLen)
  (h:∀ q,a6 P Y false K (aC rest ((A.aR d (.box (.agg ((xs.take l++(ys++List.replicate q z)).map enc)))).aO (some d) (.view d [] esz 0 (l+ys.length))))):a6 P Y false K (gG A (some d) e esz bytes (enc z) (enc ys) rest (.view n [] esz 0 l)):=by
 have h1:=mw (A:=A) (esz:=esz) (lo:=0) (k:=l) ho (by omega)
 have h2:(I.agg (xs.map (enc (α:=α)))).at []=some (.agg (xs.map enc)):=rfl
 have h4:(xs.take l).length=l:=by rw[List.length_take];omega
 simp only[gG,h1,List.drop_zero,nX A esz ys hs,eY]
 rw[if_neg (by simpa using hy)]
 simp only[ho,h2,List.length_map,Nat.zero_add]
 rw[if_neg (by omega)]
 simp only[fM,hf,List.length_map,h4]
 rw[if_pos ⟨hb,hml⟩]
 refine .any rfl fun q _ =>?_
 have:=h q
 simp only[List.map_append,List.map_replicate] at this
 exact this
theorem a6.Oq{d e q0:Nat}(z:α){l:List α}(hs:Enc.sz α=esz)(hl:l≠[])(hf:A.o d=none)(hb:l.length*bytes≤140737488355328)(hml:l.length≤maxLen)
  (h:∀ m,a6 P Y false K (aC rest ((A.aR d (.box (.agg ((l++List.replicate m z).map enc)))).aO (some d) (.view d [] esz 0 l.length)))):a6 P Y false K (gG A (some d) e esz bytes (enc z) (enc l) rest (.nils q0)):=by
 have hne:l.map (enc (α:=α))≠[]:=by simpa using hl
 have h1:ec A esz (.nils q0)=some []:=rfl
 simp only[gG,h1,nX A esz l hs,eY,if_neg hne,fM,hf,List.length_nil,Nat.zero_add,List.length_map,if_pos (And.intro hb hml),List.nil_append]
 refine .any rfl fun m _ =>?_
 have:=h m
 simp only[List.map_append,List.map_replicate] at this
 exact this
end
theorem LW{n:Nat}{p:List Nat}{sz k total i:Nat}(h:i≤k)(hk:k≤total):∃ y,gP n p sz 0 k total (some (.int .i64 i)) none none=some y:=by
 simp only[gP,gT]
 rw[if_pos ⟨by omega,by omega,by omega⟩]
 split <;>exact ⟨_,rfl⟩
theorem IB(k:Nat):b8 [] k=.db:=rfl
def gO(aA:List Nat):List (Nat×I)→List (Nat×I)
 | []=>[]
 |(s,v)::ts=>if aA.contains s=true then (s,v)::gO aA ts else gO aA ts
theorem af1(aA:List Nat):gO aA []=[]:=rfl
theorem af0(aA:List Nat)(s:Nat)(v:I)(ts:List (Nat×I)):gO aA ((s,v)::ts)=if aA.contains s=true then (s,v)::gO aA ts else gO aA ts:=rfl
theorem IA(aA:List Nat)(t:Nat):∀ ts,b8 (gO aA ts) t=.db∨b8 (gO aA ts) t=b8 ts t
 | []=>.inl rfl
 |(s,v)::ts=>by
  simp only[gO]
  have ih:=IA aA t ts
  by_cases hs:aA.contains s=true
  ·rw[if_pos hs]
   simp only[b8]
   split
   ·exact .inr rfl
   ·exact ih
  ·rw[if_neg hs]
   simp only[b8]
   split
   ·rename_i e
    subst e
    left
    have:∀ ts,b8 (gO aA ts) t=.db:=by
     intro ts
     induction ts with
     |nil=>rfl
     |cons q ts ih2 =>
      obtain ⟨s',v'⟩:=q
      simp only[gO]
      split
      ·rename_i h'
       simp only[b8]
       have:t≠s':=fun e=>hs (e▸h')
       rw[if_neg this];exact ih2
      ·exact ih2
    exact this ts
   ·exact ih
theorem U.fC(aA:List Nat){c:cQ}{x:aN}{Q:Exit→af→Prop}{ts:List (Nat×I)}{os:List (Nat×ai)}(h:U c x Q (av (gO aA ts) os)):U c x Q (av ts os):=by
 refine U.sub ?_ h
 rintro cc a w ⟨D,E,hs⟩
 refine ⟨D,E,hs.sz,hs.eG,fun t =>?_,hs.dR,hs.cZ,hs.dc,hs.bQ,hs.cT,hs.dT,hs.eQ,hs.cJ,hs.eU,hs.fv⟩
 simp only[av]
 rcases IA aA t ts with e | e
 ·rw[e];simp[aW]
 ·rw[e];exact hs.ed t
theorem wU:(∀ aA,gO aA []=[])∧(∀ aA s v ts,gO aA ((s,v)::ts)=if aA.contains s=true then (s,v)::gO aA ts else gO aA ts)∧(∀ (a:Nat) l b,(a::l).contains b=(b==a||l.contains b))∧(∀ b:Nat,([]:List Nat).contains b=false)∧(∀ b,(false||b)=b)∧(∀ b,(true||b)=true)∧(∀ b,(b||true)=true)∧(∀ b,(b||false)=b)∧((false=true)=False) :=
 ⟨af1,af0,fun _ _ _=>List.contains_cons,fun _=>rfl,fun _=>rfl,fun _=>rfl,fun b=>by cases b <;>rfl,fun b=>by cases b <;>rfl,by simp⟩
end Go.Abs
namespace Go.Abs
open Go Go.RowKit
open Enc (enc)
def xb:Option ai→Option (List I×List I)
 |some (.ct ks vs)=>some (ks,vs)
 |_=>none
noncomputable def xg(A:af)(n:Nat)(rest:List aB):Option (List I×List I)→cE
 |some (ks,vs)=>aC rest (A.aR n (.ct ks vs))
 |none=>.fail
noncomputable def xf(A:af)(n:Nat)(ty:cK)(k v:I)(rest:List aB):Option ai→cE
 |some (.ct ks vs)=>xg A n rest (fQ ty k v ks vs)
 |_=>.fail
noncomputable def xe(A:af)(ty:cK)(k v:I)(rest:List aB):I→cE
 | .mref n=>xf A n ty k v rest (A.o n)
 |_=>.fail
noncomputable def xd(A:af)(d:Nat)(rest:List aB):Option ai→cE
 |none=>aC rest ((A.aR d (.ct [] [])).put d (.mref d))
 |some _=>.fail
open Classical in
noncomputable def sM(A:af)(d bytes:Nat)(z:I)(rest:List aB):I→cE
 | .int _ n=>if 0≤n∧n.toNat*bytes≤281474976710656∧n.toNat≤maxLen then aC rest ((A.aR d (.box (.agg (List.replicate n.toNat z)))).put d (.view d [] 1 0 n.toNat)) else .fail
 |_=>.fail
noncomputable def sL(A:af)(d bytes:Nat)(z n:I)(rest:List aB):Option ai→cE
 |none=>sM A d bytes z rest n
 |some _=>.fail
noncomputable def xY(A:af)(d:Nat)(rest:List aB):I→cE
 | .cS ks vs=>aC rest ((A.aR d (.it ks vs (List.range ks.length) none)).put d (.dj d))
 |_=>.fail
noncomputable def tu(A:af)(d:Nat)(x:I)(rest:List aB):Option ai→cE
 |none=>xY A d rest x
 |some _=>.fail
def u7:Option ai→Option I
 |some (.it ks vs _ cur)=>oL ks vs cur
 |_=>none
def u6(A:af):I→Option I
 | .dj n=>u7 (A.o n)
 |_=>none
open Classical in
noncomputable def pf(A:af)(d:Option Nat)(n:Nat)(rest:List aB):Option ai→cE
 |some (.it ks vs left _)=>if left=[] then aC rest (A.aO d (.tuple [.bool false])) else
   .any (fun i=>i∈left) fun i=>match ks[i]?,vs[i]? with
    |some kk,some x=>aC rest ((A.aR n (.it ks vs (left.filter (· != i)) (some i))).aO d (.tuple [.bool true,kk,x]))
    |_,_=>.fail
 |_=>.fail
noncomputable def xk(A:af)(d:Option Nat)(rest:List aB):I→cE
 | .dj n=>pf A d n rest (A.o n)
 |_=>.fail
section
variable (d:Option Nat) (rest:List aB) (A:af)
theorem ahw(x:aJ):bN A d (.nilC x) rest=cL (lY (ae A x)) (c8 d rest A):=rfl
theorem ahA(neg:Bool)(x y:aJ):bN A d (.ptrE neg x y) rest=cL (l6 neg (iH (ae A x)) (iH (ae A y))) (c8 d rest A):=rfl
theorem ahq(ty:cK)(z:I)(ok:Bool)(m k:aJ):bN A d (.lk ty z ok m k) rest=cL (qk ty z ok (ae A k) (fZ A (ae A m))) (c8 d rest A):=rfl
theorem agB(n:Nat):fZ A (.mref n)=xb (A.o n):=by
 simp only[fZ];cases A.o n with
 |none=>rfl
 |some y=>cases y <;>rfl
theorem ahu(ty:cK)(m k v:aJ):bN A none (.gA ty m k v) rest=xe A ty (ae A k) (ae A v) rest (ae A m):=by
 simp only[bN,bl]
 cases ae A m <;>rfl
theorem ahs(d:Nat):bN A (some d) .jC rest=xd A d rest (A.o d):=by
 simp only[bN,bl];cases A.o d <;>rfl
theorem aht(d e bytes:Nat)(z:I)(n:aJ):bN A (some d) (.jV e bytes z n) rest=sL A d bytes z (ae A n) rest (A.o d):=by
 simp only[bN,bl]
 cases A.o d with
 |some _=>rfl
 |none=>simp only[sL];cases ae A n <;>rfl
theorem ahB(d:Nat)(x:aJ):bN A (some d) (.j0 x) rest=tu A d (ae A x) rest (A.o d):=by
 simp only[bN,bl]
 cases A.o d with
 |some _=>rfl
 |none=>simp only[tu];cases ae A x <;>rfl
theorem ahf(x:aJ):bN A d (.ent x) rest=cL (u6 A (ae A x)) (c8 d rest A):=by
 simp only[bN,bl,br]
 cases ae A x <;>rfl
theorem ahy(x:aJ):bN A d (.jl x) rest=xk A d rest (ae A x):=by
 simp only[bN,bl]
 cases ae A x <;>rfl
end
theorem ew :
  (∀ d rest A x,bN A d (.nilC x) rest=cL (lY (ae A x)) (c8 d rest A))∧(∀ n p,lY (.ptr n p)=some (.ptr n p))∧(∀ x,lY (.ref x)=some (.ref x)) ∧
  (∀ d rest A neg x y,bN A d (.ptrE neg x y) rest=cL (l6 neg (iH (ae A x)) (iH (ae A y))) (c8 d rest A))∧(iH .nilp=some true)∧(∀ n p,iH (.ptr n p)=some false)∧(∀ x,iH (.ref x)=some false) ∧
  (l6 false (some true) (some true)=some (.bool true))∧(l6 false (some false) (some true)=some (.bool false))∧(l6 true (some true) (some true)=some (.bool false))∧(l6 true (some false) (some true)=some (.bool true)) ∧
  (∀ d rest A ty z ok m k,bN A d (.lk ty z ok m k) rest=cL (qk ty z ok (ae A k) (fZ A (ae A m))) (c8 d rest A))∧(∀ A n,fZ A (.mref n)=xb (A.o n))∧(∀ A ks vs,fZ A (.cS ks vs)=some (ks,vs))∧(∀ ks vs,xb (some (.ct ks vs))=some (ks,vs)) ∧
  (∀ ty z ok k ks vs,qk ty z ok k (some (ks,vs))=ql ok (fX ty z k ks vs))∧(∀ v b,ql false (some (v,b))=some v)∧(∀ v b,ql true (some (v,b))=some (.tuple [v,.bool b])) ∧
  (∀ rest A ty m k v,bN A none (.gA ty m k v) rest=xe A ty (ae A k) (ae A v) rest (ae A m))∧(∀ A ty k v rest n,xe A ty k v rest (.mref n)=xf A n ty k v rest (A.o n))∧(∀ A n ty k v rest ks vs,xf A n ty k v rest (some (.ct ks vs))=xg A n rest (fQ ty k v ks vs)) ∧
  (∀ A n rest ks vs,xg A n rest (some (ks,vs))=aC rest (A.aR n (.ct ks vs))) ∧
  (∀ rest A d,bN A (some d) .jC rest=xd A d rest (A.o d))∧(∀ A d rest,xd A d rest none=aC rest ((A.aR d (.ct [] [])).put d (.mref d))) ∧
  (∀ rest A d e bytes z n,bN A (some d) (.jV e bytes z n) rest=sL A d bytes z (ae A n) rest (A.o d))∧(∀ A d bytes z n rest,sL A d bytes z n rest none=sM A d bytes z rest n) ∧
  (∀ rest A d x,bN A (some d) (.j0 x) rest=tu A d (ae A x) rest (A.o d))∧(∀ A d x rest,tu A d x rest none=xY A d rest x)∧(∀ A d rest ks vs,xY A d rest (.cS ks vs)=aC rest ((A.aR d (.it ks vs (List.range ks.length) none)).put d (.dj d))) ∧
  (∀ d rest A x,bN A d (.ent x) rest=cL (u6 A (ae A x)) (c8 d rest A))∧(∀ A n,u6 A (.dj n)=u7 (A.o n))∧(∀ ks vs l cur,u7 (some (.it ks vs l cur))=oL ks vs cur) ∧
  (∀ d rest A x,bN A d (.jl x) rest=xk A d rest (ae A x))∧(∀ A d rest n,xk A d rest (.dj n)=pf A d n rest (A.o n)) :=
 ⟨ahw,fun _ _=>rfl,fun _=>rfl,ahA,rfl,fun _ _=>rfl,fun _=>rfl,rfl,rfl,rfl,rfl,ahq,agB,fun _ _ _=>rfl,fun _ _=>rfl,fun _ _ _ _ _ _=>rfl,fun _ _=>rfl,fun _ _=>rfl,
  fun rest A ty m k v=>ahu rest A ty m k v,fun _ _ _ _ _ _=>rfl,fun _ _ _ _ _ _ _ _=>rfl,fun _ _ _ _ _=>rfl,fun rest A d=>ahs rest A d,fun _ _ _=>rfl,fun rest A d e bytes z n=>aht rest A d e bytes z n,fun _ _ _ _ _ _=>rfl,
  fun rest A d x=>ahB rest A d x,fun _ _ _ _=>rfl,fun _ _ _ _ _=>rfl,ahf,fun _ _=>rfl,fun _ _ _ _=>rfl,ahy,fun _ _ _ _=>rfl⟩
theorem eK:(∀ n p z lo k,bZ none (.view n p z lo k)=true)∧(∀ n,bZ none (.mref n)=true)∧(∀ n p,bZ none (.ptr n p)=true)∧(∀ x,bZ none (.ref x)=true)∧bZ none .nilp=true∧bZ none .de=true∧bZ none (.raw (.map none))=true∧(∀ ks vs,bZ none (.cS ks vs)=true)∧(∀ {α:Type} [Enc α] (l:List α),bZ none (enc l)=true) :=
 ⟨fun _ _ _ _ _=>rfl,fun _=>rfl,fun _ _=>rfl,fun _=>rfl,rfl,rfl,rfl,fun _ _=>rfl,fun l=>by simp[lL,mI]⟩
theorem agL{A:af}{d bytes:Nat}{z:I}{rest:List aB}{n:Nat}(h1:n*bytes≤281474976710656)(h2:n≤maxLen):sM A d bytes z rest (.int .i64 n)=aC rest ((A.aR d (.box (.agg (List.replicate n z)))).put d (.view d [] 1 0 n)):=by
 simp only[sM,Int.toNat_natCast]
 rw[if_pos ⟨Int.natCast_nonneg n,h1,h2⟩]
section
variable {α:Type} [Enc α] [DecidableEq α] {ty:cK}
theorem vm(aw:∀ x y:α,cj ty (enc x) (enc y)=some (decide (x=y)))(k:α):∀ (ks:List α) (i:Nat),eP ty (enc k) (ks.map enc) i=some ((ks.findIdx? fun x=>decide (k=x)).map (· + i))
 | [],i=>rfl
 |x::ks,i=>by
  simp only[List.map_cons,eP,aw,List.findIdx?_cons]
  by_cases h:k=x
  ·simp[h]
  ·simp only[h,decide_false,Bool.false_eq_true,if_false]
   rw[vm aw k ks (i+1)]
   cases ks.findIdx? fun x=>decide (k=x) with
   |none=>rfl
   |some j=>simp;omega
theorem wY(aw:∀ x y:α,cj ty (enc x) (enc y)=some (decide (x=y)))(z:I)(k:α)(ks:List α)(vs:List I) :
  fX ty z (enc k) (ks.map enc) vs=match ks.findIdx? fun x=>decide (k=x) with
   |some i=>(vs[i]?).map fun v=>(v,true)
   |none=>some (z,false):=by
 simp only[fX,aw,Option.isSome_some,if_true,vm aw]
 cases ks.findIdx? fun x=>decide (k=x) <;>rfl
theorem IH(aw:∀ x y:α,cj ty (enc x) (enc y)=some (decide (x=y)))(k:α)(v:I)(hv:v.cq=true)(ks:List α)(vs:List I) :
  fQ ty (enc k) v (ks.map enc) vs=match ks.findIdx? fun x=>decide (k=x) with
   |some i=>some (ks.map enc,vs.set i v)
   |none=>some ((ks++[k]).map enc,vs++[v]):=by
 simp only[fQ,aw,Option.isSome_some,hv,Ij (dO k),and_self,if_true,vm aw]
 cases ks.findIdx? fun x=>decide (k=x) with
 |none=>simp
 |some i=>rfl
omit [Enc α] in
theorem Cx{k:α}{ks:List α} : (ks.findIdx? fun x=>decide (k=x)).isSome=decide (k∈ks):=by
 induction ks with
 |nil=>rfl
 |cons x ks ih =>
  simp only[List.findIdx?_cons,List.mem_cons]
  by_cases h:k=x
  ·simp[h]
  ·simp only[h,decide_false,Bool.false_eq_true,if_false,Option.isSome_map,ih,false_or]
theorem agu(aw:∀ x y:α,cj ty (enc x) (enc y)=some (decide (x=y)))(k:α)(ks:List α):fX ty (.bool false) (enc k) (ks.map enc) (List.replicate ks.length (.bool true))=some (.bool (decide (k∈ks)),decide (k∈ks)):=by
 rw[wY aw,←Cx]
 cases h:ks.findIdx? fun x=>decide (k=x) with
 |none=>rfl
 |some i =>
  have:=(List.findIdx?_eq_some_iff_getElem.1 h).1
  simp[this]
def mA{α:Type}[DecidableEq α](ks:List α)(k:α):List α:=if k∈ks then ks else ks++[k]
omit [Enc α] in
theorem agF{ks:List α}{k x:α} : x∈mA ks k↔x=k∨x∈ks:=by
 unfold mA
 split
 ·rename_i h
  exact ⟨.inr,fun h2=>h2.elim (fun e=>e▸h) id⟩
 ·simp[or_comm]
theorem agS(aw:∀ x y:α,cj ty (enc x) (enc y)=some (decide (x=y)))(k:α)(ks:List α):fQ ty (enc k) (.bool true) (ks.map enc) (List.replicate ks.length (.bool true))=some ((mA ks k).map enc,List.replicate (mA ks k).length (.bool true)):=by
 rw[IH aw k _ rfl]
 have hm:=Cx (k:=k) (ks:=ks)
 cases h:ks.findIdx? fun x=>decide (k=x) with
 |none =>
  rw[h] at hm
  have:k∉ks:=by simpa using hm.symm
  simp only[mA,if_neg this]
  congr 2
  rw[List.length_append,List.length_singleton,List.replicate_succ']
 |some i =>
  rw[h] at hm
  have:k∈ks:=by simpa using hm.symm
  simp only[mA,if_pos this]
  congr 2
  have:=(List.findIdx?_eq_some_iff_getElem.1 h).1
  exact List.ext_getElem (by simp) fun j h1 h2=>by
   simp only[List.getElem_set,List.getElem_replicate];split <;>rfl
end
section
variable {α:Type} [Enc α]
theorem uo{xs:List α}{i:Nat}(d:α)(h:i<xs.length):jw i [] (some (xs.map enc))=some (enc (xs.getD i d)):=by
 simp[jw,oC,h,I.at,List.getD_eq_getElem?_getD]
theorem L8{A:af}{n i:Nat}{xs:List α}(v aq:α){rest:List aB}(hA:Enc.fP α=false)(h:i<xs.length):dY A none n [i] (.agg (xs.map enc)) (enc v) rest (some (enc aq))=aC rest (A.aR n (.box (.agg ((xs.set i v).map enc)))):=by
 rw[fq (dz v) (by rw[lL,hA];rfl) ((fm v).trans (fm aq).symm)]
 have h2:(xs.map (enc (α:=α)))[i]?=some (enc (xs[i])):=by simp[h]
 simp only[I.dK,h2,List.map_set]
end
theorem ajB{A:af}{n i:Nat}{xs:List Bool}(h:i<xs.length)(v aq:Bool)(rest:List aB):dY A none n [i] (.agg (xs.map enc)) (.bool v) rest (some (.bool aq))=aC rest (A.aR n (.box (.agg ((xs.set i v).map enc)))):=L8 v aq rfl h
theorem m7{A:af}{n i:Nat}{xs:List Int}(h:i<xs.length)(v aq:Int)(rest:List aB):dY A none n [i] (.agg (xs.map enc)) (.int .i64 v) rest (some (.int .i64 aq))=aC rest (A.aR n (.box (.agg ((xs.set i v).map enc)))):=L8 v aq rfl h
theorem zg{xs:List Bool}{i:Nat}(h:i<xs.length):jw i [] (some (xs.map enc))=some (.bool (xs.getD i false)):=uo false h
theorem gH{xs:List Int}{i:Nat}(h:i<xs.length):jw i [] (some (xs.map enc))=some (.int .i64 (xs.getD i 0)):=uo 0 h
theorem wS{m sz lo l i:Nat}{fs:List I}(h:i<l):lh m [] sz lo l sz (i:Int) (some fs)=some (.ptr m [lo+i]):=by rw[wR h];rfl
theorem W2{α:Type}[Enc α]{A:af}{m n sz k:Nat}{xs:List α}(ho:A.o n=some (.box (.agg (xs.map enc))))(hs:Enc.sz α=sz)(hk:k=xs.length):dU A (m+1) (.view n [] sz 0 k)=some (enc xs):=by
 subst hk hs
 have h1:cv A (.ptr n [])=some (.agg (xs.map enc)):=by simp only[cv,ho];rfl
 simp only[dU,I.bu,Bool.false_eq_true,if_false,h1]
 have h2:((xs.map (enc (α:=α))).drop 0).take xs.length=xs.map enc:=by rw[List.drop_zero,List.take_of_length_le (by simp)]
 rw[h2,if_pos (ke xs),gJ]
theorem hZ:(∀ {α:Type} [Enc α] (x:α),(enc x).bu=true)∧(∀ n p z lo k,(I.view n p z lo k).bu=false)∧(∀ n,(I.mref n).bu=false)∧(∀ n p,(I.ptr n p).bu=false)∧(∀ n k,(I.own n k).bu=false) :=
 ⟨@dO,fun _ _ _ _ _=>rfl,fun _=>rfl,fun _ _=>rfl,fun _ _=>rfl⟩
end Go.Abs
namespace Go.Abs
open Go Go.RowKit
open Enc (enc)
theorem aI.Od{A:af}{d n T z:Nat}(hd:A.t d=.nils z)(hn:A.o n=none)(hlt:n<1000000):aI A ((A.aR n (.cU T [])).put d (.own n 0)):=by
 rintro c a w ⟨D,E,h⟩
 have aw:E n=none:=by have:=h.bQ n;rw[hn] at this;exact this
 have hl:dM w D E w D (fun m=>if m=n then some (.rw none 0) else E m):=by
  have eh:∀ {m:Nat} {e:bR},E m=some e→(if m=n then some (.rw none 0) else E m)=some e:=fun {m e} he=>by
   have:m≠n:=fun e=>by rw[e,aw] at he;cases he
   rw[if_neg this];exact he
  refine ⟨fun _ _ h=>h,fun _ _ _ _ h=>h,fun m b aT he=>eh he,fun m aE l he =>?_,fun m b he=>eh he,fun m b he=>eh he,fun _ _ _ _ h=>h⟩
  ·have:m≠n:=fun e=>by rw[e,aw] at he;cases he
   exact ⟨aE,l,by simp only[if_neg this];exact he,Nat.le_refl _,fun _=>rfl⟩
 refine ⟨D,fun m=>if m=n then some (.rw none 0) else E m,h.sz,h.eG,fun t =>?_,h.dR,h.cZ,h.dc,fun m =>?_,fun m m' e e' b h1 h2 h3 h4 =>?_,fun m e hm =>?_,h.eQ,h.cJ,h.eU,h.fv⟩
 ·simp only[af.put,af.aR]
  by_cases ht:t=d
  ·subst ht
   simp only[if_true]
   have hv:=h.ed t
   rw[hd] at hv
   obtain ⟨cs,q1,q2⟩:=hv
   simp only[ah] at q2
   subst q2
   refine ⟨[.slice none 0 0],by simpa[bJ,I.isAgg] using q1,?_⟩
   simp only[ah,if_true]
   exact ⟨none,0,rfl,Nat.le_refl _,⟨_,_,_,rfl⟩,fun _=>trivial⟩
  ·simp only[if_neg ht]
   exact aW.bK hl (h.ed t)
 ·simp only[af.put,af.aR]
  by_cases hm:m=n
  ·subst hm
   simp only[if_true,c5]
   exact ⟨none,by simp,by simp,trivial⟩
  ·simp only[if_neg hm]
   exact (h.bQ m).bK hl (by simp only[if_neg hm]) fun _ _ _ _=>⟨rfl,fun _ ho=>ho⟩
 ·by_cases hm:m=n <;>by_cases hm':m'=n
  ·rw[hm,hm']
  ·simp only[if_pos hm,Option.some.injEq] at h1;subst h1;simp[bR.aE] at h3
  ·simp only[if_pos hm',Option.some.injEq] at h2;subst h2;simp[bR.aE] at h4
  ·simp only[if_neg hm] at h1;simp only[if_neg hm'] at h2;exact h.cT m m' e e' b h1 h2 h3 h4
 ·have hmn:m≠n:=fun e=>by rw[e,h.jO (.inr hlt)] at hm;cases hm
  simp only[if_neg hmn]
  exact h.dT m e hm
theorem aI.y6{ts:List (Nat×I)}{os:List (Nat×ai)}(d n T z:Nat)(hd:b8 ts d=.nils z)(hn:al os n=none){B:af}(h:aI (av ((d,.own n 0)::ts) ((n,.cU T [])::os)) B)(hlt:n<1000000:=by decide):aI (av ts os) B :=
 ((aI.Od (A:=av ts os) (T:=T) hd hn hlt).trans (by rw[nG,sI];exact aI.refl _)).trans h
theorem aI.Oe{A:af}{m n T z:Nat}{p:List Nat}{b:I}(hm:A.o m=some (.box b))(hp:b.at p=some (.nils z))(hn:A.o n=none)(hlt:n<1000000):aI A ((A.aR n (.cU T [])).aR m (.box (b.dK p (.own n 0)))):=by
 rintro c a w ⟨D,E,h⟩
 have aw:E n=none:=by have:=h.bQ n;rw[hn] at this;exact this
 have hmn:m≠n:=fun e=>by rw[e,hn] at hm;cases hm
 have hl:dM w D E w D (fun m=>if m=n then some (.rw none 0) else E m):=by
  have eh:∀ {m:Nat} {e:bR},E m=some e→(if m=n then some (.rw none 0) else E m)=some e:=fun {m e} he=>by
   have:m≠n:=fun e=>by rw[e,aw] at he;cases he
   rw[if_neg this];exact he
  refine ⟨fun _ _ h=>h,fun _ _ _ _ h=>h,fun m b aT he=>eh he,fun m aE l he =>?_,fun m b he=>eh he,fun m b he=>eh he,fun _ _ _ _ h=>h⟩
  ·have:m≠n:=fun e=>by rw[e,aw] at he;cases he
   exact ⟨aE,l,by simp only[if_neg this];exact he,Nat.le_refl _,fun _=>rfl⟩
 refine ⟨D,fun m=>if m=n then some (.rw none 0) else E m,h.sz,h.eG,fun t=>aW.bK hl (h.ed t),h.dR,h.cZ,h.dc,fun k =>?_,fun m m' e e' b h1 h2 h3 h4 =>?_,fun m e hm =>?_,h.eQ,h.cJ,h.eU,h.fv⟩
 ·simp only[af.aR]
  by_cases hk:k=m
  ·subst hk
   have ho:=h.bQ k
   rw[hm] at ho
   obtain ⟨b',cs,T',h1,h2,h3,h4,h5⟩:=ho
   obtain ⟨q1,q2⟩:=Ll (y:=.own n 0) (ah.bK hl _ _ h4) hp (fun ds hd=>by
    simp only[ah] at hd
    subst hd
    simp only[ah,if_true]
    exact ⟨none,0,rfl,Nat.le_refl _,⟨_,_,_,rfl⟩,fun _=>trivial⟩) rfl
   simp only[if_true,c5]
   exact ⟨b',cs,T',by rw[q2];simp only[if_neg hmn];exact h1,h2,h3,q1,h5⟩
  ·simp only[if_neg hk]
   by_cases hkn:k=n
   ·subst hkn
    simp only[if_true,c5]
    exact ⟨none,by simp,by simp,trivial⟩
   ·simp only[if_neg hkn]
    exact (h.bQ k).bK hl (by simp only[if_neg hkn]) fun _ _ _ _=>⟨rfl,fun _ ho=>ho⟩
 ·by_cases hm:m=n <;>by_cases hm':m'=n
  ·rw[hm,hm']
  ·simp only[if_pos hm,Option.some.injEq] at h1;subst h1;simp[bR.aE] at h3
  ·simp only[if_pos hm',Option.some.injEq] at h2;subst h2;simp[bR.aE] at h4
  ·simp only[if_neg hm] at h1;simp only[if_neg hm'] at h2;exact h.cT m m' e e' b h1 h2 h3 h4
 ·have hmn:m≠n:=fun e=>by rw[e,h.jO (.inr hlt)] at hm;cases hm
  simp only[if_neg hmn]
  exact h.dT m e hm
theorem aI.Of{ts:List (Nat×I)}{os:List (Nat×ai)}(m n T z:Nat)(p:List Nat)(b:I)(hm:al os m=some (.box b))(hp:b.at p=some (.nils z))(hn:al os n=none){B:af}(h:aI (av ts ((m,.box (b.dK p (.own n 0)))::(n,.cU T [])::os)) B)(hlt:n<1000000:=by decide):aI (av ts os) B :=
 ((aI.Oe (A:=av ts os) (T:=T) hm hp hn hlt).trans (by rw[nG,nG];exact aI.refl _)).trans h
theorem uh{A:af}{d:Option Nat}{e bytes n l:Nat}{xs:List Int}{y:Int}{rest:List aB}(hl:l=xs.length)(h1:xs.length+1≤maxLen)(h2:(xs.length+1)*bytes≤140737488355328) :
  ox A d e 1 bytes (.int .i64 0) n l e xs rest (enc [y])=aC rest ((A.aR n (.cU e (xs++[y]))).aO d (.own n (xs.length+1))):=by
 show ox A d e 1 bytes (.int .i64 0) n l e xs rest (.slice 1 [.int .i64 y])=_
 simp only[ox]
 rw[if_pos ⟨hl,rfl,rfl,rfl,rfl,by simp,h1,h2⟩]
 rfl
def fx(n k:Nat):I→I
 | .own n' k'=>if n'=n∧k'=k then .view n [] 1 0 k else .own n' k'
 |v=>v
def fw(n:Nat):I→I
 | .own n' k'=>if n'=n∧k'=0 then .nils 1 else .own n' k'
 |v=>v
def iw(f:I→I):ai→ai
 | .box v=>.box (f v)
 |y=>y
def mX(n k:Nat)(v:I):Prop:=v=.own n k∨v.only (fun j=>j != n)=true
def ahV(n k:Nat)(y:ai):Prop:=y=.box (.own n k)∨y.only (fun j=>j != n)=true
theorem qN{n k:Nat}{v:I}(h:v.only (fun j=>j != n)=true):fx n k v=v:=by
 cases v <;>try rfl
 rename_i n' k'
 simp only[I.only,bne_iff_ne,ne_eq] at h
 simp only[fx,h,false_and,if_false]
theorem yl{n:Nat}{v:I}(h:v.only (fun j=>j != n)=true):fw n v=v:=by
 cases v <;>try rfl
 rename_i n' k'
 simp only[I.only,bne_iff_ne,ne_eq] at h
 simp only[fw,h,false_and,if_false]
theorem oX(f:I→I)(hf:f .db=.db)(ts:List (Nat×I))(t:Nat):b8 (ts.map fun q=>(q.1,f q.2)) t=f (b8 ts t):=by
 induction ts with
 |nil=>exact hf.symm
 |cons q ts ih =>
  obtain ⟨k,v⟩:=q
  simp only[List.map_cons,b8]
  split
  ·rfl
  ·exact ih
theorem sC(f:ai→ai)(os:List (Nat×ai))(t:Nat):al (os.map fun q=>(q.1,f q.2)) t=(al os t).map f:=by
 induction os with
 |nil=>rfl
 |cons q os ih =>
  obtain ⟨k,v⟩:=q
  simp only[List.map_cons,al]
  split
  ·rfl
  ·exact ih
theorem c5.dv{M:Nat→Prop}{w:World}{D:aQ}{E E':aX}{p:Nat→Bool}(hp:∀ n,p n=true→E' n=E n){m:Nat}(aw:E' m=E m){y:ai}(hon:y.only p=true)(ho:c5 M w D E m (some y)):c5 M w D E' m (some y):=by
 cases y with
 |box x =>
  obtain ⟨b,cs,T,k1,k2,k3,k4,k5⟩:=ho
  exact ⟨b,cs,T,aw.trans k1,k2,k3,ah.dv hp _ _ (by simpa[ai.only] using hon) k4,k5⟩
 |bX T sz es =>
  obtain ⟨aE,k1,k2,k3⟩:=ho
  refine ⟨aE,aw.trans k1,k2,?_⟩
  cases aE with
  |none=>exact k3
  |some bc =>
   obtain ⟨b,cap⟩:=bc
   obtain ⟨cs,pre,rest,q1,q2,q3,q4,q5⟩:=k3
   exact ⟨cs,pre,rest,q1,q2,q3,aH.dv hp _ _ (by simpa[ai.only] using hon) q4,q5⟩
 |cU T xs =>
  obtain ⟨aE,k1,k2,k3⟩:=ho
  exact ⟨aE,aw.trans k1,k2,k3⟩
 |dJ x =>
  obtain ⟨b,k1,k2⟩:=ho
  exact ⟨b,aw.trans k1,k2⟩
 |ct ks vs =>
  obtain ⟨b,es,ck,k1,k2,k3,k4,k5,k6,k7⟩:=ho
  simp only[ai.only,Bool.and_eq_true] at hon
  exact ⟨b,es,ck,aw.trans k1,k2,k3,k4,aG.dv hp _ _ hon.1 k5,aG.dv hp _ _ hon.2 k6,k7⟩
 |it ks vs left cur =>
  obtain ⟨r,b,es,ck,si,se,la,k1,k2,k3,k4,k5,k6,k7⟩:=ho
  simp only[ai.only,Bool.and_eq_true] at hon
  exact ⟨r,b,es,ck,si,se,la,aw.trans k1,k2,k3,k4,aG.dv hp _ _ hon.1 k5,aG.dv hp _ _ hon.2 k6,k7⟩
theorem qI(xs:List Int):(I.agg (xs.map enc)).aT=.ej (List.replicate xs.length .one):=by
 show cO.ej (I.cM _)=_
 congr 1
 induction xs with
 |nil=>rfl
 |cons x xs ih=>simp only[List.map_cons,I.cM,ih,List.length_cons,List.replicate_succ];rfl
theorem qB{w:World}{D:aQ}{E:aX} : ∀ {xs:List Int},(∀ x∈xs,IntKind.i64.min≤x∧x≤IntKind.i64.max)→aH w D E (xs.map enc) (xs.map (Value.int .i64))
 | [],_=>rfl
 |x::xs,h=>⟨[.int .i64 x],xs.map (Value.int .i64),rfl,⟨rfl,h x (by simp)⟩,qB fun y hy=>h y (by simp[hy])⟩
theorem aI.Ml{ts:List (Nat×I)}{os:List (Nat×ai)}{n T:Nat}{B:af}(hn:al os n=some (.cU T []))
  (h:aI (av (ts.map fun q=>(q.1,fw n q.2)) (os.map fun q=>(q.1,iw (fw n) q.2))) B):aI (av ts os) B:=by
 refine aI.trans ?_ h
 rintro c a w ⟨D,E,hs⟩
 obtain ⟨aE,aw,-,hblk⟩:=hs.qO (n:=n) (T:=T) (xs:=[]) hn
 have hnone:aE=none:=by
  cases aE with
  |none=>rfl
  |some bc=>obtain ⟨b,cap⟩:=bc;obtain ⟨_,_,_,_,_,h,_⟩:=hblk;exact absurd rfl h
 subst hnone
 have conv:∀ (v:I) (cs:List Value),ah w D E v cs→ah w D E (fw n v) cs:=fun v cs hr=>by
  cases v <;>try exact hr
  rename_i n' k'
  simp only[fw]
  split
  ·rename_i hh
   obtain ⟨rfl,rfl⟩:=hh
   obtain ⟨blk',l,q3,q4,q5,q6⟩:=hr
   rw[aw] at q3
   simp only[Option.some.injEq,bR.rw.injEq,List.length_nil] at q3
   obtain ⟨rfl,rfl⟩:=q3
   exact q6 rfl
  ·exact hr
 refine ⟨D,E,hs.sz,hs.eG,fun t =>?_,hs.dR,hs.cZ,hs.dc,fun m =>?_,hs.cT,hs.dT,hs.eQ,hs.cJ,hs.eU,hs.fv⟩
 ·show aW w D E (b8 _ t) _
  rw[oX _ rfl]
  have:=hs.ed t
  simp only[av] at this
  revert this
  generalize b8 ts t=v
  intro hv
  cases v <;>try exact hv
  rename_i n' k'
  obtain ⟨cs,q1,q2⟩:=hv
  have:=conv _ _ q2
  revert this
  simp only[fw]
  split
  ·intro this;exact ⟨cs,q1,this⟩
  ·intro this;exact ⟨cs,q1,this⟩
 ·show c5 _ w D E m (al _ m)
  rw[sC]
  have:=hs.bQ m
  simp only[av] at this
  revert this
  cases al os m with
  |none=>exact id
  |some y =>
   cases y <;>try exact id
   rename_i x
   rintro ⟨b,cs,T,k1,k2,k3,k4,k5⟩
   refine ⟨b,cs,T,?_,k2,k3,conv _ _ k4,k5⟩
   rw[k1]
   have:(fw n x).aT=x.aT:=by
    cases x <;>try rfl
    simp only[fw]
    split <;>rfl
   rw[this]
theorem U.Mk{c:cQ}{x:aN}{Q:Exit→af→Prop}{ts:List (Nat×I)}{os:List (Nat×ai)}{n T:Nat}{xs:List Int}(hn:al os n=some (.cU T xs))(hne:xs≠[])(hlt:n<1000000)
  (ht:∀ t,mX n xs.length (b8 ts t)) (ho:∀ m y,al os m=some y→m≠n→ahV n xs.length y)
  (h:∀ q:Nat,U c x Q (av (ts.map fun p=>(p.1,fx n xs.length p.2)) ((n,.box (.agg ((xs++List.replicate q 0).map enc)))::os.map fun p=>(p.1,iw (fx n xs.length) p.2)))):U c x Q (av ts os):=by
 rintro code hc a w ⟨D,E,hs⟩
 obtain ⟨aE,aw,hr,hblk⟩:=hs.qO (n:=n) hn
 cases aE with
 |none=>exact absurd hblk hne
 |some bc =>
 obtain ⟨b,cap⟩:=bc
 obtain ⟨cs,q,hM,hb,hcs,-,hcap,hmax,hD⟩:=hblk
 have hp:∀ j,(fun j=>j != n) j=true→(fun j=>if j=n then some (bR.aD b (.ej (List.replicate (xs.length+q) .one))) else E j) j=E j:=fun j hj=>by
  have:j≠n:=by simpa using hj
  simp only[if_neg this]
 have conv:∀ cs0,ah w D E (.own n xs.length) cs0→ah w D (fun j=>if j=n then some (bR.aD b (.ej (List.replicate (xs.length+q) .one))) else E j) (.view n [] 1 0 xs.length) cs0:=fun cs0 hr=>by
  obtain ⟨blk',l,q3,q4,q5,q6⟩:=hr
  rw[aw] at q3
  simp only[Option.some.injEq,bR.rw.injEq] at q3
  obtain ⟨rfl,rfl⟩:=q3
  have:=q6 rfl
  refine ⟨b,_,0,List.replicate (xs.length+q) .one,if_pos rfl,rfl,rfl,?_,by rw[List.length_replicate];omega,by rw[List.length_replicate];omega,fun s hs =>?_⟩
  ·rw[this,List.length_replicate]
   simp only[Nat.zero_mul,Nat.add_zero,Nat.sub_zero,hcap]
  ·rw[List.eq_of_mem_replicate hs];rfl
 refine h q code hc a w ⟨D,fun j=>if j=n then some (.aD b (.ej (List.replicate (xs.length+q) .one))) else E j,hs.sz,hs.eG,fun t =>?_,hs.dR,hs.cZ,hs.dc,fun m =>?_,fun m m' e e' b1 h1 h2 h3 h4 =>?_,fun m e hm =>?_,hs.eQ,hs.cJ,hs.eU,hs.fv⟩
 ·show aW w D _ (b8 _ t) _
  rw[oX _ rfl]
  have hv:=hs.ed t
  simp only[av] at hv
  rcases ht t with h1 | h1
  ·rw[h1] at hv ⊢
   simp only[fx,and_self,if_true]
   obtain ⟨cs0,q1,q2⟩:=hv
   exact ⟨cs0,q1,conv _ q2⟩
  ·rw[qN h1]
   exact aW.dv hp h1 hv
 ·show c5 _ w D _ m (al _ m)
  simp only[al]
  by_cases hm:m=n
  ·subst hm
   simp only[if_true]
   refine ⟨b,cs,T,?_,hM,hb,?_,hD⟩
   ·simp only[if_true]
    rw[qI,List.length_append,List.length_replicate]
   ·show aH w D _ _ _
    rw[hcs]
    refine qB fun y hy =>?_
    rcases List.mem_append.1 hy with hy | hy
    ·exact hr y hy
    ·rw[List.eq_of_mem_replicate hy];decide
  ·simp only[if_neg hm]
   rw[sC]
   have hob:=hs.bQ m
   simp only[av] at hob
   cases hy:al os m with
   |none=>rw[hy] at hob;simp only[c5,Option.map_none] at hob ⊢;rw[if_neg hm];exact hob
   |some y =>
    rw[hy] at hob
    rcases ho m y hy hm with rfl | h1
    ·obtain ⟨b1,cs1,T1,k1,k2,k3,k4,k5⟩:=hob
     refine ⟨b1,cs1,T1,?_,k2,k3,?_,k5⟩
     ·simp only[if_neg hm]
      rw[k1]
      simp only[fx,and_self,if_true];rfl
     ·simp only[fx,and_self,if_true]
      exact conv _ k4
    ·have e:iw (fx n xs.length) y=y:=by
      cases y <;>try rfl
      simp only[ai.only] at h1
      simp only[iw,qN h1]
     simp only[Option.map_some,e]
     exact hob.dv hp (if_neg hm) h1
 ·have cut:∀ m e,(if m=n then some (bR.aD b (.ej (List.replicate (xs.length+q) .one))) else E m)=some e→∃ e2,E m=some e2∧e2.aE=e.aE:=fun m e he=>by
   by_cases hm:m=n
   ·subst hm
    rw[if_pos rfl] at he
    cases he
    exact ⟨_,aw,rfl⟩
   ·rw[if_neg hm] at he
    exact ⟨e,he,rfl⟩
  obtain ⟨e2,k1,k2⟩:=cut m e h1
  obtain ⟨e3,k3,k4⟩:=cut m' e' h2
  exact hs.cT m m' e2 e3 b1 k1 k3 (k2.trans h3) (k4.trans h4)
 ·have hmn:m≠n:=fun e=>by rw[e,hs.jO (.inr hlt)] at hm;cases hm
  simp only[if_neg hmn]
  exact hs.dT m e hm
def wT:Option Nat→Code
 |none=>.ret
 |some id=>.exit id
def Ck:Option Nat→Exit
 |none=>.ret
 |some id=>.exit id
def pF(o:Obj)(A:af)(os:List (Nat×ai)):Prop:=∀ n x,al (dE o os) n=some x→A.o n=some x∧x.only (au (dE o os))=true∧x.eC=true
def ai2(o:Obj)(In:List (Nat×ai)→Prop)(Ix:Option Nat→List (Nat×ai)→Prop):Exit→af→Prop
 | .normal,A=>∃ os,pF o A os∧In os
 | .ret,A=>∃ os,pF o A os∧Ix none os
 | .exit id,A=>∃ os,pF o A os∧Ix (some id) os
 |_,_=>False
def N1(P:Program)(nn:Nat)(x y:aN)(ps:List Nat)(tsR:List (Nat×I))(N:Nat)(item:Nat→List I)(aj:Nat→List (Nat×ai)→Prop)(Ix:Option Nat→List (Nat×ai)→Prop):Prop :=
 ∀ k osb,k<N→aj k osb→∀ (w:World) (D:aQ) (E:aX) (l:Nat) (o1 o2:Obj),
  U ⟨P,w,D,nn,dm E,E,il,some l⟩ x (ay (fun B=>B.o 1999999=some (.dJ o1)∧U ⟨P,w,D,nn,dm E,E,il,some l⟩ y (ai2 o2 (aj (k+1)) Ix) (B.aR 1999999 (.dJ o2))) (fun _ _=>False)) (av (qA ps (item k) tsR) (dE o1 osb))
section
variable {c:cQ} {Q:Exit→af→Prop}
theorem afD{o:Obj}{A:af}{os:List (Nat×ai)}(h:pF o A os)(o':Obj):∀ n x,al (dE o' os) n=some x→(A.aR 1999999 (.dJ o')).o n=some x∧x.only (au (dE o' os))=true∧x.eC=true:=fun n x hx=>by
 have e:au (dE o' os)=au (dE o os):=by funext m;rw[lg,lg]
 rw[e]
 by_cases hn:n=1999999
 ·subst hn
  rw[oW,if_pos rfl,Option.some.injEq] at hx
  subst hx
  exact ⟨by simp[af.aR],rfl,rfl⟩
 ·rw[oW,if_neg hn] at hx
  obtain ⟨h1,h2⟩:=h n x (by rw[oW,if_neg hn];exact hx)
  exact ⟨by simp only[af.aR,if_neg hn];exact h1,h2⟩
theorem U.kz{f:aJ}{ps:List Nat}{x y:aN}{ts tsR:List (Nat×I)}{os0 osb0:List (Nat×ai)}{ρ:List (Nat×Nat)}{g:FuncId}{caps:List I}{N:Nat}{item:Nat→List I}
  (aj:Nat→List (Nat×ai)→Prop) (Ix:Option Nat→List (Nat×ai)→Prop) (hr:c.mb=none) (hn6:c.n≤1000000)
  (hf:ae (av ts os0) f=.func g caps) (hcl:I.bV caps=true) (hcb:gI c.P g=true) (hit:ud c.P g caps N item) (hlen:∀ k,(item k).length=ps.length)
  (hfree:al os0 999999=none) (h19:au osb0 1999999=false) (hρ:bF ρ 1999999=999999)
  (hgv:∀ o,fy ρ (dE o osb0) ((999999,.dJ o)::os0)) (hts:mq ρ (au osb0) ts tsR)
  (hI:∀ k os,aj k os→fk osb0 os) (hIx:∀ e os,Ix e os→fk osb0 os) (h0:aj 0 osb0)
  (hround:N1 c.P c.n x y ps tsR N item aj Ix)
  (hdone:∀ os,aj N os→Q .normal (av ts (dF ρ os++os0))) (hexit:∀ e os,Ix e os→Q (Ck e) (av ts (dF ρ os++os0))) :
  U c (.kz f ps x y) Q (av ts os0):=by
 intro code hc a w hs
 cases code <;>simp only[eZ] at hc <;>try (first | (cases hc;done) | ((repeat' split at hc) <;>cases hc;done))
 rename_i cf cps cx cy
 split at hc
 case h_2=>cases hc
 rename_i f' x' y' hcf hcx hcy
 split at hc
 case isFalse=>cases hc
 rename_i hpn
 simp only[Option.some.injEq,aN.kz.injEq] at hc
 obtain ⟨rfl,rfl,rfl,rfl⟩:=hc
 obtain ⟨D,E,hs⟩:=hs
 have hF:c.bt=Fence.wide:=by unfold cQ.bt;rw[hr]
 have hE0:c.dp 999999=none:=hs.jO (.inr (by decide))
 have hval:∃ vs:List Value,a.eval cf=.func (.func g) #[] vs.toArray∧aG w D E caps vs:=by
  have hv:=b7 hs hcf
  rw[hf] at hv
  obtain ⟨cs,q1,q2⟩:=hv
  simp only[ah] at q2
  obtain ⟨vs,q3,q4⟩:=q2
  exact ⟨vs,by simpa[bJ,I.isAgg,q3] using q1.symm,q4⟩
 obtain ⟨vs,hval,hvs⟩:=hval
 rw[hF]
 refine wpIn_rangeFunc fun fn hfn =>?_
 obtain ⟨rec,hrec⟩:∃ rec:LoopState→Option Code→Loop,rec=fun bx pe => { state:=bx,pending:=pe,fn,tmps:=a.tmps,params:=cps,assign:=cx,body:=cy,defers:=w.heap.size } :=⟨_,rfl⟩
 obtain ⟨E1,hs1,hE1,hup⟩:=hs.enter hfree hE0 (o:=.loop (rec .ready none)) rfl
 obtain ⟨W1,hW1⟩:∃ W1,(w.alloc (.deferred (some []))).alloc (.loop (rec .ready none))=W1:=⟨_,rfl⟩
 rw[hW1] at hs1 hup
 obtain ⟨l,hl⟩:∃ l,l=w.heap.size+1:=⟨_,rfl⟩
 rw[←hl] at hE1
 obtain ⟨yv,hyv⟩:∃ yv:Value,yv=.func (.yield l) #[] #[]:=⟨_,rfl⟩
 obtain ⟨a1,ha1⟩:∃ a1:Act,a1 = { a with defers := { target:=.collected w.heap.size,args := #[] } :: a.defers } :=⟨_,rfl⟩
 rw[←ha1] at hs1
 refine ⟨l,[{ target:=.collected w.heap.size,args := #[] }],W1,{ target:=.fn (.func g) vs.toArray,args := #[yv] },W1,g,#[yv]++vs.toArray,W1,?_,?_,?_,?_,fun _=>by decide,?_⟩
 ·rw[←hW1,hrec,hl]
  exact run_enterLoop_outer _ _ _ _ _
 ·simp only[resolve,hval,hyv]
  simp[go_sem]
 ·intro f' _;trivial
 ·simp only[invoke,x2 hcb]
 ·-- the iterator's own bargain
  have hG0:=hI 0 osb0 h0
  obtain ⟨I',hI'⟩:∃ I':Nat→List (Nat×ai)→Prop,I'=fun k os=>∃ osb,os=dE (.loop (rec .ready none)) osb∧aj k osb:=⟨_,rfl⟩
  obtain ⟨Ix',hIx'⟩:∃ Ix':List (Nat×ai)→Prop,Ix'=fun os=>∃ e osb,os=dE (.loop (rec .done (some (wT e)))) osb∧Ix e osb:=⟨_,rfl⟩
  obtain ⟨os1,hos1⟩:∃ os1,os1=dE (.loop (rec .ready none)) osb0:=⟨_,rfl⟩
  obtain ⟨Y,hY⟩:∃ Y:Value→List I→List (Nat×ai)→cR→Prop,Y=fun v args os post=>v=yv∧∃ k,args=item k∧k<N∧I' k os∧∀ r os2,(r=.bool true∧I' (k+1) os2)∨(r=.bool false∧Ix' os2)→post r os2:=⟨_,rfl⟩
  have jP:∀ k os',I' k os'→fk os1 os':=fun k os' h=>by
   rw[hI'] at h;obtain ⟨osb,rfl,h⟩:=h
   rw[hos1];exact (hI k osb h).dE _ _
  have goodx:∀ os',Ix' os'→fk os1 os':=fun os' h=>by
   rw[hIx'] at h;obtain ⟨e,osb,rfl,h⟩:=h
   rw[hos1];exact (hIx e osb h).dE _ _
  have hctr:=hit Y yv I' Ix' os1 (by rw[hyv];rfl) (fun k os' post hk h1 h2=>by rw[hY];exact ⟨rfl,k,rfl,hk,h1,h2⟩) jP goodx (by rw[hI'];exact ⟨osb0,hos1,h0⟩)
  have hgv1:fy ρ os1 ((999999,.dJ (.loop (rec .ready none)))::os0):=by rw[hos1];exact hgv _
  obtain ⟨A0,hA0⟩:∃ A0:af,A0=av ts ((999999,.dJ (.loop (rec .ready none)))::os0):=⟨_,rfl⟩
  have hand:pI (Calls c.P g) (fun w D E=>∀ n,oq ⟨c.P,w,D,n,dm E,E,Y,none⟩) (.raw yv::caps) os1 (fun r os'=>r=.tuple []∧(I' N os'∨Ix' os')):=fun w D E vs hy hlive hheld hv=>by
   refine (hctr.2 w D E vs hy hlive hheld hv).mono fun e w' ⟨v,he,D',E',r,os',q⟩=>⟨v,D',E',r,os',he,q⟩
  have hshare:=hs1.nU
  obtain ⟨Dh,hDh⟩:∃ Dh,Dh=nQ (av ts ((999999,.dJ (.loop (rec .ready none)))::os0)) D E1:=⟨_,rfl⟩
  rw[←hDh] at hshare
  have hsh:=hshare.1
  obtain ⟨Eh,hEh⟩:∃ Eh,Eh=aw ρ os1 E1:=⟨_,rfl⟩
  have isrec:au os1 1999999=true:=by rw[hos1,lg];simp
  have hEl:Eh 1999999=some (.op l):=by rw[hEh];simp only[aw,isrec,if_true,hρ];exact hE1
  have EhIn:∀ n e,Eh n=some e→au os1 n=true:=fun n e h=>by
   rw[hEh] at h;simp only[aw] at h;split at h
   ·assumption
   ·cases h
  have hyok:∀ n,oq ⟨c.P,W1,Dh,n,dm Eh,Eh,Y,none⟩:=by
   intro n v' args os' post' hYv w2 D2 E2 vs2 hsince hlive hheld hrvs
   rw[hY] at hYv
   obtain ⟨rfl,k,rfl,hkN,hIk,hpost⟩:=hYv
   have hIk0:=hIk
   rw[hI'] at hIk
   obtain ⟨osb,rfl,hIk⟩:=hIk
   have gk:=jP k _ hIk0
   have gkb:=hI k osb hIk
   have in2:∀ m,au os1 m=true→E2 m≠none:=fun m hm=>by
    rw[←gk.same m] at hm
    cases hx:al (dE (.loop (rec .ready none)) osb) m with
    |none=>simp[au,hx] at hm
    |some x=>have:=hheld.bQ m;rw[hx] at this;exact sS this
   have same2:∀ m e,Eh m=some e→e.eC=true→E2 m=some e:=fun m e he hfx=>by
    rcases hsince.dT m e he with h | ⟨e',h,hle⟩
    ·exact absurd h (in2 m (EhIn m e he))
    ·rw[hle.eq hfx] at h;exact h
   have hEl2:E2 1999999=some (.op l):=same2 _ _ hEl rfl
   have hob:=hheld.bQ 1999999
   rw[oW,if_pos rfl] at hob
   obtain ⟨b,j1,_,j3,_,_⟩:=hob
   rw[hEl2] at j1
   cases j1
   have hsz:vs2.toArray.size=cps.size:=by have:=x9 hrvs;rw[hlen] at this;simpa using this
   have hyr:=run_yield (P:=c.P) (args:=vs2.toArray) j3 (by rw[hrec];exact hsz)
   rw[hrec] at hyr
   refine ⟨l,hyv,fn,_,cx,cy,hyr,roundIn_of_wpIn trivial ?_⟩
   clear hyr
   -- the round's own frame
   obtain ⟨cr,hcr⟩:∃ cr:cQ,cr=⟨c.P,w2,D2,c.n,dm E2,E2,il,some l⟩:=⟨_,rfl⟩
   have hFr:cr.bt=Fence.wide.inRound l:=by rw[hcr];rfl
   have hlat:dM W1 Dh Eh w2 D2 E2:=by
    refine ⟨hsince.cJ,hsince.fv.cell,fun m b aT he=>same2 m _ he rfl,fun m aE l he =>?_,fun m b he=>same2 m _ he rfl,fun m b he=>same2 m _ he rfl,hsince.fv.jk⟩
    rcases hsince.dT m _ he with h | ⟨e',h,hle⟩
    ·exact absurd h (in2 m (EhIn m _ he))
    ·rcases hle with rfl | ⟨_,_,blk',l',e,rfl,k1,k2⟩
     ·exact ⟨aE,l,h,Nat.le_refl _,fun _=>rfl⟩
     ·cases e;exact ⟨blk',l',h,k1,k2⟩
   have hslots:mq ρ (au os1) ts tsR:=by
    have:∀ tsR:List (Nat×I),mq ρ (au osb0) ts tsR→mq ρ (au os1) ts tsR:=by
     intro tsR
     induction tsR with
     |nil=>exact fun h=>h
     |cons q r ih =>
      intro h
      obtain ⟨h1,h2,h3⟩:=h
      exact ⟨h1,iN (fun n hn=>by rw[hos1,lg,hn];simp) _ h2,ih h3⟩
    exact this tsR hts
   have hsr:aU cr (av tsR (dE (.loop (rec .ready none)) osb)) { tmps:=a.tmps,defers:=[] } w2 D2 E2:=by
    rw[hcr]
    refine ⟨hs.sz,⟨[],rfl,.nil,fun _ h=>by simp at h⟩,fun t =>?_,fA.refl _ _,fun _ _ h _=>h,hlive,fun m=>(hheld.bQ m).lW fun e b he hb=>.inr ⟨m,e,he,hb⟩,hheld.cT,fun _ e h=>.inr ⟨e,h,.refl e⟩,fun m hm =>?_,fun _ _ h=>h,(fun _ _ _ _ h=>h.elim),.refl _ _⟩
    ·rcases LY hslots t with h | ⟨h1,h2⟩
     ·simp only[av];rw[h];simp[aW]
     ·have h3:=hsh.ed t
      rw[ha1] at h3
      simp only[av] at h3 ⊢
      rw[h1] at h3
      have h4:=(aW.aS (w:=W1) (D:=Dh) (p:=au os1) (ρ:=bF ρ) (E:=Eh) (E':=E1) (fun n hn=>by rw[hEh];simp only[aw,hn,if_true]) h2).1 h3
      exact aW.bK hlat h4
    ·have hmi:au os1 m=true:=by
      rw[←gk.same m]
      have:=hheld.bQ m
      cases hx:al (dE (.loop (rec .ready none)) osb) m with
      |none=>rw[hx] at this;exact absurd this hm
      |some x=>simp[au,hx]
     have:=gk.nu m hmi
     exact ⟨Nat.le_trans hn6 this,this⟩
   have hsp:=aU.Jr cps.toList vs2 (item k) tsR _ hsr (fun p hp=>by rw[hcr];have:=List.all_eq_true.1 hpn p hp;simpa using this) hrvs (by have:=hsz;simpa using this.symm)
   have htm:(cps.zip vs2.toArray).foldl (fun t (q:Tmp×Value)=>t.setIfInBounds q.1 q.2) a.tmps=(cps.toList.zip vs2).foldl (fun t q=>t.setIfInBounds q.1 q.2) a.tmps:=by
    rw[←Array.foldl_toList];simp
   have hx:=hround k osb hkN hIk w2 D2 E2 l (.loop (rec .ready none)) (.loop { rec .ready none with state:=.busy })
   rw[←hcr] at hx
   have hx1:=hx cx (by rw[hcr];exact hcx) _ w2 ⟨D2,E2,hsp⟩
   rw[hFr] at hx1
   simp only[←htm] at hx1
   rw[hcr] at hx1
   refine wpIn_mono hx1 ?_
   rintro e ax wx ⟨B,hq,hsx⟩
   rw[←hcr] at hq hsx
   cases e <;>simp only[ay] at hq <;>try exact hq.elim
   simp only[Exit.then]
   obtain ⟨hB1,hB2⟩:=hq
   obtain ⟨Dx,Ex,hsx⟩:=hsx
   have hElx:Ex 1999999=some (.op l):=by
    have ho:=hsx.bQ 1999999
    rw[hB1] at ho
    rcases hsx.CA (n:=1999999) (by rw[hcr];exact hEl2) rfl with h | h
    ·exact absurd h (sS ho)
    ·exact h
   have hLx:wx.heap[l]?=some (.loop (rec .ready none)):=by
    have ho:=hsx.bQ 1999999
    rw[hB1] at ho
    obtain ⟨b,k1,_,k3,_⟩:=ho
    rw[hElx] at k1;cases k1;exact k3
   refine ⟨_,run_beginRound hLx (by rw[hrec]),?_⟩
   have hsb:=hsx.yc (o':=.loop { rec .ready none with state:=.busy }) hB1 hElx rfl
   have hy1:=hB2 cy (by rw[hcr];exact hcy) _ _ ⟨Dx,Ex,hsb⟩
   rw[hFr] at hy1
   rw[hcr] at hy1
   refine wpIn_mono hy1 ?_
   rintro e a3 w3 ⟨A3,hq3,D3,E3,hs3⟩
   rw[←hcr] at hs3
   -- the end of the round
   have bp:∀ (os:List (Nat×ai)) (jump:Option Code),pF (.loop { rec .ready none with state:=.busy }) A3 os→(post' (.bool jump.isNone) (dE (.loop (rec (if jump.isNone then .ready else .done) jump)) os)) →
     ∃ v w',(Instr.endRound l jump).run c.P w3=.ok v w'∧(fun e w'=>∃ v D' E' r os',e=Ending.returned v∧post' r os'∧aW w' D' E' r v∧kG (fun b=>w2.heap.size≤b∨dm E2 b) w' D' E' (al os') ∧
      fA (fun b=>w2.heap.size≤b∨dm E2 b) w2 w'∧(∀ b o,D2 b o→D' b o)∧(∀ b o,D' b o→b<w'.heap.size)∧(∀ b o,D' b o→b<w2.heap.size→¬ dm E2 b→D2 b o) ∧
      (∀ n e,E2 n=some e→au os' n=true→∃ e',E' n=some e'∧e.le e')∧gZ w2 D2 w') (.returned v) w':=fun os jump hbk hp=>by
    have hA3:A3.o 1999999=some (.dJ (.loop { rec .ready none with state:=.busy })):=(hbk 1999999 _ (by rw[oW,if_pos rfl])).1
    have hEl3:E3 1999999=some (.op l):=by
     have ho:=hs3.bQ 1999999
     rw[hA3] at ho
     rcases hs3.CA (n:=1999999) (by rw[hcr];exact hEl2) rfl with h | h
     ·exact absurd h (sS ho)
     ·exact h
    have hL3:w3.heap[l]?=some (.loop { rec .ready none with state:=.busy }):=by
     have ho:=hs3.bQ 1999999
     rw[hA3] at ho
     obtain ⟨b,k1,_,k3,_⟩:=ho
     rw[hEl3] at k1;cases k1;exact k3
    have hend:=run_endRound (P:=c.P) jump hL3
    have erec:({ rec .ready none with state:=if jump.isNone then LoopState.ready else .done,pending:=jump } : Loop)=rec (if jump.isNone then .ready else .done) jump:=by rw[hrec]
    have hend':(Instr.endRound l jump).run c.P w3=.ok (.bool jump.isNone) (w3.putObj l (.loop (rec (if jump.isNone then .ready else .done) jump))):=by
     rw[hend];rw[hrec]
    have hs4:=hs3.yc (o':=.loop (rec (if jump.isNone then .ready else .done) jump)) hA3 hEl3 rfl
    rw[hcr] at hs4
    obtain ⟨D',E',_,_,_,q1,q2,q3,q4,q5,q6⟩:=hs4.Io (afD hbk _)
    exact ⟨_,_,hend',_,D',E',.bool jump.isNone,_,rfl,hp,⟨[.bool jump.isNone],by simp[bJ,I.isAgg],by simp[ah]⟩,q1,q2,q3,q4,q5,q6⟩
   cases e with
   |normal =>
    obtain ⟨os,hbk,hin⟩:=hq3
    exact bp os none hbk (hpost _ _ (.inl ⟨rfl,by rw[hI'];exact ⟨os,rfl,hin⟩⟩))
   |ret =>
    obtain ⟨os,hbk,hin⟩:=hq3
    exact bp os (some .ret) hbk (hpost _ _ (.inr ⟨rfl,by rw[hIx'];exact ⟨none,os,rfl,hin⟩⟩))
   |exit id =>
    obtain ⟨os,hbk,hin⟩:=hq3
    exact bp os (some (.exit id)) hbk (hpost _ _ (.inr ⟨rfl,by rw[hIx'];exact ⟨some id,os,rfl,hin⟩⟩))
   |goto t=>exact hq3.elim
   |panic ch=>exact hq3.elim
   |outgrown=>exact hq3.elim
  -- the call
  have hargs:fG (aW W1 D E1) (.raw yv::caps) (yv::vs):=by
   exact .cons ⟨[yv],by simp[bJ,I.isAgg],by rw[hyv];exact ⟨rfl,rfl⟩⟩ (x6 (hup caps vs hvs))
  have hus:=hand.use (ρ:=ρ) hs1 false (fun h=>h.mono) ⟨(fun h=>by cases h),fun _=>by rw[←hDh,←hEh];exact hyok⟩ hgv1 (uk _ (by simp[I.bV,I.bu,hcl]))
   (fun r os' hp=>by
    have gg:fk os1 os':=by
     rcases hp.2 with h | h
     ·exact jP _ _ h
     ·exact goodx _ h
    refine ⟨fun m x hx=>⟨(gg.ok m x hx).1,(gg.ok m x hx).2,fun h=>by cases h⟩,fun m m' h1 h2=>hgv1.inj m m' (by rw[←gg.same];exact h1) (by rw[←gg.same];exact h2),fun m hm=>by rw[gg.same];exact hm,fun m h1 h2=>(by rw[gg.same,h2] at h1;cases h1),(by rw[hp.1];simp[I.only,I.bU]),fun h=>by cases h⟩) hargs
  have ecl : #[yv]++vs.toArray=(yv::vs).toArray:=by simp
  rw[ecl]
  refine CallsIn.mono (callsIn_wide.2 hus) ?_
  rintro e w3 ⟨v,r,os',D2,E2,rfl,hp,hs2,_,hE2⟩
  have key:∀ (o3:Obj) (osb:List (Nat×ai)),os'=dE o3 osb→oT o3=true→E2 999999=some (.op l)∧w3.heap[l]?=some o3∧∀ o4,oT o4=true→cn c (av ts (dF ρ osb++os0)) a1 (w3.putObj l o4):=fun o3 osb he h3=>by
   subst he
   have hn2:E2 999999=some (.op l):=by
    obtain ⟨e',h1,h2⟩:=hE2 1999999 (.op l) (by rw[←hEh];exact hEl) (by rw[lg];simp)
    rw[hρ] at h1
    rw[h1,h2.eq rfl]
   have eos:dF ρ (dE o3 osb)=(999999,.dJ o3)::dF ρ osb:=by simp only[dE,dF,List.map_cons,hρ,ai.aS]
   rw[eos] at hs2
   have ha:(av ts ((999999,ai.dJ o3)::dF ρ osb++(999999,.dJ (.loop (rec .ready none)))::os0)).o 999999=some (.dJ o3):=by simp[av,al]
   have hgb:∀ m,au osb m=true→bF ρ m≠999999:=fun m hm e=>by
    have h5:au (dE o3 osb) m=true:=by rw[lg,hm];simp
    have g5:fk os1 (dE o3 osb):=by
     rcases hp.2 with h | h
     ·exact jP _ _ h
     ·exact goodx _ h
    have h6:=hgv1.inj m 1999999 (by rw[←g5.same];exact h5) isrec (by rw[hρ];exact e)
    subst h6
    have h7:fk osb0 osb:=by
     rcases hp.2 with h | h
     ·rw[hI'] at h;obtain ⟨osb',h8,h9⟩:=h
      simp only[dE,List.cons.injEq] at h8
      rw[h8.2];exact hI _ _ h9
     ·rw[hIx'] at h;obtain ⟨e,osb',h8,h9⟩:=h
      simp only[dE,List.cons.injEq] at h8
      rw[h8.2];exact hIx _ _ h9
    rw[h7.same,h19] at hm;cases hm
   refine ⟨hn2,?_,fun o4 h4 =>?_⟩
   ·have ho:=hs2.bQ 999999
    rw[ha] at ho
    obtain ⟨b,k1,_,k3,_⟩:=ho
    rw[hn2] at k1;cases k1;exact k3
   ·have h5:=(hs2.yc (o':=o4) ha hn2 h4).Wu hn2
    have hst:(⟨((av ts ((999999,ai.dJ o3)::dF ρ osb++(999999,.dJ (.loop (rec .ready none)))::os0)).aR 999999 (.dJ o4)).t,fun m=>if m=999999 then none else
      ((av ts ((999999,ai.dJ o3)::dF ρ osb++(999999,.dJ (.loop (rec .ready none)))::os0)).aR 999999 (.dJ o4)).o m⟩:af)=av ts (dF ρ osb++os0):=by
     simp only[av,af.aR]
     congr 1
     funext m
     by_cases hm:m=999999
     ·subst hm
      simp only[if_true,qn]
      cases hq:pre ρ osb 999999 with
      |none=>exact hfree.symm
      |some k=>exact absurd (lv hq).2 (hgb k (lv hq).1)
     ·simp only[if_neg hm,List.cons_append,al,qn]
    rw[hst] at h5
    exact ⟨D2,_,h5⟩
  rcases hp.2 with h | h
  ·rw[hI'] at h
   obtain ⟨osb,he,hin⟩:=h
   obtain ⟨k1,k2,k3⟩:=key _ osb he rfl
   refine ⟨none,_,(by have:=run_endLoop (P:=c.P) k2 (by rw[hrec];simp);rw[hrec] at this;exact this),_,hdone osb hin,?_⟩
   have:=k3 (.loop { rec .ready none with state:=.exhausted }) rfl
   rw[ha1] at this
   rw[hrec] at this
   exact this
  ·rw[hIx'] at h
   obtain ⟨e,osb,he,hin⟩:=h
   obtain ⟨k1,k2,k3⟩:=key _ osb he rfl
   refine ⟨some (wT e),_,(by have:=run_endLoop (P:=c.P) k2 (by rw[hrec];simp);rw[hrec] at this;exact this),?_⟩
   have:=k3 (.loop { rec .done (some (wT e)) with state:=.exhausted }) rfl
   rw[ha1] at this
   rw[hrec] at this
   have hq:Is c Q (Ck e) { a with defers := { target:=.collected w.heap.size,args := #[] } :: a.defers } _:=⟨_,hexit e osb hin,this⟩
   cases e with
   |none=>exact wpIn_ret hq
   |some id=>exact wpIn_exit hq
end
mutual
theorem lx{ρ:Nat→Nat}(h:∀ n,ρ n=n):∀ x:I,x.aS ρ=x
 | .agg fs | .tuple fs=>by simp only[I.aS];rw[l9 h fs]
 | .slice _ es=>by simp only[I.aS];rw[l9 h es]
 | .ref x=>by simp only[I.aS];rw[lx h x]
 | .func _ caps=>by simp only[I.aS];rw[l9 h caps]
 | .iface _ v=>by simp only[I.aS];rw[lx h v]
 | .ptr _ _ | .own _ _ | .view _ _ _ _ _ | .mref _ | .dj _=>by simp only[I.aS,h]
 | .cS ks vs=>by simp only[I.aS];rw[l9 h ks,l9 h vs]
 | .bool _ | .int _ _ | .cX _ | .nilp | .de | .dQ | .raw _ | .nils _ | .c0 _ | .undef | .db=>by simp only[I.aS]
theorem l9{ρ:Nat→Nat}(h:∀ n,ρ n=n):∀ xs:List I,I.cW ρ xs=xs
 | []=>rfl
 |x::xs=>by simp only[I.cW];rw[lx h x,l9 h xs]
end
theorem ai.lx{ρ:Nat→Nat}(h:∀ n,ρ n=n):∀ x:ai,x.aS ρ=x
 | .box x=>by simp only[ai.aS,Abs.lx h]
 | .bX _ _ es=>by simp only[ai.aS,l9 h]
 | .dJ _=>rfl
 | .cU _ _=>rfl
 | .ct _ _=>by simp only[ai.aS,l9 h]
 | .it _ _ _ _=>by simp only[ai.aS,l9 h]
theorem tm(os:List (Nat×ai)):dF [] os=os:=by
 simp only[dF]
 have:(fun q:Nat×ai=>(bF [] q.1,q.2.aS (bF [])))=id:=by
  funext q
  rw[ai.lx (ρ:=bF []) (fun n=>rfl)];rfl
 rw[this,List.map_id]
theorem jU(a b:List (Nat×ai))(n:Nat):al (a++b) n=match al a n with
  |some x=>some x
  |none=>al b n:=by
 induction a with
 |nil=>rfl
 |cons q a ih =>
  obtain ⟨k,v⟩:=q
  simp only[List.cons_append,al]
  split
  ·rfl
  ·exact ih
theorem fk.none{os os':List (Nat×ai)}(h:fk os os'){n:Nat}(hn:n<1000000):al os' n=none:=by
 cases hx:al os' n with
 |none=>rfl
 |some x =>
  have h1:au os' n=true:=by simp[au,hx]
  rw[h.same] at h1
  exact absurd (h.nu n h1) (by omega)
theorem aI.c7{ts ts':List (Nat×I)}{os os':List (Nat×ai)}(h1:bd ts ts')(h2:∀ n,al os n=al os' n):aI (av ts os) (av ts' os'):=by
 have e:av ts os=av ts os':=by
  simp only[av];congr 1;funext n;exact h2 n
 rw[e]
 rintro c a w ⟨D,E,hs⟩
 refine ⟨D,E,hs.sz,hs.eG,fun t =>?_,hs.dR,hs.cZ,hs.dc,hs.bQ,hs.cT,hs.dT,hs.eQ,hs.cJ,hs.eU,hs.fv⟩
 rcases yj h1 t with h | h
 ·simp only[av];rw[h];simp[aW]
 ·have:=hs.ed t
  simp only[av] at *
  rw[h];exact this
theorem zh{os osk os2 ow:List (Nat×ai)}{ts:List (Nat×I)}(h1:fk os osk)(h2:fk os os2)(how:∀ m,au ow m=true→m<1000000):av ts (dF [] os2++(ow++osk))=av ts (ow++os2):=by
 simp only[av,tm]
 congr 1
 funext n
 simp only[jU]
 cases hw:al ow n with
 |none =>
  simp only
  cases h3:al os2 n with
  |some x=>rfl
  |none =>
   simp only
   cases h4:al osk n with
   |none=>rfl
   |some x =>
    have h5:au osk n=true:=by simp[au,h4]
    rw[h1.same,←h2.same] at h5
    simp[au,h3] at h5
 |some x =>
  simp only
  rw[h2.none (how n (by simp[au,hw]))]
theorem fy.jP{os osk ow:List (Nat×ai)}(h1:fk os osk)(how:∀ m,au ow m=true→m<1000000):fy [] osk (ow++osk):=by
 refine ⟨fun m x hx =>?_,fun m m' _ _ h=>h⟩
 have hm:au osk m=true:=by simp[au,hx]
 have hg:=h1.nu m (by rw[←h1.same];exact hm)
 obtain ⟨k1,k2⟩:=h1.ok m x hx
 refine ⟨?_,k1,k2⟩
 rw[ai.lx (ρ:=bF []) (fun n=>rfl)]
 simp only[bF,jU]
 cases hw:al ow m with
 |none=>exact hx
 |some y=>have:=how m (by simp[au,hw]);omega
theorem dn.jP{os osk os2 os0:List (Nat×ai)}{r:I}(h1:fk os osk)(h2:fk os os2)(hr:r.bu=true):dn false [] osk os0 r os2:=by
 refine ⟨fun m x hx=>⟨(h2.ok m x hx).1,(h2.ok m x hx).2,fun h=>by cases h⟩,fun m m' _ _ h=>h,fun m hm=>by rw[h2.same,←h1.same];exact hm,fun m h3 h4 =>?_,l5 _ r hr,fun h=>by cases h⟩
 rw[h2.same,←h1.same,h4] at h3;cases h3
theorem a6.Mu{P:Program}{Y:Value→List I→List (Nat×ai)→cR→Prop}{K:af→Prop}{v:Value}{vs:List I}{dst:Option Nat}{rest:List aB}{ts:List (Nat×I)}{os osk ow:List (Nat×ai)}{In Ix:List (Nat×ai)→Prop}
  (hY:Y v vs osk (fun r os2=>(r=.bool true∧In os2)∨(r=.bool false∧Ix os2))) (hk:fk os osk) (hi:∀ os',In os'→fk os os') (hx:∀ os',Ix os'→fk os os') (hcl:I.bV vs=true) (how:∀ m,au ow m=true→m<1000000)
  (h1:∀ os2,In os2→a6 P Y false K (aC rest ((av ts (ow++os2)).aO dst (.bool true)))) (h2:∀ os2,Ix os2→a6 P Y false K (aC rest ((av ts (ow++os2)).aO dst (.bool false)))) :
  a6 P Y false K (.oJ v vs dst rest (av ts (ow++osk))):=by
 refine .yq osk vs _ rfl hY (fy.jP hk how) (uk vs hcl) ?_ ?_
 ·rintro r os' (⟨rfl,h⟩ | ⟨rfl,h⟩)
  ·exact dn.jP hk (hi _ h) rfl
  ·exact dn.jP hk (hx _ h) rfl
 ·rintro r os' (⟨rfl,h⟩ | ⟨rfl,h⟩)
  ·rw[zh hk (hi _ h) how];exact h1 os' h
  ·rw[zh hk (hx _ h) how];exact h2 os' h
theorem BC(A:af)(d:Option Nat)(args:List I)(rest:List aB)(v:Value):rF A d args rest (.raw v)=.oJ v args d rest A:=rfl
def jL(w:World):aQ:=fun b _=>b<w.heap.size
structure gY (P:Program) (t:TypeId) (α:Type) [Enc α]:Prop where
 cells:P.cellsOf t=Enc.sz α
 Jl:0<Enc.sz α
 nJ:∀ {H:Type} {enc0:TypeId×Value→H} {w:World} {fuel:Nat} {cs:List Value} {x:DataW H×List MemPlace},DataW.trod enc0 P w 0 (fun _=>true) true fuel t cs=some x→∃ a:α,ah w (jL w) dp (enc a) cs
theorem ah9{P:Program}{t:TypeId}(ht:P.underlying t=some (.int .i64))(hc:P.cellsOf t=1):gY P t Int :=
 ⟨hc,by decide,fun h=>by
  obtain ⟨n,rfl,_,hw⟩:=DataW.trod_int ht h
  refine ⟨n,?_⟩
  rw[jN,ah]
  simp only[Lit.wf,Bool.and_eq_true,decide_eq_true_eq] at hw
  exact ⟨rfl,hw.1,hw.2⟩⟩
theorem BK{α:Type}[Enc α]{w:World}{D:aQ}(c:Nat):∀ (n:Nat) (cs:List Value),cs.length=n*c→(∀ i,i<n→∃ a:α,ah w D dp (enc a) ((cs.drop (i*c)).take c))→∃ l:List α,l.length=n∧aH w D dp (l.map enc) cs
 |0,cs,hl,_=>⟨[],rfl,by simp only[Nat.zero_mul,List.length_eq_zero_iff] at hl;subst hl;simp[aH]⟩
 |n+1,cs,hl,h=>by
  obtain ⟨a,ha⟩:=h 0 (by omega)
  simp only[Nat.zero_mul,List.drop_zero] at ha
  obtain ⟨l,h1,h2⟩:=BK c n (cs.drop c) (by rw[List.length_drop,hl,Nat.succ_mul];omega) (fun i hi=>by
   obtain ⟨b,hb⟩:=h (i+1) (by omega)
   refine ⟨b,?_⟩
   rw[List.drop_drop]
   rwa [Nat.succ_mul,Nat.add_comm] at hb)
  refine ⟨a::l,by simp[h1],?_⟩
  simp only[List.map_cons,aH]
  exact ⟨cs.take c,cs.drop c,(List.take_append_drop c cs).symm,ha,h2⟩
theorem ajP{H:Type}{enc0:TypeId×Value→H}{P:Program}{w:World}{base:Nat}{spare:Nat→Bool}{held:Bool}{fuel n:Nat}{t e:TypeId}{cs:List Value}{x:DataW H×List MemPlace}(ht:P.underlying t=some (.array n e))(h:DataW.trod enc0 P w base spare held fuel t cs=some x) :
  ∃ (xs:List (DataW H×List MemPlace)) (m:Nat),cs.length=P.cellsOf t∧xs.length=n∧∀ (i:Nat),i<n→DataW.trod enc0 P w base spare held m e ((cs.drop (i*P.cellsOf e)).take (P.cellsOf e))=xs[i]?:=by
 cases fuel with
 |zero=>simp[DataW.trod] at h
 |succ m =>
  unfold DataW.trod at h
  rw[ht] at h
  split at h <;>simp_all
  obtain ⟨hl,xs,hp,hd⟩:=h
  exact ⟨xs,by simpa using mapM_some_length hp,m,fun i hi=>mapM_some_get hp i i (by simp[hi])⟩
theorem ah8{P:Program}{t e:TypeId}{n:Nat}{α:Type}[Enc α](ht:P.underlying t=some (.array n e))(he:gY P e α)(hc:P.cellsOf t=n*Enc.sz α)(hn:0<n):gY P t (bL n α) :=
 ⟨hc,Nat.mul_pos hn he.Jl,fun {H enc0 w fuel cs x} h=>by
  obtain ⟨xs,m,hl,hx,hp⟩:=ajP ht h
  obtain ⟨l,h1,h2⟩:=BK (α:=α) (w:=w) (D:=jL w) (Enc.sz α) n cs (by rw[hl,hc]) (fun i hi=>by
   have h3:=hp i hi
   rw[he.cells,List.getElem?_eq_getElem (by omega)] at h3
   exact he.nJ h3)
  refine ⟨⟨l,h1⟩,?_⟩
  show ah w (jL w) dp (.agg (l.map enc)) cs
  simp only[ah]
  exact h2⟩
theorem N8(a:Addr)(i j:Nat):(a.add i).add j=a.add (i+j):=by
 unfold Addr.add
 by_cases hi:i=0 <;>by_cases hj:j=0 <;>simp[hi,hj,Nat.add_assoc]
theorem aia{P:Program}{t e:TypeId}{α:Type}[Enc α](ht:P.underlying t=some (.slice e))(he:gY P e α)(hc:P.cellsOf t=1):gY P t (List α) :=
 ⟨hc,by rw[u5];exact Nat.one_pos,fun {H enc0 w fuel cs x} h=>by
  rcases DataW.trod_slice ht h with ⟨rfl,_⟩ | ⟨a,len,cap,elems,rest,n,_,rfl,_,hb,hl,hm,hlen,hel,_⟩
  ·refine ⟨[],?_⟩
   simp only[gJ,List.map_nil]
   rw[ah]
   exact ⟨none,0,rfl,Nat.le_refl _,by decide,.inl rfl,by simp⟩
  ·have key:∀ k,k≤len→∃ (l:List α) (cs':List Value),l.length=k∧aH w (jL w) dp (l.map enc) cs'∧cs'.length=k*Enc.sz α∧∀ j v,cs'[j]?=some v→w.cell? (a.add j)=some v:=by
    intro k
    induction k with
    |zero=>exact fun _=>⟨[],[],rfl,by simp[aH],by simp,by simp⟩
    |succ k ih =>
     intro hk
     obtain ⟨l,cs',h1,h2,h3,h4⟩:=ih (by omega)
     have h5:=hel k (by omega)
     have h6:k<elems.length:=by omega
     rw[List.getElem?_eq_getElem h6] at h5
     obtain ⟨ce,h7,h8⟩:=Option.bind_eq_some_iff.1 h5
     obtain ⟨y,hy⟩:=he.nJ h8
     rw[he.cells] at h7
     obtain ⟨_,h9,h10⟩:=World.cells?_some h7
     refine ⟨l++[y],cs'++ce,by simp[h1],?_,by rw[List.length_append,h3,h9,Nat.succ_mul],fun j v hj =>?_⟩
     ·rw[List.map_append]
      refine jZ _ _ _ _ h2 ?_
      simp only[List.map_cons,List.map_nil,aH]
      exact ⟨ce,[],by simp,hy,rfl⟩
     ·rcases Nat.lt_or_ge j cs'.length with hlt | hge
      ·rw[List.getElem?_append_left hlt] at hj
       exact h4 j v hj
      ·rw[List.getElem?_append_right hge] at hj
       have hlt:j-cs'.length<Enc.sz α:=by
        have:=(List.getElem?_eq_some_iff.1 hj).1
        omega
       have:=h10 (j-cs'.length) hlt
       rw[N8,←h3,Nat.add_sub_cancel' hge] at this
       rw[this];exact hj
   obtain ⟨l,cs',h1,h2,h3,h4⟩:=key len (Nat.le_refl _)
   refine ⟨l,?_⟩
   simp only[gJ,ah,List.length_map]
   refine ⟨some a,cap,by rw[h1],by omega,hm,?_,Oh l⟩
   by_cases hz:len=0
   ·left;have:l=[]:=List.length_eq_zero_iff.1 (by omega);rw[this];rfl
   right
   have hpos:0<cs'.length:=by rw[h3];exact Nat.mul_pos (Nat.pos_of_ne_zero hz) he.Jl
   have h0:=h4 0 cs'[0] (List.getElem?_eq_getElem hpos)
   have hsp:a.spot=none:=by
    simp only[Addr.add,if_true] at h0
    unfold World.cell? at h0
    split at h0
    ·split at h0
     ·cases h0
     ·rename_i hs;cases hh:a.spot <;>simp_all
    ·cases h0
   have ha:∀ j,a.add j=⟨a.block,a.off+j,none⟩:=fun j=>by
    unfold Addr.add
    split
    ·rename_i hj;subst hj;cases a;simp_all
    ·rfl
   refine ⟨a.block,a.off,cs',by cases a;simp_all,fun j v hj =>?_,h2⟩
   have h5:=h4 j v hj
   rw[ha] at h5
   refine ⟨h5,?_⟩
   show (⟨a.block,a.off+j,none⟩:Addr).block<_
   exact World.block_lt_of_cell? w _ h5⟩
end Go.Abs
namespace Go.Abs
open Go Go.RowKit Go.ChangeShapes
open Enc (enc)
def qg(P:Program)(t:TypeId)(l:List (TypeId×Nat)):Bool:=match P.underlying t with
 |some (.struct fs)=>fs.toList.map (fun f=>(f.type,f.offset))==l
 |_=>false
def Ic(P:Program)(t:TypeId)(n:Nat)(e:TypeId):Bool:=match P.underlying t with
 |some (.array n' e')=>n'==n&&e'==e
 |_=>false
theorem afQ{P:Program}{t:TypeId}{n:Nat}{e:TypeId}(h:Ic P t n e=true):P.underlying t=some (.array n e):=by
 unfold Ic at h
 split at h
 ·rename_i n' e' ht
  simp only[Bool.and_eq_true,beq_iff_eq] at h
  rw[ht,h.1,h.2]
 ·cases h
theorem afV{P:Program}{t:TypeId}{l:List (TypeId×Nat)}(h:qg P t l=true):∃ fs,P.underlying t=some (.struct fs)∧fs.toList.map (fun f=>(f.type,f.offset))=l:=by
 unfold qg at h
 split at h
 ·rename_i fs ht
  exact ⟨fs,ht,by simpa using h⟩
 ·cases h
theorem Ma{H:Type}{enc0:TypeId×Value→H}{P:Program}{w:World}{fuel:Nat}{t:TypeId}{l:List (TypeId×Nat)}{cs:List Value}{x:DataW H×List MemPlace}(ht:qg P t l=true)(h:DataW.trod enc0 P w 0 (fun _=>true) true fuel t cs=some x) :
  cs.length=P.cellsOf t∧∃ m:Nat,∀ (i:Nat) (aq:TypeId) (o:Nat),l[i]?=some (aq,o)→∃ y,DataW.trod enc0 P w 0 (fun _=>true) true m aq ((cs.drop o).take (P.cellsOf aq))=some y:=by
 obtain ⟨fs,h1,h2⟩:=afV ht
 obtain ⟨xs,m,_,_,h3,h4,h5⟩:=DataW.trod_struct h1 h
 refine ⟨h3,m,fun i aq o hi =>?_⟩
 rw[←h2] at hi
 simp only[List.getElem?_map,Option.map_eq_some_iff,Prod.mk.injEq] at hi
 obtain ⟨f,hf,rfl,rfl⟩:=hi
 have hf':fs[i]?=some f:=by simpa using hf
 have h6:=h5 i f hf'
 have hlt:i<fs.size:=(Array.getElem?_eq_some_iff.1 hf').1
 rw[List.getElem?_eq_getElem (by omega)] at h6
 exact ⟨_,h6⟩
section
variable {P:Program} {t:TypeId} {α β γ:Type} [Enc α] [Enc β] [Enc γ] {H:Type} {enc0:TypeId×Value→H} {w:World} {fuel:Nat} {cs:List Value} {x:DataW H×List MemPlace}
theorem aic{u0 u1:TypeId}(ht:qg P t [(u0,0),(u1,Enc.sz α)]=true)(h0:gY P u0 α)(h1:gY P u1 β)(hc:P.cellsOf t=Enc.sz α+Enc.sz β)(h:DataW.trod enc0 P w 0 (fun _=>true) true fuel t cs=some x) :
  ∃ (a:α) (b:β),ah w (jL w) dp (.agg [enc a,enc b]) cs:=by
 obtain ⟨hl,m,hf⟩:=Ma ht h
 obtain ⟨y0,k0⟩:=hf 0 u0 0 rfl
 obtain ⟨y1,k1⟩:=hf 1 u1 (Enc.sz α) rfl
 obtain ⟨a,ha⟩:=h0.nJ k0
 obtain ⟨b,hb⟩:=h1.nJ k1
 rw[h0.cells,List.drop_zero] at ha
 rw[h1.cells,List.take_of_length_le (by rw[List.length_drop];omega)] at hb
 refine ⟨a,b,?_⟩
 simp only[ah,aH]
 exact ⟨_,_,(List.take_append_drop (Enc.sz α) cs).symm,ha,cs.drop (Enc.sz α),[],by simp,hb,rfl⟩
theorem ah7{base:Nat}{v:Value}{d:DataW H}{p:List MemPlace}(ho:gY P t α)(hA:Enc.fP α=true)(hst:(match P.underlying t with | some (.struct _) | some (.array _ _)=>true | _=>false)=true)(hv:Value.okWide P w .any base t v)
  (h:DataW.Trod enc0 P w 0 (fun _=>true) true t v d p):∃ (a:α) (cs:List Value),bJ (enc a) v cs∧ah w (jL w) dp (enc a) cs:=by
 obtain ⟨fuel,h⟩:=h
 have hagg:∃ cs,v=.agg cs:=by
  unfold Value.okWide at hv
  split at hst
  ·rename_i fs ht;rw[ht] at hv;obtain ⟨cs,h1,_⟩:=hv;exact ⟨cs,h1⟩
  ·rename_i n e ht;rw[ht] at hv;obtain ⟨cs,h1,_⟩:=hv;exact ⟨cs,h1⟩
  ·cases hst
 obtain ⟨cs,rfl⟩:=hagg
 have e:(Value.agg cs).cells.toList=cs.toList:=rfl
 rw[e] at h
 obtain ⟨a,ha⟩:=ho.nJ h
 exact ⟨a,cs.toList,by simp[bJ,Enc.agg,hA],ha⟩
theorem I9{base:Nat}{v:Value}{d:DataW H}{p:List MemPlace}(ho:gY P t α)(hA:Enc.fP α=false)(hst:(match P.underlying t with | some (.slice _) | some (.int _) | some .bool=>true | _=>false)=true)(hv:Value.okWide P w .any base t v)
  (h:DataW.Trod enc0 P w 0 (fun _=>true) true t v d p):∃ (a:α) (cs:List Value),bJ (enc a) v cs∧ah w (jL w) dp (enc a) cs:=by
 obtain ⟨fuel,h⟩:=h
 have hone:v.cells.toList=[v]:=by
  unfold Value.okWide at hv
  split at hst
  ·rename_i e ht;rw[ht] at hv;simp only[Cell.okWide,ht] at hv;cases v <;>simp_all[Cell.ok,Value.cells]
  ·rename_i e ht;rw[ht] at hv;simp only[Cell.okWide,ht] at hv;cases v <;>simp_all[Cell.ok,Value.cells]
  ·rename_i ht;rw[ht] at hv;simp only[Cell.okWide,ht] at hv;cases v <;>simp_all[Cell.ok,Value.cells]
  ·cases hst
 rw[hone] at h
 obtain ⟨a,ha⟩:=ho.nJ h
 exact ⟨a,[v],by simp[bJ,Enc.agg,hA],ha⟩
end
theorem air{H:Type}{enc0:TypeId×Value→H}{P:Program}{f:Func}{s:ChangeSpec}{apart jO handsOn again:Bool}{W W':World}{args:Array Value}{v:Value}{ds gs:List (DataW H)}{before pa pv:List MemPlace}
  (hW:DataW.Whole enc0 P f.params.toList s.vars apart W args.toList ds gs before)
  (hres:∀ (b:Nat) (sp:Nat→Bool) (hd:Bool),DataW.TrodAll enc0 P W' b sp hd f.resultTypes.toList (v.resultList f.resultTypes.size) (s.fn H (ds++gs)).results [])
  (hargs:∀ sp:Nat→Bool,(∀ p∈before,sp p.block=true)→DataW.TrodAll enc0 P W' 0 sp true f.params.toList args.toList (s.fn H (ds++gs)).args pa)
  (hvars:∀ sp:Nat→Bool,(∀ p∈before,sp p.block=true)→DataW.TrodVars enc0 P W' sp s.vars (s.fn H (ds++gs)).vars pv)
  (hps:before=pa++pv) (hb:Below W.heap.size W W')
  (hok:∀ (j:Nat) (t:TypeId) (r:Value),f.resultTypes[j]?=some t→(v.resultList f.resultTypes.size)[j]?=some r→Value.okWide P W' .any 0 t r) :
  s.post enc0 P f apart jO handsOn again W args v W':=by
 have hlt:∀ p∈before,p.block<W.heap.size:=fun p hp=>by simpa using hW.lt p hp
 have hold:∀ p∈before,(fun b=>decide (b<W.heap.size)) p.block=true:=fun p hp=>by simpa using hlt p hp
 refine ⟨ds,gs,before,[],pa,pv,hW,hres _ _ _,hargs _ hold,hvars _ hold,World.keptBut_mono (fun p hp=>⟨hp,?_⟩) (hb.frame (· ∈ before)),fun _ =>?_⟩
 ·rw[hps,List.mem_append] at hp
  exact Or.inr hp
 ·obtain ⟨_,_,_,_,_,hz,hn⟩:=hW
  refine ⟨hok,_,_,([]++pa)++pv,⟨[]++pa,pv,trodAll_append (hargs _ (fun _ _=>rfl)) (hres _ _ _),hvars _ (fun _ _=>rfl),rfl,?_,?_⟩,?_⟩
  ·intro b off hp
   have hp':MemPlace.cell b off∈before:=by rw[hps];simpa using hp
   rw[hb.frozen (p:=⟨b,off,none⟩) (hlt _ hp')]
   exact hz b off hp'
  ·intro ha
   have:=hn ha
   rw[hps] at this
   simpa using this
  ·intro p hp _
   rw[hps]
   simpa using hp
theorem agk{P:Program}{f:FuncId}{fn:Func}{s:ChangeSpec}{H:Type}{enc0:TypeId×Value→H}{W:World}{ds gs:List (DataW H)}{before:List MemPlace}{xs:List I}{tb:TypeId}{v0 v1 v2:Value}{t0 t1 t2:TypeId}{d0 d1 d2:DataW H}{p0 p1 p2:List MemPlace}{again handsOn jO:Bool}
  (hl:laidOutB P=true) (hpar:fn.params.toList=[t0,t1,t2]) (hds:ds=[d0,d1,d2]) (hgs:gs=[]) (hbef:before=p0++p1++p2)
  (hvars:s.vars=[]) (hfn:s.fn H [d0,d1,d2] = { results:=[.lit (.bool true)],args:=[d0,d1,d2] }) (hres:fn.resultTypes = #[tb]) (htb:P.underlying tb=some .bool)
  (hW:DataW.Whole enc0 P fn.params.toList s.vars false W #[v0,v1,v2].toList ds gs before)
  (h0:DataW.Trod enc0 P W 0 (fun _=>true) true t0 v0 d0 p0) (h1:DataW.Trod enc0 P W 0 (fun _=>true) true t1 v1 d1 p1) (h2:DataW.Trod enc0 P W 0 (fun _=>true) true t2 v2 d2 p2)
  (hr:∀ t∈[t0,t1,t2],P.readableRec t=true∧t<P.types.size)
  (hctr:az P f xs (enc true)) (hv:aG W (jL W) dp xs [v0,v1,v2]) :
  Calls P f #[v0,v1,v2] W fun e W'=>∃ v,e=.returned v∧s.post enc0 P fn false jO handsOn again W #[v0,v1,v2] v W':=by
 subst hds hgs
 refine (hctr.2 W (jL W) [v0,v1,v2] (fun _ _ h=>h) hv).mono fun e W' ⟨v,D',he,hrv,hb,_,_⟩=>⟨v,he,?_⟩
 have hvb:v=.bool true:=lA hrv
 subst hvb
 have hlt:∀ x∈before,x.block<W.heap.size:=fun x hx=>by simpa using hW.lt x hx
 rw[hbef] at hlt
 refine air (pa:=p0++(p1++p2)) (pv:=[]) hW (fun _ _ _ =>?_) (fun sp hsp =>?_) (fun _ _ =>?_) (by rw[hbef];simp) hb ?_
 ·simp only[List.append_nil,hfn,hres]
  exact trodAll_mk1 (shut_bool htb true)
 ·simp only[List.append_nil,hfn,hpar]
  rw[hbef] at hsp
  have bx:∀ {t:TypeId} {v:Value} {d:DataW H} {p:List MemPlace},t∈[t0,t1,t2]→DataW.Trod enc0 P W 0 (fun _=>true) true t v d p→(∀ x∈p,x∈p0++p1++p2)→DataW.Trod enc0 P W' 0 sp true t v d p:=fun ht h hp =>
   WideElems.Trod_stays hl (hr _ ht).1 (hr _ ht).2 h (fun x hx=>hb.same (hlt x (hp x hx))) (fun x hx=>hsp x (hp x hx))
  exact trodAll_mk3 (bx (by simp) h0 fun x hx=>by simp[hx]) (bx (by simp) h1 fun x hx=>by simp[hx]) (bx (by simp) h2 fun x hx=>by simp[hx])
 ·simp only[List.append_nil,hfn,hvars]
  rfl
 ·intro j t r hj hv'
  rw[hres] at hj hv'
  match j,hj,hv' with
  |0,hj,hv' =>
   simp[Value.resultList] at hj hv'
   subst hj;subst hv'
   simp[Value.okWide,htb,Cell.okWide,Cell.ok]
def yU(P:Program)(aq:TypeId)(n:Nat)(S:I→Prop):Prop:=P.cellsOf aq=n ∧
 ∀ {H:Type} {enc0:TypeId×Value→H} {w:World} {fuel:Nat} {cs:List Value} {x:DataW H×List MemPlace},DataW.trod enc0 P w 0 (fun _=>true) true fuel aq cs=some x→∃ v,S v∧ah w (jL w) dp v cs
theorem gY.bO{P:Program}{aq:TypeId}{α:Type}[Enc α](h:gY P aq α):yU P aq (Enc.sz α) fun v=>∃ a:α,v=enc a :=
 ⟨h.cells,fun hx=>by obtain ⟨a,ha⟩:=h.nJ hx;exact ⟨enc a,⟨a,rfl⟩,ha⟩⟩
def qu(P:Program):Nat→List (TypeId×Nat)→List (Nat×(I→Prop))→Prop
 |_,[],[]=>True
 |o,(aq,off)::l,(n,S)::Ss=>off=o∧yU P aq n S∧qu P (o+n) l Ss
 |_,_,_=>False
def ou:List (Nat×(I→Prop))→List I→Prop
 | [],[]=>True
 |(_,S)::Ss,v::vs=>S v∧ou Ss vs
 |_,_=>False
theorem kJ{n:Nat}{S:I→Prop}{Ss:List (Nat×(I→Prop))} : ∀ {vs:List I},ou ((n,S)::Ss) vs→∃ v vs',vs=v::vs'∧S v∧ou Ss vs'
 | [],h=>h.elim
 |v::vs,h=>⟨v,vs,rfl,h.1,h.2⟩
theorem Og:∀ {vs:List I},ou [] vs→vs=[]
 | [],_=>rfl
 |_::_,h=>h.elim
def qM:List (Nat×(I→Prop))→Nat
 | []=>0
 |(n,_)::Ss=>n+qM Ss
theorem Co{P:Program}{H:Type}{enc0:TypeId×Value→H}{w:World}{m:Nat}{cs:List Value} : ∀ (l:List (TypeId×Nat)) (Ss:List (Nat×(I→Prop))) (o:Nat),qu P o l Ss→cs.length=o+qM Ss →
  (∀ (i:Nat) (aq:TypeId) (off:Nat),l[i]?=some (aq,off)→∃ y,DataW.trod enc0 P w 0 (fun _=>true) true m aq ((cs.drop off).take (P.cellsOf aq))=some y)→∃ vs,ou Ss vs∧aH w (jL w) dp vs (cs.drop o)
 | [],[],o,_,hl,_=>⟨[],trivial,by simp only[aH];exact List.drop_eq_nil_of_le (by simp only[qM] at hl;omega)⟩
 |(aq,off)::l,(n,S)::Ss,o,h,hl,hf=>by
  obtain ⟨rfl,h2,h3⟩:=h
  obtain ⟨y,hy⟩:=hf 0 aq off rfl
  obtain ⟨v,hv1,hv2⟩:=h2.2 hy
  obtain ⟨vs,k1,k2⟩:=Co l Ss (off+n) h3 (by simp only[qM] at hl;omega) fun i u' o' hi=>hf (i+1) u' o' hi
  refine ⟨v::vs,⟨hv1,k1⟩,?_⟩
  simp only[aH]
  rw[h2.1] at hv2
  exact ⟨_,(cs.drop off).drop n,(List.take_append_drop n _).symm,hv2,by rw[List.drop_drop];exact k2⟩
 | [],_::_,_,h,_,_=>h.elim
 |_::_,[],_,h,_,_=>by simp[qu] at h
theorem aib{P:Program}{t:TypeId}{H:Type}{enc0:TypeId×Value→H}{w:World}{fuel:Nat}{cs:List Value}{x:DataW H×List MemPlace}(l:List (TypeId×Nat))(Ss:List (Nat×(I→Prop)))(ht:qg P t l=true)(hok:qu P 0 l Ss)(hc:P.cellsOf t=qM Ss)(h:DataW.trod enc0 P w 0 (fun _=>true) true fuel t cs=some x) :
  ∃ vs,ou Ss vs∧ah w (jL w) dp (.agg vs) cs:=by
 obtain ⟨hl,m,hf⟩:=Ma ht h
 obtain ⟨vs,k1,k2⟩:=Co l Ss 0 hok (by rw[hl,hc];omega) hf
 exact ⟨vs,k1,by simpa only[ah,List.drop_zero] using k2⟩
end Go.Abs
namespace Go.Abs.C
open Go Go.Abs
abbrev o(a:Nat)(x:b5):aB:=⟨some a,x,none⟩
abbrev bE(a:Nat)(x:b5)(k:Nat):aB:=⟨some a,x,some (k,true)⟩
abbrev on(a:Nat)(x:b5)(k:Nat):aB:=⟨some a,x,some (k,false)⟩
abbrev p(x:b5):aB:=⟨none,x,none⟩
abbrev aj(n:Int):aJ:=.c (.int .i64 n)
abbrev T:aJ:=.c (.bool true)
abbrev bt:aJ:=.c (.bool false)
abbrev m(a b:Nat):aB:=⟨some a,.mv (.t b),none⟩
abbrev cD(a b k:Nat):aB:=⟨some a,.mv (.t b),some (k,true)⟩
abbrev dW(a b k:Nat):aB:=⟨some a,.mv (.t b),some (k,false)⟩
abbrev aV(a:Nat)(n:Int):aB:=⟨some a,.mv (.c (.int .i64 n)),none⟩
abbrev l(a b:Nat):aB:=⟨some a,.ld none (.t b),none⟩
abbrev eg(a b k:Nat):aB:=⟨some a,.ld none (.t b),some (k,true)⟩
abbrev gz(a b k:Nat):aB:=⟨some a,.ld none (.t b),some (k,false)⟩
abbrev aA(a s b:Nat):aB:=⟨some a,.ld (some s) (.t b),none⟩
abbrev f(a b c d:Nat):aB:=⟨some a,.fa b c (.t d),none⟩
abbrev dg(a b c d k:Nat):aB:=⟨some a,.fa b c (.t d),some (k,true)⟩
abbrev fn(a b c d k:Nat):aB:=⟨some a,.fa b c (.t d),some (k,false)⟩
abbrev ad(a b:Nat)(n:Int):aB:=⟨some a,.bin .add (.t b) (.c (.int .i64 n)),none⟩
abbrev lt(a b c:Nat):aB:=⟨some a,.bin .lss (.t b) (.t c),none⟩
abbrev and(a b c:Nat):aB:=⟨some a,.pick (.t b) (.t c) (.c (.bool false)),none⟩
abbrev or(a b c:Nat):aB:=⟨some a,.pick (.t b) (.c (.bool true)) (.t c),none⟩
abbrev no(a b:Nat):aB:=⟨some a,.un .not (.t b),none⟩
abbrev b(a c:Nat):aB:=⟨some a,.box (.t c),none⟩
abbrev s(x y:aN):aN:=.seq x y
abbrev r(g:List aB):aN:=.bW none g
abbrev bB(P:Program)(f:Func)(c:aN):Prop:=f.body.bind (eZ P f.ntmps)=some c
abbrev bC(P:Program)(f:Func)(r:List aZ):Prop:=iB P f.results.toList=some r
abbrev bA(P:Program)(n:FuncId):Prop:=gI P n=true
theorem e{α:Type}{a b:α}(h:a=b):a=b:=h
end Go.Abs.C
namespace Go.Proofs.YtcldiigclhgafaaGreat
open Go Go.Abs Go.Abs.C
def Yf:=[b 5 2,o 6 (.mv bt)]
def Yg:=[m 24 0,aA 25 17 5,o 26 (.call 54 [.t 24,.t 25]),m 23 26,o 27 (.ext (.t 23) 0),o 28 (.ext (.t 23) 1),m 7 27,m 8 28]
def Yj:=[m 30 0,aA 31 17 5,o 32 (.call 55 [.t 30,.t 31]),m 29 32,o 33 (.ext (.t 29) 0),o 34 (.ext (.t 29) 1),m 9 33,m 10 34]
def Yk:=[m 36 0,m 37 1,o 38 (.call 52 [.t 36,.t 37]),m 35 38,o 39 (.ext (.t 35) 0),o 40 (.ext (.t 35) 1),m 11 39,m 12 40]
def Yl:=[m 42 0,m 43 1,o 44 (.call 56 [.t 42,.t 43]),m 41 44,o 45 (.ext (.t 41) 0),o 46 (.ext (.t 41) 1),m 13 45,m 14 46]
def Ym:=[m 48 0,f 49 0 0 5,aA 50 2 49,o 51 (.call 38 [.t 48,.t 50]),m 47 51,o 52 (.ext (.t 47) 0),o 53 (.ext (.t 47) 1),m 15 52,m 16 53]
def Yn:=[m 55 0,f 56 0 0 5,aA 57 2 56,o 58 (.call 57 [.t 55,.t 57]),m 54 58,o 59 (.ext (.t 54) 0),o 60 (.ext (.t 54) 1),m 17 59,m 18 60]
def Yo:=[f 62 3 4 5,l 63 62,o 64 (.call 58 [.t 63]),m 61 64,o 65 (.ext (.t 61) 0),o 66 (.ext (.t 61) 1),o 19 (.alloc (.agg [.int .i64 0,.int .i64 0])),p (.bx (some 2) (.t 19) (.t 65)),m 20 66]
def Yp:=[f 68 3 4 5,l 69 68,o 70 (.call 59 [.t 69]),m 67 70,o 71 (.ext (.t 67) 0),o 72 (.ext (.t 67) 1),o 21 (.alloc (.agg [.int .i64 0,.int .i64 0])),p (.bx (some 2) (.t 21) (.t 71)),m 22 72]
def Yq:=[m 73 7,m 74 9,o 75 (.call 53 [.t 73,.t 74]),no 76 75,m 77 76,dW 78 8 77,dW 79 10 77,on 80 (.bin .neq (.t 78) (.t 79)) 77,or 81 77 80,m 82 81,dW 83 11 82,dW 84 13 82,on 85 (.call 53 [.t 83,.t 84]) 82,on 86 (.un .not (.t 85)) 82,or 87 82 86,m 88 87,dW 89 12 88,dW 90 14 88,on 91 (.bin .neq (.t 89) (.t 90)) 88,or 92 88 91,m 93 92,dW 94 15 93,dW 95 17 93,on 96 (.call 53 [.t 94,.t 95]) 93,on 97 (.un .not (.t 96)) 93,or 98 93 97,m 99 98,dW 100 16 99,dW 101 18 99,on 102 (.bin .neq (.t 100) (.t 101)) 99,or 103 99 102,m 104 103,on 105 (.ld (some 2) (.t 19)) 104,on 106 (.ld (some 2) (.t 21)) 104,on 107 (.eqv (.bx [(.i .i64),(.i .i64)]) true (.t 105) (.t 106)) 104,or 108 104 107,m 109 108,dW 110 20 109,dW 111 22 109,on 112 (.bin .neq (.t 110) (.t 111)) 109,or 113 109 112]
def Yh:=[o 6 (.mv bt)]
def Yi:=[f 114 0 0 5,aA 115 2 114,o 116 (.call 60 [.t 115]),f 117 0 0 5,aA 118 2 117,o 119 (.call 61 [.t 118]),o 120 (.bin .eql (.t 116) (.t 119)),m 121 120,bE 122 (.ld (some 17) (.t 5)) 121,bE 123 (.call 62 [.t 122]) 121,bE 124 (.ld (some 17) (.t 5)) 121,bE 125 (.call 63 [.t 124]) 121,bE 126 (.bin .eql (.t 123) (.t 125)) 121,and 127 121 126,m 128 127,cD 129 0 128,bE 130 (.call 64 [.t 129]) 128,cD 131 0 128,bE 132 (.call 65 [.t 131]) 128,bE 133 (.bin .eql (.t 130) (.t 132)) 128,and 134 128 133,m 135 134,bE 136 (.call 22 []) 135,and 137 135 136,m 6 137]
def Vr:=some [[],[0],[1],[],[3],[4,2],[2,5],[6,5],[7],[8,7,7],[7],[10,9,7],[9,11,7],[7,12],[13,11],[14],[15,14,14],[14],[17,16,14],[16,18,14],[14,19],[20,18],[21,21],[21,22],[23,22,0,1,2,3,4,5,6,7,8,9,10,11,12,13,14,15,16,17,18,19,20,21,22,23]]
def zE:aN:=(s (r Yf) (s (r Yg) (s (r Yj) (s (r Yk) (s (r Yl) (s (r Ym) (s (r Yn) (s (r Yo) (s (r Yp) (s (s (r Yq) (.cond (.t 113) (s (r Yh) .ret) .skip)) (s (.bW Vr Yi) .ret)))))))))))
def JF:List aZ:=[.tmp 6]
theorem Rs:bB Tryz.prog Tryz.f12 zE:=e (by kernel_rfl)
theorem TC:bC Tryz.prog Tryz.f12 JF:=e (by kernel_rfl)
theorem Pv:bA Tryz.prog 12:=e (by kernel_rfl)
def Y4:=[b 4 0,o 8 (.mv (.c (.nils 1))),aV 9 0]
def Y5:=[aA 13 7 4,o 14 (.call 66 [.t 13]),m 10 14]
def Y7:=[m 15 10,o 16 (.bin .neq (.t 15) (aj 0))]
def Y8:=[m 17 10,o 8 (.mv (.c (.nils 1))),m 9 17]
def Y9:=[m 18 1,m 19 2,o 20 (.bld [.int .i64 0,.int .i64 0] [(0,(.t 19)),(1,(aj 9999))]),o 21 (.bs 2 [.t 20]),m 22 3,o 23 (.bs 1 [.t 22]),o 24 (.call 67 [.t 18,.t 21,.t 23]),m 11 24]
def Za:=[m 25 11,o 26 (.bin .neq (.t 25) (aj 0))]
def Zb:=[m 27 11,o 8 (.mv (.c (.nils 1))),m 9 27]
def Zc:=[m 28 1,m 29 3,o 30 (.call 68 [.t 28,.t 29]),o 31 (.nilC (.t 30)),f 32 0 0 31,l 33 32,m 34 2,o 35 (.lk (.i .i64) (.nilp) false (.t 33) (.t 34)),m 12 35]
def Zd:=[m 36 12,o 37 (.ptrE false (.t 36) (.c (.nilp)))]
def Ze:=[o 8 (.mv (.c (.nils 1))),aV 9 42]
def Y6:=[aA 38 7 4,m 39 12,o 40 (.call 69 [.t 38,.t 39]),m 8 40,aV 9 0]
def zV:aN:=(s (r Y4) (s (s (r Y5) (s (r Y7) (.cond (.t 16) (s (r Y8) .ret) .skip))) (s (s (r Y9) (s (r Za) (.cond (.t 26) (s (r Zb) .ret) .skip))) (s (r Zc) (s (s (r Zd) (.cond (.t 37) (s (r Ze) .ret) .skip)) (s (r Y6) .ret))))))
def JW:List aZ:=[.tmp 8,.tmp 9]
theorem RJ:bB Tryz.prog Tryz.f14 zV:=e (by kernel_rfl)
theorem TT:bC Tryz.prog Tryz.f14 JW:=e (by kernel_rfl)
theorem PM:bA Tryz.prog 14:=e (by kernel_rfl)
def Zn:=[b 3 0,o 6 (.mv (.c (.nils 1))),aV 7 0]
def Zo:=[aA 10 7 3,o 11 (.call 66 [.t 10]),m 8 11]
def Zp:=[m 12 8,o 13 (.bin .neq (.t 12) (aj 0))]
def Zq:=[m 14 8,o 6 (.mv (.c (.nils 1))),m 7 14]
def Zr:=[m 15 1,m 16 2,o 17 (.bs 1 [.t 16]),o 18 (.call 67 [.t 15,(.c (.nils 2)),.t 17]),m 9 18]
def Zs:=[m 19 9,o 20 (.bin .neq (.t 19) (aj 0))]
def Zt:=[m 21 9,o 6 (.mv (.c (.nils 1))),m 7 21]
def Zu:=[m 22 1,m 23 2,o 24 (.call 68 [.t 22,.t 23]),o 25 (.mk 73 [.t 3]),o 26 (.call 72 [.t 24,.t 25]),m 6 26,aV 7 0]
def Ad:aN:=(s (r Zn) (s (s (r Zo) (s (r Zp) (.cond (.t 13) (s (r Zq) .ret) .skip))) (s (s (r Zr) (s (r Zs) (.cond (.t 20) (s (r Zt) .ret) .skip))) (s (r Zu) .ret))))
def J8:List aZ:=[.tmp 6,.tmp 7]
theorem RV:bB Tryz.prog Tryz.f16 Ad:=e (by kernel_rfl)
theorem T7:bC Tryz.prog Tryz.f16 J8:=e (by kernel_rfl)
theorem PY:bA Tryz.prog 16:=e (by kernel_rfl)
def aad:=[b 4 0,o 8 (.mv (.c (.nils 2))),aV 9 0]
def aae:=[aA 17 7 4,m 18 1,m 19 2,m 20 3,o 21 (.call 14 [.t 17,.t 18,.t 19,.t 20]),m 16 21,o 22 (.ext (.t 16) 0),o 23 (.ext (.t 16) 1),m 10 22,m 11 23]
def aai:=[m 24 11,o 25 (.bin .neq (.t 24) (aj 0))]
def aaj:=[m 26 11,o 8 (.mv (.c (.nils 2))),m 9 26]
def aak:=[m 27 1,m 28 3,o 29 (.call 68 [.t 27,.t 28]),o 30 (.nilC (.t 29)),f 31 0 0 30,l 32 31,m 33 2,o 34 (.lk (.i .i64) (.nilp) false (.t 32) (.t 33)),m 12 34]
def aal:=[o 13 (.mv (.c (.nils 2)))]
def aam:=[m 35 1,o 36 (.len (.t 35)),aV 37 0]
def aan:=[lt 38 37 36]
def aao:=[m 39 37,o 40 (.is 17 (.t 35) (.t 37)),aA 41 17 40,o 15 (.alloc (.agg [.agg [.int .i64 0,.int .i64 0],.int .i64 0,.int .i64 0,.int .i64 0,.int .i64 0,.int .i64 0,.int .i64 0,.int .i64 0,.agg [.int .i64 0,.int .i64 0,.int .i64 0,.int .i64 0,.int .i64 0,.int .i64 0],.agg [.int .i64 0,.int .i64 0]])),m 14 39,p (.bx (some 17) (.t 15) (.t 41))]
def aap:=[aA 42 7 4,m 43 12,m 44 1,m 45 14,o 46 (.call 78 [.t 44,.t 45]),m 47 3,o 48 (.call 68 [.t 46,.t 47]),o 49 (.nilC (.t 48)),f 50 0 0 49,l 51 50,m 52 2,o 53 (.lk (.i .i64) (.nilp) false (.t 51) (.t 52)),o 54 (.call 77 [.t 42,.t 43,.t 53]),no 55 54]
def VL:=some [[],[],[],[],[2,3],[],[4,5,4],[6],[7],[8],[],[9,10],[0,1,11,6],[12]]
def aaf:=[m 56 13,f 57 0 0 15,aA 58 2 57,o 59 (.bs 2 [.t 58]),o 60 (.dq 65 2 16 (.agg [.int .i64 0,.int .i64 0]) (.t 56) (.t 59)),m 13 60]
def aag:=[ad 61 37 1,m 37 61]
def aah:=[m 62 13,m 8 62,aV 9 0]
def Aw:aN:=(s (r aad) (s (s (r aae) (s (r aai) (.cond (.t 25) (s (r aaj) .ret) .skip))) (s (r aak) (s (r aal) (s (s (r aam) (.block 0 (.loop (s (r aan) (s (.cond (.t 38) .skip (.exit 0)) (s (.block 1 (s (r aao) (s (.bW VL aap) (.cond (.t 55) (r aaf) .skip)))) (r aag))))))) (s (r aah) .ret))))))
def Kq:List aZ:=[.tmp 8,.tmp 9]
theorem Sd:bB Tryz.prog Tryz.f18 Aw:=e (by kernel_rfl)
theorem Up:bC Tryz.prog Tryz.f18 Kq:=e (by kernel_rfl)
theorem Qf:bA Tryz.prog 18:=e (by kernel_rfl)
def Gt:=[o 4 (.mv bt)]
def Gu:=[m 6 0,o 7 (.len (.t 6)),m 8 1,o 9 (.len (.t 8)),o 10 (.bin .neq (.t 7) (.t 9))]
def Gv:=[o 4 (.mv bt)]
def Gw:=[aV 5 0]
def Gx:=[m 11 5,m 12 0,o 13 (.len (.t 12)),lt 14 11 13]
def Gy:=[m 17 0,m 18 5,o 19 (.is 1 (.t 17) (.t 18)),l 20 19,m 21 1,m 22 5,o 23 (.is 1 (.t 21) (.t 22)),l 24 23,o 25 (.bin .neq (.t 20) (.t 24))]
def VV:=some [[],[],[0,1],[2],[],[],[4,5],[6],[3,7]]
def Gz:=[o 4 (.mv bt)]
def GA:=[m 15 5,ad 16 15 1,m 5 16]
def GB:=[o 4 (.mv T)]
def AF:aN:=(s (r Gt) (s (s (r Gu) (.cond (.t 10) (s (r Gv) .ret) .skip)) (s (s (r Gw) (.block 0 (.loop (s (s (r Gx) (.cond (.t 14) .skip (.exit 0))) (s (.block 1 (s (.bW VV Gy) (.cond (.t 25) (s (r Gz) .ret) .skip))) (r GA)))))) (s (r GB) .ret))))
def Kz:List aZ:=[.tmp 4]
theorem Sl:bB Tryz.prog Tryz.f20 AF:=e (by kernel_rfl)
theorem Ux:bC Tryz.prog Tryz.f20 Kz:=e (by kernel_rfl)
theorem Qn:bA Tryz.prog 20:=e (by kernel_rfl)
def aa0:=[o 4 (.mv bt)]
def aa1:=[m 6 0,o 7 (.len (.t 6)),m 8 1,o 9 (.len (.t 8)),o 10 (.bin .neq (.t 7) (.t 9))]
def aa2:=[o 4 (.mv bt)]
def aa3:=[aV 5 0]
def aa4:=[m 11 5,m 12 0,o 13 (.len (.t 12)),lt 14 11 13]
def aa5:=[m 17 0,m 18 5,o 19 (.is 2 (.t 17) (.t 18)),aA 20 2 19,m 21 1,m 22 5,o 23 (.is 2 (.t 21) (.t 22)),aA 24 2 23,o 25 (.eqv (.bx [(.i .i64),(.i .i64)]) true (.t 20) (.t 24))]
def VY:=some [[],[],[0,1],[2],[],[],[4,5],[6],[3,7]]
def aa6:=[o 4 (.mv bt)]
def aa7:=[m 15 5,ad 16 15 1,m 5 16]
def aa8:=[o 4 (.mv T)]
def AI:aN:=(s (r aa0) (s (s (r aa1) (.cond (.t 10) (s (r aa2) .ret) .skip)) (s (s (r aa3) (.block 0 (.loop (s (s (r aa4) (.cond (.t 14) .skip (.exit 0))) (s (.block 1 (s (.bW VY aa5) (.cond (.t 25) (s (r aa6) .ret) .skip))) (r aa7)))))) (s (r aa8) .ret))))
def KC:List aZ:=[.tmp 4]
theorem Sp:bB Tryz.prog Tryz.f21 AI:=e (by kernel_rfl)
theorem UA:bC Tryz.prog Tryz.f21 KC:=e (by kernel_rfl)
theorem Qq:bA Tryz.prog 21:=e (by kernel_rfl)
def aa9:=[o 0 (.mv bt)]
def aba:=[o 18 (.call 81 []),m 1 18]
def abd:=[o 19 (.call 82 []),o 2 (.alloc (.agg [.agg [.int .i64 0,.int .i64 0,.int .i64 0,.int .i64 0,.int .i64 0],.int .i64 0,.nils 7])),p (.bx (some 7) (.t 2) (.t 19))]
def abe:=[m 21 1,o 22 (.call 27 [.t 21,(aj 10),(aj 6),(aj 7)]),m 20 22,o 23 (.ext (.t 20) 0),o 24 (.ext (.t 20) 1),m 3 23,m 4 24]
def abf:=[aA 26 7 2,m 27 1,o 28 (.call 14 [.t 26,.t 27,(aj 20),(aj 9)]),m 25 28,o 29 (.ext (.t 25) 0),o 30 (.ext (.t 25) 1),m 5 29,m 6 30]
def abg:=[aA 32 7 2,m 33 1,o 34 (.call 14 [.t 32,.t 33,(aj 20),(aj 14)]),m 31 34,o 35 (.ext (.t 31) 0),o 36 (.ext (.t 31) 1),m 7 35,m 8 36]
def abh:=[aA 38 7 2,m 39 1,o 40 (.call 16 [.t 38,.t 39,(aj 11)]),m 37 40,o 41 (.ext (.t 37) 0),o 42 (.ext (.t 37) 1),m 9 41,m 10 42]
def abi:=[m 44 1,o 45 (.call 28 [.t 44,(aj 2),(aj 3),(aj 7),(aj 7)]),m 43 45,o 46 (.ext (.t 43) 0),o 47 (.ext (.t 43) 1),m 11 46,m 12 47]
def abj:=[m 49 1,o 50 (.call 26 [.t 49,(aj 12),(aj 12)]),m 48 50,o 51 (.ext (.t 48) 0),o 52 (.ext (.t 48) 1),m 13 51,m 14 52]
def abk:=[aA 54 7 2,m 55 1,o 56 (.call 18 [.t 54,.t 55,(aj 20),(aj 9)]),m 53 56,o 57 (.ext (.t 53) 0),o 58 (.ext (.t 53) 1),m 15 57,m 16 58]
def abb:=[m 59 4,o 60 (.bin .eql (.t 59) (aj 0)),m 61 60,cD 62 6 61,bE 63 (.bin .eql (.t 62) (aj 0)) 61,and 64 61 63,m 65 64,cD 66 8 65,bE 67 (.bin .eql (.t 66) (aj 0)) 65,and 68 65 67,m 69 68,cD 70 10 69,bE 71 (.bin .eql (.t 70) (aj 0)) 69,and 72 69 71,m 73 72,cD 74 12 73,bE 75 (.bin .eql (.t 74) (aj 0)) 73,and 76 73 75,m 77 76,cD 78 14 77,bE 79 (.bin .eql (.t 78) (aj 0)) 77,and 80 77 79,m 81 80,cD 82 16 81,bE 83 (.bin .eql (.t 82) (aj 0)) 81,and 84 81 83,m 17 84]
def abc:=[m 85 17,m 86 85,cD 87 3 86,bE 88 (.bin .eql (.t 87) (aj 2)) 86,and 89 86 88,m 90 89,cD 91 5 90,bE 92 (.bs 1 [(aj 3)]) 90,bE 93 (.call 20 [.t 91,.t 92]) 90,and 94 90 93,m 95 94,cD 96 7 95,bE 97 (.bs 1 [(aj 1),(aj 2),(aj 3)]) 95,bE 98 (.call 20 [.t 96,.t 97]) 95,and 99 95 98,m 100 99,cD 101 9 100,bE 102 (.bs 1 [(aj 11)]) 100,bE 103 (.call 20 [.t 101,.t 102]) 100,and 104 100 103,m 105 104,cD 106 11 105,bE 107 (.bin .eql (.t 106) (aj 1)) 105,and 108 105 107,m 109 108,cD 110 13 109,bE 111 (.bs 1 [(aj 11),(aj 20)]) 109,bE 112 (.call 20 [.t 110,.t 111]) 109,and 113 109 112,m 114 113,cD 115 15 114,bE 116 (.bld [.int .i64 0,.int .i64 0] [(1,(aj 2))]) 114,bE 117 (.bld [.int .i64 0,.int .i64 0] [(1,(aj 5))]) 114,bE 118 (.bs 2 [.t 116,.t 117]) 114,bE 119 (.call 21 [.t 115,.t 118]) 114,and 120 114 119,m 0 120]
def AN:aN:=(s (r aa9) (s (r aba) (s (r abd) (s (r abe) (s (r abf) (s (r abg) (s (r abh) (s (r abi) (s (r abj) (s (r abk) (s (r abb) (s (r abc) .ret))))))))))))
def KH:List aZ:=[.tmp 0]
theorem Sv:bB Tryz.prog Tryz.f22 AN:=e (by kernel_rfl)
theorem UF:bC Tryz.prog Tryz.f22 KH:=e (by kernel_rfl)
theorem Qv:bA Tryz.prog 22:=e (by kernel_rfl)
def abl:=[o 6 (.mv (.c (.nils 1))),aV 7 0]
def abm:=[m 11 0,m 12 1,m 13 2,o 14 (.bs 1 [.t 12,.t 13]),o 15 (.call 67 [.t 11,(.c (.nils 2)),.t 14]),m 8 15]
def abn:=[m 16 8,o 17 (.bin .neq (.t 16) (aj 0))]
def abo:=[m 18 8,o 6 (.mv (.c (.nils 1))),m 7 18]
def abp:=[m 20 0,m 21 1,m 22 2,o 23 (.call 88 [.t 20,.t 21,.t 22]),m 19 23,o 24 (.ext (.t 19) 0),o 25 (.ext (.t 19) 1),m 9 24,m 10 25]
def abq:=[m 26 9,o 27 (.call 72 [.t 26,(.c (.func 89 []))]),m 6 27,aV 7 0]
def AO:aN:=(s (r abl) (s (s (r abm) (s (r abn) (.cond (.t 17) (s (r abo) .ret) .skip))) (s (r abp) (s (r abq) .ret))))
def KI:List aZ:=[.tmp 6,.tmp 7]
theorem Sw:bB Tryz.prog Tryz.f26 AO:=e (by kernel_rfl)
theorem UG:bC Tryz.prog Tryz.f26 KI:=e (by kernel_rfl)
theorem Qw:bA Tryz.prog 26:=e (by kernel_rfl)
def abr:=[aV 8 0,aV 9 0]
def abt:=[m 14 0,m 15 1,o 16 (.bld [.int .i64 0,.int .i64 0] [(0,(.t 15)),(1,(aj 9999))]),o 17 (.bs 2 [.t 16]),m 18 2,m 19 3,o 20 (.bs 1 [.t 18,.t 19]),o 21 (.call 67 [.t 14,.t 17,.t 20]),m 10 21]
def abv:=[m 22 10,o 23 (.bin .neq (.t 22) (aj 0))]
def abw:=[m 24 10,aV 8 0,m 9 24]
def abx:=[m 26 0,m 27 2,m 28 3,o 29 (.call 88 [.t 26,.t 27,.t 28]),m 25 29,o 30 (.ext (.t 25) 0),o 31 (.ext (.t 25) 1),m 11 30,m 12 31]
def aby:=[m 32 11,o 33 (.nilC (.t 32)),f 34 0 0 33,l 35 34,m 36 1,o 37 (.lk (.i .i64) (.nilp) false (.t 35) (.t 36)),m 13 37]
def abz:=[m 39 13,o 40 (.ptrE false (.t 39) (.c (.nilp))),m 38 40]
def abA:=[aV 8 0,aV 9 42]
def abB:=[m 42 13,o 43 (.call 90 [.t 42]),m 41 43]
def abC:=[aV 8 0,aV 9 0]
def abu:=[m 44 13,o 45 (.nilC (.t 44)),f 46 0 0 45,f 47 3 3 46,l 48 47,m 8 48,aV 9 0]
def AP:aN:=(s (r abr) (s (s (r abt) (s (r abv) (.cond (.t 23) (s (r abw) .ret) .skip))) (s (r abx) (s (r aby) (s (.block 0 (s (r abz) (.cond (.t 38) (s (r abA) .ret) (s (r abB) (.cond (.t 41) (s (r abC) .ret) .skip))))) (s (r abu) .ret))))))
def KJ:List aZ:=[.tmp 8,.tmp 9]
theorem Sx:bB Tryz.prog Tryz.f27 AP:=e (by kernel_rfl)
theorem UH:bC Tryz.prog Tryz.f27 KJ:=e (by kernel_rfl)
theorem Qx:bA Tryz.prog 27:=e (by kernel_rfl)
def abD:=[b 6 1,b 7 2,aV 10 0,aV 11 0]
def abE:=[m 15 0,l 16 6,o 17 (.bld [.int .i64 0,.int .i64 0] [(0,(.t 16)),(1,(aj 99))]),l 18 7,o 19 (.bld [.int .i64 0,.int .i64 0] [(0,(.t 18)),(1,(aj 9))]),o 20 (.bs 2 [.t 17,.t 19]),m 21 3,m 22 4,o 23 (.bs 1 [.t 21,.t 22]),o 24 (.call 67 [.t 15,.t 20,.t 23]),m 12 24]
def abF:=[m 25 12,o 26 (.bin .neq (.t 25) (aj 0))]
def abG:=[m 27 12,aV 10 0,m 11 27]
def abH:=[m 29 0,m 30 3,m 31 4,o 32 (.call 88 [.t 29,.t 30,.t 31]),m 28 32,o 33 (.ext (.t 28) 0),o 34 (.ext (.t 28) 1),m 13 33,m 14 34]
def abI:=[m 35 13,o 36 (.mk 91 [.t 6,.t 7]),o 37 (.call 72 [.t 35,.t 36]),o 38 (.len (.t 37)),m 10 38,aV 11 0]
def AQ:aN:=(s (r abD) (s (s (r abE) (s (r abF) (.cond (.t 26) (s (r abG) .ret) .skip))) (s (r abH) (s (r abI) .ret))))
def KK:List aZ:=[.tmp 10,.tmp 11]
theorem Sy:bB Tryz.prog Tryz.f28 AQ:=e (by kernel_rfl)
theorem UI:bC Tryz.prog Tryz.f28 KK:=e (by kernel_rfl)
theorem Qy:bA Tryz.prog 28:=e (by kernel_rfl)
def abJ:=[b 3 1,o 4 (.mv (.c (.nils 17))),aV 5 0]
def abK:=[m 9 0,o 10 (.call 64 [.t 9]),m 6 10]
def abL:=[m 11 6,o 12 (.bin .neq (.t 11) (aj 0))]
def abM:=[m 13 6,o 4 (.mv (.c (.nils 17))),m 5 13]
def abN:=[m 15 0,aA 16 2 3,o 17 (.call 103 [.t 15,.t 16]),m 14 17,o 18 (.ext (.t 14) 0),o 19 (.ext (.t 14) 1),m 7 18,m 8 19]
def abO:=[m 20 8,no 21 20]
def abP:=[o 4 (.mv (.c (.nils 17))),aV 5 3]
def abQ:=[m 22 0,m 23 7,o 24 (.call 78 [.t 22,.t 23]),m 4 24,aV 5 0]
def AR:aN:=(s (r abJ) (s (s (r abK) (s (r abL) (.cond (.t 12) (s (r abM) .ret) .skip))) (s (r abN) (s (s (r abO) (.cond (.t 21) (s (r abP) .ret) .skip)) (s (r abQ) .ret)))))
def KL:List aZ:=[.tmp 4,.tmp 5]
theorem Sz:bB Tryz.prog Tryz.f38 AR:=e (by kernel_rfl)
theorem UJ:bC Tryz.prog Tryz.f38 KL:=e (by kernel_rfl)
theorem Qz:bA Tryz.prog 38:=e (by kernel_rfl)
def abR:=[o 4 (.mv (.c (.nils 17))),aV 5 0]
def abS:=[m 6 0,o 7 (.call 64 [.t 6]),o 8 (.bin .neq (.t 7) (aj 0)),m 9 8,dW 10 1 9,on 11 (.call 64 [.t 10]) 9,on 12 (.bin .neq (.t 11) (aj 0)) 9,or 13 9 12]
def abT:=[o 4 (.mv (.c (.nils 17))),aV 5 41]
def abU:=[m 14 0,m 15 1,o 16 (.call 112 [.t 14,.t 15]),o 17 (.ext (.t 16) 0),o 18 (.ext (.t 16) 1),m 4 17,m 5 18]
def AS:aN:=(s (r abR) (s (s (r abS) (.cond (.t 13) (s (r abT) .ret) .skip)) (s (r abU) .ret)))
def KM:List aZ:=[.tmp 4,.tmp 5]
theorem SA:bB Tryz.prog Tryz.f52 AS:=e (by kernel_rfl)
theorem UK:bC Tryz.prog Tryz.f52 KM:=e (by kernel_rfl)
theorem QA:bA Tryz.prog 52:=e (by kernel_rfl)
def abV:=[o 4 (.mv bt)]
def abW:=[m 6 0,o 7 (.len (.t 6)),m 8 1,o 9 (.len (.t 8)),o 10 (.bin .neq (.t 7) (.t 9))]
def abX:=[o 4 (.mv bt)]
def abY:=[aV 5 0]
def abZ:=[m 11 5,m 12 0,o 13 (.len (.t 12)),lt 14 11 13]
def ab0:=[m 17 0,m 18 5,o 19 (.is 17 (.t 17) (.t 18)),aA 20 17 19,m 21 1,m 22 5,o 23 (.is 17 (.t 21) (.t 22)),aA 24 17 23,o 25 (.eqv (.bx [(.bx [(.i .i64),(.i .i64)]),(.i .i64),(.i .i64),(.i .i64),(.i .i64),(.i .i64),(.i .i64),(.i .i64),(.hU 6 (.i .i64)),(.bx [(.i .i64),(.i .i64)])]) true (.t 20) (.t 24))]
def VZ:=some [[],[],[0,1],[2],[],[],[4,5],[6],[3,7]]
def ab1:=[o 4 (.mv bt)]
def ab2:=[m 15 5,ad 16 15 1,m 5 16]
def ab3:=[o 4 (.mv T)]
def AT:aN:=(s (r abV) (s (s (r abW) (.cond (.t 10) (s (r abX) .ret) .skip)) (s (s (r abY) (.block 0 (.loop (s (s (r abZ) (.cond (.t 14) .skip (.exit 0))) (s (.block 1 (s (.bW VZ ab0) (.cond (.t 25) (s (r ab1) .ret) .skip))) (r ab2)))))) (s (r ab3) .ret))))
def KN:List aZ:=[.tmp 4]
theorem SB:bB Tryz.prog Tryz.f53 AT:=e (by kernel_rfl)
theorem UL:bC Tryz.prog Tryz.f53 KN:=e (by kernel_rfl)
theorem QB:bA Tryz.prog 53:=e (by kernel_rfl)
def ab4:=[b 3 1,o 4 (.mv (.c (.nils 17))),aV 5 0]
def ab5:=[m 8 0,o 9 (.call 64 [.t 8]),m 6 9]
def ab6:=[m 10 6,o 11 (.bin .neq (.t 10) (aj 0))]
def ab7:=[m 12 6,o 4 (.mv (.c (.nils 17))),m 5 12]
def ab8:=[aA 13 17 3,o 14 (.call 62 [.t 13]),m 7 14]
def ab9:=[m 15 7,o 16 (.bin .neq (.t 15) (aj 0))]
def aca:=[m 17 7,o 4 (.mv (.c (.nils 17))),m 5 17]
def acb:=[m 18 0,aA 19 17 3,o 20 (.bs 17 [.t 19]),o 21 (.call 112 [.t 18,.t 20]),o 22 (.ext (.t 21) 0),o 23 (.ext (.t 21) 1),m 4 22,m 5 23]
def AU:aN:=(s (r ab4) (s (s (r ab5) (s (r ab6) (.cond (.t 11) (s (r ab7) .ret) .skip))) (s (s (r ab8) (s (r ab9) (.cond (.t 16) (s (r aca) .ret) .skip))) (s (r acb) .ret))))
def KO:List aZ:=[.tmp 4,.tmp 5]
theorem SC:bB Tryz.prog Tryz.f54 AU:=e (by kernel_rfl)
theorem UM:bC Tryz.prog Tryz.f54 KO:=e (by kernel_rfl)
theorem QC:bA Tryz.prog 54:=e (by kernel_rfl)
def acd:=[b 3 1,o 4 (.mv (.c (.nils 17))),aV 5 0]
def ace:=[m 8 0,o 9 (.call 65 [.t 8]),o 10 (.bin .neq (.t 9) (aj 0))]
def acj:=[o 4 (.mv (.c (.nils 17))),aV 5 41]
def ack:=[aA 11 17 3,o 12 (.call 63 [.t 11]),o 13 (.bin .neq (.t 12) (aj 0))]
def acm:=[o 4 (.mv (.c (.nils 17))),aV 5 40]
def acn:=[m 14 0,f 15 0 0 3,aA 16 2 15,o 17 (.call 110 [.t 14,.t 16]),m 6 17]
def aco:=[m 18 6,o 19 (.bin .geq (.t 18) (aj 0))]
def acp:=[m 20 0,m 21 6,o 22 (.is 17 (.t 20) (.t 21)),aA 23 17 22,aA 24 17 3,o 25 (.eqv (.bx [(.bx [(.i .i64),(.i .i64)]),(.i .i64),(.i .i64),(.i .i64),(.i .i64),(.i .i64),(.i .i64),(.i .i64),(.hU 6 (.i .i64)),(.bx [(.i .i64),(.i .i64)])]) true (.t 23) (.t 24))]
def V0:=some [[],[],[0,1],[2],[],[3,4]]
def acq:=[o 4 (.mv (.c (.nils 17))),aV 5 43]
def acr:=[o 26 (.bs0 17),m 27 0,o 28 (.dq 68 17 136 (.agg [.agg [.int .i64 0,.int .i64 0],.int .i64 0,.int .i64 0,.int .i64 0,.int .i64 0,.int .i64 0,.int .i64 0,.int .i64 0,.agg [.int .i64 0,.int .i64 0,.int .i64 0,.int .i64 0,.int .i64 0,.int .i64 0],.agg [.int .i64 0,.int .i64 0]]) (.t 26) (.t 27)),m 4 28,aV 5 0]
def acf:=[m 29 0,o 30 (.len (.t 29)),o 31 (.bin .eql (.t 30) (aj 60))]
def acg:=[o 4 (.mv (.c (.nils 17))),aV 5 2]
def ach:=[m 32 0,aA 33 17 3,o 34 (.call 113 [.t 32,.t 33]),m 7 34]
def aci:=[m 35 7,m 4 35,aV 5 0]
def AV:aN:=(s (r acd) (s (s (r ace) (.cond (.t 10) (s (r acj) .ret) .skip)) (s (s (r ack) (.cond (.t 13) (s (r acm) .ret) .skip)) (s (r acn) (s (s (r aco) (.cond (.t 19) (s (s (.bW V0 acp) (.cond (.t 25) (s (r acq) .ret) .skip)) (s (r acr) .ret)) .skip)) (s (s (r acf) (.cond (.t 31) (s (r acg) .ret) .skip)) (s (r ach) (s (r aci) .ret))))))))
def KP:List aZ:=[.tmp 4,.tmp 5]
theorem SD:bB Tryz.prog Tryz.f55 AV:=e (by kernel_rfl)
theorem UN:bC Tryz.prog Tryz.f55 KP:=e (by kernel_rfl)
theorem QD:bA Tryz.prog 55:=e (by kernel_rfl)
def GR:=[o 4 (.mv (.c (.nils 17))),aV 5 0]
def acs:=[m 9 0,o 10 (.call 65 [.t 9]),o 11 (.bin .neq (.t 10) (aj 0)),m 12 11,dW 13 1 12,on 14 (.call 65 [.t 13]) 12,on 15 (.bin .neq (.t 14) (aj 0)) 12,or 16 12 15]
def acz:=[o 4 (.mv (.c (.nils 17))),aV 5 41]
def GS:=[o 17 (.bs0 17),m 18 0,o 19 (.dq 68 17 136 (.agg [.agg [.int .i64 0,.int .i64 0],.int .i64 0,.int .i64 0,.int .i64 0,.int .i64 0,.int .i64 0,.int .i64 0,.int .i64 0,.agg [.int .i64 0,.int .i64 0,.int .i64 0,.int .i64 0,.int .i64 0,.int .i64 0],.agg [.int .i64 0,.int .i64 0]]) (.t 17) (.t 18)),m 6 19]
def acA:=[aV 7 0]
def acB:=[m 20 7,m 21 1,o 22 (.len (.t 21)),lt 23 20 22]
def acC:=[m 26 0,m 27 1,m 28 7,o 29 (.is 17 (.t 27) (.t 28)),f 30 0 0 29,aA 31 2 30,o 32 (.call 110 [.t 26,.t 31]),m 8 32]
def acD:=[m 33 8,o 34 (.bin .geq (.t 33) (aj 0)),m 35 34,cD 36 0 35,cD 37 8 35,bE 38 (.is 17 (.t 36) (.t 37)) 35,bE 39 (.ld (some 17) (.t 38)) 35,cD 40 1 35,cD 41 7 35,bE 42 (.is 17 (.t 40) (.t 41)) 35,bE 43 (.ld (some 17) (.t 42)) 35,bE 44 (.eqv (.bx [(.bx [(.i .i64),(.i .i64)]),(.i .i64),(.i .i64),(.i .i64),(.i .i64),(.i .i64),(.i .i64),(.i .i64),(.hU 6 (.i .i64)),(.bx [(.i .i64),(.i .i64)])]) true (.t 39) (.t 43)) 35,and 45 35 44]
def V1:=some [[],[0],[1],[2],[2],[3,4,2],[5,2],[2],[2],[7,8,2],[9,2],[6,10,2],[2,11]]
def acE:=[o 4 (.mv (.c (.nils 17))),aV 5 43]
def acF:=[m 46 8,o 47 (.bin .lss (.t 46) (aj 0))]
def acu:=[m 48 6,m 49 1,m 50 7,o 51 (.is 17 (.t 49) (.t 50)),aA 52 17 51,o 53 (.call 113 [.t 48,.t 52]),m 6 53]
def acv:=[m 24 7,ad 25 24 1,m 7 25]
def acw:=[m 54 6,o 55 (.len (.t 54)),o 56 (.bin .gtr (.t 55) (aj 60))]
def acx:=[o 4 (.mv (.c (.nils 17))),aV 5 2]
def acy:=[m 57 6,m 4 57,aV 5 0]
def AW:aN:=(s (r GR) (s (s (r acs) (.cond (.t 16) (s (r acz) .ret) .skip)) (s (r GS) (s (s (r acA) (.block 0 (.loop (s (s (r acB) (.cond (.t 23) .skip (.exit 0))) (s (.block 1 (s (r acC) (s (s (.bW V1 acD) (.cond (.t 45) (s (r acE) .ret) .skip)) (s (r acF) (.cond (.t 47) (r acu) .skip))))) (r acv)))))) (s (s (r acw) (.cond (.t 56) (s (r acx) .ret) .skip)) (s (r acy) .ret))))))
def KQ:List aZ:=[.tmp 4,.tmp 5]
theorem SE:bB Tryz.prog Tryz.f56 AW:=e (by kernel_rfl)
theorem UO:bC Tryz.prog Tryz.f56 KQ:=e (by kernel_rfl)
theorem QE:bA Tryz.prog 56:=e (by kernel_rfl)
def acG:=[b 3 1,o 4 (.mv (.c (.nils 17))),aV 5 0]
def acH:=[m 8 0,o 9 (.call 65 [.t 8]),o 10 (.bin .neq (.t 9) (aj 0))]
def acI:=[o 4 (.mv (.c (.nils 17))),aV 5 41]
def acJ:=[m 11 0,aA 12 2 3,o 13 (.call 110 [.t 11,.t 12]),m 6 13]
def acK:=[m 14 6,o 15 (.bin .lss (.t 14) (aj 0))]
def acL:=[o 4 (.mv (.c (.nils 17))),aV 5 3]
def acM:=[m 16 0,m 17 6,o 18 (.call 80 [.t 16,.t 17]),m 7 18]
def acN:=[m 19 7,m 4 19,aV 5 0]
def AX:aN:=(s (r acG) (s (s (r acH) (.cond (.t 10) (s (r acI) .ret) .skip)) (s (r acJ) (s (s (r acK) (.cond (.t 15) (s (r acL) .ret) .skip)) (s (r acM) (s (r acN) .ret))))))
def KR:List aZ:=[.tmp 4,.tmp 5]
theorem SF:bB Tryz.prog Tryz.f57 AX:=e (by kernel_rfl)
theorem UP:bC Tryz.prog Tryz.f57 KR:=e (by kernel_rfl)
theorem QF:bA Tryz.prog 57:=e (by kernel_rfl)
def GU:=[o 2 (.alloc (.agg [.int .i64 0,.int .i64 0])),aV 3 0]
def GV:=[m 4 0,o 5 (.call 114 [.t 4,(aj 1),(aj 60000)]),no 6 5]
def GW:=[o 7 (.bld [.int .i64 0,.int .i64 0] []),p (.bx (some 2) (.t 2) (.t 7)),aV 3 44]
def GX:=[m 8 0,o 9 (.bin .sub (.t 8) (aj 1)),o 10 (.bin .quo (.t 9) (aj 10000)),m 11 0,o 12 (.bin .sub (.t 11) (aj 1)),o 13 (.bin .rem (.t 12) (aj 10000)),o 14 (.bld [.int .i64 0,.int .i64 0] [(0,(.t 10)),(1,(.t 13))]),p (.bx (some 2) (.t 2) (.t 14)),aV 3 0]
def AY:aN:=(s (r GU) (s (s (r GV) (.cond (.t 6) (s (r GW) .ret) .skip)) (s (r GX) .ret)))
def KS:List aZ:=[.cell 2 (some 2),.tmp 3]
theorem SG:bB Tryz.prog Tryz.f58 AY:=e (by kernel_rfl)
theorem UQ:bC Tryz.prog Tryz.f58 KS:=e (by kernel_rfl)
theorem QG:bA Tryz.prog 58:=e (by kernel_rfl)
def GY:=[o 2 (.alloc (.agg [.int .i64 0,.int .i64 0])),aV 3 0]
def GZ:=[m 4 0,o 5 (.call 94 [.t 4,(aj 1),(aj 60000)]),no 6 5]
def G0:=[o 7 (.bld [.int .i64 0,.int .i64 0] []),p (.bx (some 2) (.t 2) (.t 7)),aV 3 44]
def G1:=[m 8 0,o 9 (.bin .sub (.t 8) (aj 1)),o 10 (.bin .quo (.t 9) (aj 10000)),m 11 0,o 12 (.bin .sub (.t 11) (aj 1)),o 13 (.bin .rem (.t 12) (aj 10000)),o 14 (.bld [.int .i64 0,.int .i64 0] [(0,(.t 10)),(1,(.t 13))]),p (.bx (some 2) (.t 2) (.t 14)),aV 3 0]
def AZ:aN:=(s (r GY) (s (s (r GZ) (.cond (.t 6) (s (r G0) .ret) .skip)) (s (r G1) .ret)))
def KT:List aZ:=[.cell 2 (some 2),.tmp 3]
theorem SH:bB Tryz.prog Tryz.f59 AZ:=e (by kernel_rfl)
theorem UR:bC Tryz.prog Tryz.f59 KT:=e (by kernel_rfl)
theorem QH:bA Tryz.prog 59:=e (by kernel_rfl)
def G2:=[b 1 0,aV 2 0]
def G3:=[aA 3 2 1,o 4 (.call 115 [.t 3]),no 5 4]
def G4:=[aV 2 0]
def G5:=[f 6 0 0 1,l 7 6,o 8 (.bin .mul (aj 10000) (.t 7)),f 9 1 1 1,l 10 9,o 11 (.bin .add (.t 8) (.t 10)),ad 12 11 1,m 2 12]
def A1:aN:=(s (r G2) (s (s (r G3) (.cond (.t 5) (s (r G4) .ret) .skip)) (s (r G5) .ret)))
def KU:List aZ:=[.tmp 2]
theorem SI:bB Tryz.prog Tryz.f60 A1:=e (by kernel_rfl)
theorem US:bC Tryz.prog Tryz.f60 KU:=e (by kernel_rfl)
theorem QI:bA Tryz.prog 60:=e (by kernel_rfl)
def G6:=[b 1 0,aV 2 0]
def G7:=[aA 3 2 1,o 4 (.call 116 [.t 3]),no 5 4]
def G8:=[aV 2 0]
def G9:=[f 6 0 0 1,l 7 6,o 8 (.bin .mul (aj 10000) (.t 7)),f 9 1 1 1,l 10 9,o 11 (.bin .add (.t 8) (.t 10)),ad 12 11 1,m 2 12]
def A2:aN:=(s (r G6) (s (s (r G7) (.cond (.t 5) (s (r G8) .ret) .skip)) (s (r G9) .ret)))
def KV:List aZ:=[.tmp 2]
theorem SJ:bB Tryz.prog Tryz.f61 A2:=e (by kernel_rfl)
theorem UT:bC Tryz.prog Tryz.f61 KV:=e (by kernel_rfl)
theorem QJ:bA Tryz.prog 61:=e (by kernel_rfl)
def acO:=[b 1 0,aV 2 0]
def acP:=[aA 3 17 1,o 4 (.call 117 [.t 3]),no 5 4]
def acQ:=[aV 2 40]
def acR:=[aV 2 0]
def A4:aN:=(s (r acO) (s (s (r acP) (.cond (.t 5) (s (r acQ) .ret) .skip)) (s (r acR) .ret)))
def KW:List aZ:=[.tmp 2]
theorem SK:bB Tryz.prog Tryz.f62 A4:=e (by kernel_rfl)
theorem UU:bC Tryz.prog Tryz.f62 KW:=e (by kernel_rfl)
theorem QK:bA Tryz.prog 62:=e (by kernel_rfl)
def Ha:=[b 1 0,aV 2 0]
def acS:=[f 7 3 4 1,l 8 7,o 9 (.call 94 [.t 8,(aj 0),(aj 100000)]),m 10 9,dg 11 2 3 1 10,eg 12 11 10,bE 13 (.call 94 [.t 12,(aj 0),(aj 100000)]) 10,and 14 10 13,m 3 14]
def ac3:=[f 15 0 0 1,aA 16 2 15,o 17 (.call 116 [.t 16]),no 18 17,m 19 18,dW 20 3 19,on 21 (.un .not (.t 20)) 19,or 22 19 21,m 23 22,fn 24 1 2 1 23,gz 25 24 23,on 26 (.call 94 [.t 25,(aj 0),(aj 6)]) 23,on 27 (.un .not (.t 26)) 23,or 28 23 27,m 29 28,on 30 (.ld (some 17) (.t 1)) 29,on 31 (.ld (some 17) (.t 1)) 29,on 32 (.call 84 [.t 31]) 29,on 33 (.eqv (.bx [(.bx [(.i .i64),(.i .i64)]),(.i .i64),(.i .i64),(.i .i64),(.i .i64),(.i .i64),(.i .i64),(.i .i64),(.hU 6 (.i .i64)),(.bx [(.i .i64),(.i .i64)])]) true (.t 30) (.t 32)) 29,or 34 29 33]
def V2:=some [[],[0],[1],[2],[3,2],[4],[5,4],[4,6],[7,4],[8],[9,8],[10,8,8],[11,8],[8,12],[13,11],[14],[14],[16,14,14],[15,17,14],[14,18]]
def ada:=[aV 2 40]
def adb:=[f 35 1 2 1,l 36 35,o 37 (.bin .eql (.t 36) (aj 0))]
def ade:=[f 38 2 3 1,l 39 38,o 40 (.bin .neq (.t 39) (aj 0)),m 41 40,fn 42 9 15 1 41,on 43 (.ld (some 2) (.t 42)) 41,on 44 (.call 116 [.t 43]) 41,on 45 (.un .not (.t 44)) 41,or 46 41 45,m 47 46,fn 48 9 15 1 47,fn 49 0 0 48 47,gz 50 49 47,fn 51 0 0 1 47,fn 52 0 0 51 47,gz 53 52 47,on 54 (.bin .neq (.t 50) (.t 53)) 47,or 55 47 54,m 56 55,fn 57 9 15 1 56,fn 58 1 1 57 56,gz 59 58 56,fn 60 0 0 1 56,fn 61 1 1 60 56,gz 62 61 56,on 63 (.bin .geq (.t 59) (.t 62)) 56,or 64 56 63]
def adf:=[aV 2 40]
def adg:=[aV 2 0]
def adh:=[f 65 4 5 1,l 66 65,o 67 (.call 94 [.t 66,(aj 1),(aj 9999)]),no 68 67]
def adi:=[aV 2 40]
def acT:=[f 69 7 8 1,l 70 69,o 71 (.call 94 [.t 70,(aj 1),(aj 99)]),m 4 71]
def acU:=[f 72 6 7 1,l 73 72,o 74 (.call 94 [.t 73,(aj 1),(aj 9)]),m 5 74]
def acV:=[o 6 (.mv bt)]
def acW:=[f 75 1 2 1,l 76 75]
def acX:=[o 78 (.bin .eql (.t 76) (aj 1)),m 77 78]
def acY:=[m 79 4,no 80 79,m 81 80,dW 82 5 81,on 83 (.un .not (.t 82)) 81,or 84 81 83,m 85 84,fn 86 5 6 1 85,gz 87 86 85,on 88 (.call 94 [.t 87,(aj 0),(aj 9999)]) 85,on 89 (.un .not (.t 88)) 85,or 90 85 89,m 91 90,fn 92 5 6 1 91,gz 93 92 91,fn 94 4 5 1 91,gz 95 94 91,on 96 (.bin .eql (.t 93) (.t 95)) 91,or 97 91 96,m 6 97]
def acZ:=[o 99 (.bin .eql (.t 76) (aj 2)),m 98 99]
def ac0:=[m 100 5,no 101 100,m 6 101]
def ac1:=[o 103 (.bin .eql (.t 76) (aj 3)),m 102 103]
def ac2:=[o 104 (.bin .eql (.t 76) (aj 5)),m 102 104]
def ac4:=[m 105 4,no 106 105,m 6 106]
def ac5:=[o 108 (.bin .eql (.t 76) (aj 4)),m 107 108]
def ac6:=[f 109 8 9 1,aA 110 6 109,o 111 (.call 101 [.t 110]),o 112 (.bin .neq (.t 111) (aj 0)),m 6 112]
def ac7:=[m 113 6]
def ac8:=[aV 2 40]
def ac9:=[aV 2 0]
def A5:aN:=(s (r Ha) (s (r acS) (s (s (.bW V2 ac3) (.cond (.t 34) (s (r ada) .ret) .skip)) (s (s (r adb) (.cond (.t 37) (s (s (r ade) (.cond (.t 64) (s (r adf) .ret) .skip)) (s (r adg) .ret)) .skip)) (s (s (r adh) (.cond (.t 68) (s (r adi) .ret) .skip)) (s (r acT) (s (r acU) (s (r acV) (s (s (r acW) (.block 0 (s (r acX) (.cond (.t 77) (r acY) (s (r acZ) (.cond (.t 98) (r ac0) (s (s (r ac1) (.cond (.t 102) .skip (r ac2))) (.cond (.t 102) (r ac4) (s (r ac5) (.cond (.t 107) (r ac6) .skip)))))))))) (s (s (r ac7) (.cond (.t 113) (s (r ac8) .ret) .skip)) (s (r ac9) .ret)))))))))))
def KX:List aZ:=[.tmp 2]
theorem SL:bB Tryz.prog Tryz.f63 A5:=e (by kernel_rfl)
theorem UW:bC Tryz.prog Tryz.f63 KX:=e (by kernel_rfl)
theorem QL:bA Tryz.prog 63:=e (by kernel_rfl)
def Hb:=[aV 2 0]
def Hc:=[m 5 0,o 6 (.len (.t 5)),o 7 (.bin .gtr (.t 6) (aj 60))]
def adj:=[aV 2 41]
def Hd:=[m 8 0,o 9 (.len (.t 8)),aV 10 0]
def adk:=[lt 11 10 9]
def adl:=[m 12 10,o 13 (.is 17 (.t 8) (.t 10)),aA 14 17 13,o 4 (.alloc (.agg [.agg [.int .i64 0,.int .i64 0],.int .i64 0,.int .i64 0,.int .i64 0,.int .i64 0,.int .i64 0,.int .i64 0,.int .i64 0,.agg [.int .i64 0,.int .i64 0,.int .i64 0,.int .i64 0,.int .i64 0,.int .i64 0],.agg [.int .i64 0,.int .i64 0]])),m 3 12,p (.bx (some 17) (.t 4) (.t 14))]
def adm:=[aA 15 17 4,o 16 (.call 117 [.t 15]),no 17 16,m 18 17,dW 19 3 18,on 20 (.bin .gtr (.t 19) (aj 0)) 18,dW 21 20 18,cD 22 0 21,cD 23 3 21,bE 24 (.bin .sub (.t 23) (aj 1)) 21,bE 25 (.is 17 (.t 22) (.t 24)) 21,dg 26 0 0 25 21,bE 27 (.ld (some 2) (.t 26)) 21,dg 28 0 0 4 21,bE 29 (.ld (some 2) (.t 28)) 21,bE 30 (.call 118 [.t 27,.t 29]) 21,bE 31 (.bin .geq (.t 30) (aj 0)) 21,on 32 (.pick (.t 21) (.t 31) bt) 18,or 33 18 32]
def V3:=some [[],[0],[1],[2,1],[3],[4,3],[5,3,3],[6],[6],[8,6],[7,9,6],[10,6],[11,6],[6],[13,6],[12,14,6,6],[15,6],[6,16,3],[3,17]]
def adn:=[aV 2 41]
def ado:=[ad 34 10 1,m 10 34]
def adp:=[aV 2 0]
def A6:aN:=(s (r Hb) (s (s (r Hc) (.cond (.t 7) (s (r adj) .ret) .skip)) (s (s (r Hd) (.block 0 (.loop (s (r adk) (s (.cond (.t 11) .skip (.exit 0)) (s (.block 1 (s (r adl) (s (.bW V3 adm) (.cond (.t 33) (s (r adn) .ret) .skip)))) (r ado))))))) (s (r adp) .ret))))
def KY:List aZ:=[.tmp 2]
theorem SM:bB Tryz.prog Tryz.f64 A6:=e (by kernel_rfl)
theorem UX:bC Tryz.prog Tryz.f64 KY:=e (by kernel_rfl)
theorem QM:bA Tryz.prog 64:=e (by kernel_rfl)
def He:=[aV 2 0]
def Hf:=[m 4 0,o 5 (.len (.t 4)),o 6 (.bin .gtr (.t 5) (aj 60))]
def adq:=[aV 2 41]
def Hg:=[aV 3 0]
def adr:=[m 7 3,m 8 0,o 9 (.len (.t 8)),lt 10 7 9]
def ads:=[m 13 0,m 14 3,o 15 (.is 17 (.t 13) (.t 14)),aA 16 17 15,o 17 (.call 63 [.t 16]),o 18 (.bin .neq (.t 17) (aj 0)),m 19 18,dW 20 3 19,on 21 (.bin .gtr (.t 20) (aj 0)) 19,dW 22 21 19,cD 23 0 22,cD 24 3 22,bE 25 (.bin .sub (.t 24) (aj 1)) 22,bE 26 (.is 17 (.t 23) (.t 25)) 22,dg 27 0 0 26 22,bE 28 (.ld (some 2) (.t 27)) 22,cD 29 0 22,cD 30 3 22,bE 31 (.is 17 (.t 29) (.t 30)) 22,dg 32 0 0 31 22,bE 33 (.ld (some 2) (.t 32)) 22,bE 34 (.call 119 [.t 28,.t 33]) 22,bE 35 (.un .not (.t 34)) 22,on 36 (.pick (.t 22) (.t 35) bt) 19,or 37 19 36]
def V4:=some [[],[],[0,1],[2],[3],[4],[5,4],[6],[7,6],[8,6,6],[9],[9],[11,9],[10,12,9],[13,9],[14,9],[9],[9],[16,17,9],[18,9],[19,9],[15,20,9,9],[21,9],[9,22,6],[6,23]]
def adt:=[aV 2 41]
def adu:=[m 11 3,ad 12 11 1,m 3 12]
def adv:=[aV 2 0]
def A7:aN:=(s (r He) (s (s (r Hf) (.cond (.t 6) (s (r adq) .ret) .skip)) (s (s (r Hg) (.block 0 (.loop (s (s (r adr) (.cond (.t 10) .skip (.exit 0))) (s (.block 1 (s (.bW V4 ads) (.cond (.t 37) (s (r adt) .ret) .skip))) (r adu)))))) (s (r adv) .ret))))
def KZ:List aZ:=[.tmp 2]
theorem SN:bB Tryz.prog Tryz.f65 A7:=e (by kernel_rfl)
theorem UY:bC Tryz.prog Tryz.f65 KZ:=e (by kernel_rfl)
theorem QN:bA Tryz.prog 65:=e (by kernel_rfl)
def Hh:=[b 1 0,aV 2 0]
def Hi:=[f 5 0 0 1,aA 6 5 5,o 7 (.call 120 [.t 6]),no 8 7,m 9 8,fn 10 1 5 1 9,gz 11 10 9,on 12 (.call 121 [.t 11,(aj 0),(aj 2)]) 9,on 13 (.un .not (.t 12)) 9,or 14 9 13,m 15 14,fn 16 2 6 1 15,gz 17 16 15,on 18 (.len (.t 17)) 15,on 19 (.bin .gtr (.t 18) (aj 40)) 15,or 20 15 19]
def r9:=[aV 2 13]
def Hj:=[f 21 2 6 1,l 22 21,o 23 (.len (.t 22)),aV 24 0]
def Hk:=[lt 25 24 23]
def Hl:=[m 26 24,o 27 (.is 7 (.t 22) (.t 24)),aA 28 7 27,o 4 (.alloc (.agg [.int .i64 0,.agg [.int .i64 0,.int .i64 0,.int .i64 0,.int .i64 0,.int .i64 0,.int .i64 0]])),m 3 26,p (.bx (some 7) (.t 4) (.t 28))]
def Hm:=[f 29 0 0 4,l 30 29,o 31 (.call 122 [.t 30]),no 32 31,m 33 32,fn 34 1 1 4 33,on 35 (.ld (some 6) (.t 34)) 33,on 36 (.call 123 [.t 35]) 33,on 37 (.un .not (.t 36)) 33,or 38 33 37,m 39 38,dW 40 3 39,on 41 (.bin .gtr (.t 40) (aj 0)) 39,dW 42 41 39,dg 43 2 6 1 42,eg 44 43 42,cD 45 3 42,bE 46 (.bin .sub (.t 45) (aj 1)) 42,bE 47 (.is 7 (.t 44) (.t 46)) 42,dg 48 0 0 47 42,eg 49 48 42,dg 50 0 0 4 42,eg 51 50 42,bE 52 (.bin .geq (.t 49) (.t 51)) 42,on 53 (.pick (.t 42) (.t 52) bt) 39,or 54 39 53,m 55 54,on 56 (.ld (some 7) (.t 1)) 55,fn 57 2 6 1 55,gz 58 57 55,dW 59 3 55,on 60 (.sl 7 (.t 58) none (some (.t 59)) none) 55,fn 61 1 1 4 55,on 62 (.ld (some 6) (.t 61)) 55,on 63 (.call 124 [.t 56,.t 60,.t 62]) 55,on 64 (.un .not (.t 63)) 55,or 65 55 64]
def V5:=some [[],[0],[1],[2],[3,2],[4],[5,4],[6,4,4],[7,4],[4,8],[9,7],[10],[11,10],[12,10,10],[13],[14,13],[13],[16,13],[15,17,13],[18,13],[19,13],[13],[21,13],[20,22,13],[13,23,10],[10,24],[25,13],[26],[26],[28,26],[26],[29,30,26],[26],[32,26],[27,31,33,26,26],[34,26],[26,35]]
def oQ:=[aV 2 13]
def vV:=[ad 66 24 1,m 24 66]
def Hn:=[aV 2 0]
def A8:aN:=(s (r Hh) (s (s (r Hi) (.cond (.t 20) (s (r r9) .ret) .skip)) (s (s (r Hj) (.block 0 (.loop (s (r Hk) (s (.cond (.t 25) .skip (.exit 0)) (s (.block 1 (s (r Hl) (s (.bW V5 Hm) (.cond (.t 65) (s (r oQ) .ret) .skip)))) (r vV))))))) (s (r Hn) .ret))))
def K0:List aZ:=[.tmp 2]
theorem SO:bB Tryz.prog Tryz.f66 A8:=e (by kernel_rfl)
theorem UZ:bC Tryz.prog Tryz.f66 K0:=e (by kernel_rfl)
theorem QO:bA Tryz.prog 66:=e (by kernel_rfl)
def adw:=[aV 6 0]
def adx:=[m 10 0,o 11 (.call 64 [.t 10]),m 7 11]
def adB:=[m 12 7,o 13 (.bin .neq (.t 12) (aj 0))]
def adC:=[m 14 7,m 6 14]
def adD:=[m 15 1,o 16 (.len (.t 15)),aV 17 0]
def adE:=[lt 18 17 16]
def adF:=[o 19 (.is 2 (.t 15) (.t 17)),aA 20 2 19,o 9 (.alloc (.agg [.int .i64 0,.int .i64 0])),p (.bx (some 2) (.t 9) (.t 20))]
def adG:=[o 21 (.ia 2 1 (.t 9) (aj 0)),l 22 21,o 23 (.ia 2 1 (.t 9) (aj 1)),l 24 23,o 25 (.call 114 [.t 22,(aj 1),.t 24]),no 26 25]
def adH:=[aV 6 1]
def adI:=[ad 27 17 1,m 17 27]
def ady:=[m 28 2,o 29 (.call 125 [.t 28,(.c (.func 126 []))])]
def adz:=[aV 6 6]
def adA:=[aV 6 0]
def A9:aN:=(s (r adw) (s (s (r adx) (s (r adB) (.cond (.t 13) (s (r adC) .ret) .skip))) (s (s (r adD) (.block 0 (.loop (s (r adE) (s (.cond (.t 18) .skip (.exit 0)) (s (.block 1 (s (r adF) (s (r adG) (.cond (.t 26) (s (r adH) .ret) .skip)))) (r adI))))))) (s (s (r ady) (.cond (.t 29) (s (r adz) .ret) .skip)) (s (r adA) .ret)))))
def K1:List aZ:=[.tmp 6]
theorem SP:bB Tryz.prog Tryz.f67 A9:=e (by kernel_rfl)
theorem U0:bC Tryz.prog Tryz.f67 K1:=e (by kernel_rfl)
theorem QP:bA Tryz.prog 67:=e (by kernel_rfl)
def adJ:=[o 4 (.mv (.c (.nilp)))]
def adK:=[m 8 0,m 9 1,o 10 (.call 88 [.t 8,(aj 100000),.t 9]),m 7 10,o 11 (.ext (.t 7) 0),o 12 (.ext (.t 7) 1),m 5 11,m 6 12]
def adL:=[m 13 5,m 4 13]
def Ba:aN:=(s (r adJ) (s (r adK) (s (r adL) .ret)))
def K2:List aZ:=[.tmp 4]
theorem SQ:bB Tryz.prog Tryz.f68 Ba:=e (by kernel_rfl)
theorem U1:bC Tryz.prog Tryz.f68 K2:=e (by kernel_rfl)
theorem QR:bA Tryz.prog 68:=e (by kernel_rfl)
def adM:=[b 2 0,o 4 (.mv (.c (.nils 1)))]
def adN:=[aA 8 7 2,m 9 1,o 10 (.nilC (.t 9)),f 11 0 0 10,f 12 8 8 11,l 13 12,o 14 (.call 128 [.t 8,.t 13]),m 7 14,o 15 (.ext (.t 7) 0),o 16 (.ext (.t 7) 1),m 5 15,m 6 16]
def V6:=some [[],[],[1],[2],[3],[4],[0,5],[6],[7],[7],[8,6,0,1,2,3,4,5,6,7,8],[9,10,0,1,2,3,4,5,6,7,8,9,10]]
def adO:=[m 17 5,m 4 17]
def Bb:aN:=(s (r adM) (s (.bW V6 adN) (s (r adO) .ret)))
def K3:List aZ:=[.tmp 4]
theorem SR:bB Tryz.prog Tryz.f69 Bb:=e (by kernel_rfl)
theorem U2:bC Tryz.prog Tryz.f69 K3:=e (by kernel_rfl)
theorem QS:bA Tryz.prog 69:=e (by kernel_rfl)
def Ho:=[o 4 (.mv (.c (.nils 1)))]
def Hp:=[o 5 (.mv (.c (.nils 1)))]
def Hq:=[m 8 0,o 9 (.nilC (.t 8)),f 10 0 0 9,l 11 10,o 12 (.j0 (.t 11))]
def vW:=[o 13 (.jl (.t 12)),o 14 (.ext (.t 13) 0)]
def Hr:=[o 15 (.ent (.t 12)),o 16 (.ext (.t 15) 0),o 17 (.ext (.t 15) 1),m 6 16,m 7 17]
def Hs:=[m 18 1,m 19 7,o 20 (.en (.t 18) [.t 19])]
def adP:=[m 21 5,m 22 6,o 23 (.bs 1 [.t 22]),o 24 (.dq 3 1 8 (.int .i64 0) (.t 21) (.t 23)),m 5 24]
def adQ:=[m 25 5,o 26 (.call 107 [.t 25])]
def adR:=[m 27 5,m 4 27]
def Bc:aN:=(s (r Ho) (s (r Hp) (s (s (r Hq) (.block 0 (.loop (s (r vW) (s (.cond (.t 14) .skip (.exit 0)) (.block 1 (s (r Hr) (s (r Hs) (.cond (.t 20) (r adP) .skip))))))))) (s (r adQ) (s (r adR) .ret)))))
def K4:List aZ:=[.tmp 4]
theorem SS:bB Tryz.prog Tryz.f72 Bc:=e (by kernel_rfl)
theorem U3:bC Tryz.prog Tryz.f72 K4:=e (by kernel_rfl)
theorem QT:bA Tryz.prog 72:=e (by kernel_rfl)
def adS:=[o 3 (.mv bt)]
def adT:=[m 4 0,o 5 (.nilC (.t 4)),f 6 0 0 5,f 7 4 4 6,l 8 7,o 9 (.bin .gtr (.t 8) (aj 0)),m 10 9,bE 11 (.ld (some 7) (.t 1)) 10,cD 12 0 10,bE 13 (.call 69 [.t 11,.t 12]) 10,cD 14 0 10,bE 15 (.nilC (.t 14)) 10,dg 16 0 0 15 10,dg 17 4 4 16 10,eg 18 17 10,bE 19 (.call 74 [.t 13,.t 18]) 10,bE 20 (.un .not (.t 19)) 10,and 21 10 20,m 3 21]
def V7:=some [[],[0],[1],[2],[3],[4],[5],[6],[6],[7,8,6,6],[6],[10,6],[11,6],[12,6],[13,6],[9,14,9,6],[15,6],[6,16],[17,15,0,1,2,3,4,5,6,7,8,9,10,11,12,13,14,15,16,17]]
def Bd:aN:=(s (r adS) (s (.bW V7 adT) .ret))
def K5:List aZ:=[.tmp 3]
theorem SU:bB Tryz.prog Tryz.f73 Bd:=e (by kernel_rfl)
theorem U4:bC Tryz.prog Tryz.f73 K5:=e (by kernel_rfl)
theorem QU:bA Tryz.prog 73:=e (by kernel_rfl)
def adU:=[o 4 (.mv bt)]
def adV:=[m 5 0,m 6 1,o 7 (.call 131 [.t 5,.t 6]),o 8 (.bin .geq (.t 7) (aj 0)),m 4 8]
def Be:aN:=(s (r adU) (s (r adV) .ret))
def K6:List aZ:=[.tmp 4]
theorem SV:bB Tryz.prog Tryz.f74 Be:=e (by kernel_rfl)
theorem U5:bC Tryz.prog Tryz.f74 K6:=e (by kernel_rfl)
theorem QV:bA Tryz.prog 74:=e (by kernel_rfl)
def Ht:=[o 2 (.mv bt)]
def Hu:=[m 3 0,o 4 (.call 94 [.t 3,(aj 0),(aj 100000)]),m 2 4]
def Bf:aN:=(s (r Ht) (s (r Hu) .ret))
def K7:List aZ:=[.tmp 2]
theorem SW:bB Tryz.prog Tryz.f75 Bf:=e (by kernel_rfl)
theorem U6:bC Tryz.prog Tryz.f75 K7:=e (by kernel_rfl)
theorem QW:bA Tryz.prog 75:=e (by kernel_rfl)
def adW:=[b 3 0,o 6 (.mv bt)]
def adX:=[m 8 1,o 9 (.ptrE false (.t 8) (.c (.nilp))),m 10 9,dW 11 2 10,on 12 (.ptrE false (.t 11) (.c (.nilp))) 10,or 13 10 12]
def adY:=[m 14 1,m 15 2,o 16 (.ptrE false (.t 14) (.t 15)),m 6 16]
def adZ:=[o 7 (.mv (.c (.func 133 [])))]
def ad0:=[m 17 7,m 18 1,o 19 (.en (.t 17) [.t 18]),m 20 7,m 21 2,o 22 (.en (.t 20) [.t 21]),o 23 (.eqv (.hU 8 (.i .i64)) false (.t 19) (.t 22)),m 24 23,bE 25 (.ld (some 7) (.t 3)) 24,cD 26 1 24,bE 27 (.call 69 [.t 25,.t 26]) 24,bE 28 (.ld (some 7) (.t 3)) 24,cD 29 2 24,bE 30 (.call 69 [.t 28,.t 29]) 24,bE 31 (.call 134 [.t 27,.t 30]) 24,and 32 24 31,m 6 32]
def V8:=some [[],[],[0,1],[],[],[3,4,2],[2,5],[6,5],[7],[7],[8,9,7,7],[7],[7],[11,12,10,7],[10,13,13,7],[7,14],[15,14,0,1,2,3,4,5,6,7,8,9,10,11,12,13,14,15]]
def rE:aN:=(s (r adW) (s (s (r adX) (.cond (.t 13) (s (r adY) .ret) .skip)) (s (r adZ) (s (.bW V8 ad0) .ret))))
def td:List aZ:=[.tmp 6]
theorem uF:bB Tryz.prog Tryz.f77 rE:=e (by kernel_rfl)
theorem uQ:bC Tryz.prog Tryz.f77 td:=e (by kernel_rfl)
theorem uC:bA Tryz.prog 77:=e (by kernel_rfl)
def Hv:=[o 4 (.mv (.c (.nils 17)))]
def Hw:=[m 5 0,o 6 (.call 136 [.t 5]),m 7 1,m 8 1,ad 9 8 1,o 10 (.call 135 [.t 6,.t 7,.t 9]),m 4 10]
def Bg:aN:=(s (r Hv) (s (r Hw) .ret))
def K8:List aZ:=[.tmp 4]
theorem SX:bB Tryz.prog Tryz.f78 Bg:=e (by kernel_rfl)
theorem U7:bC Tryz.prog Tryz.f78 K8:=e (by kernel_rfl)
theorem QX:bA Tryz.prog 78:=e (by kernel_rfl)
def ad3:=[o 4 (.mv (.c (.nils 17)))]
def ad4:=[o 5 (.mv (.c (.nils 17)))]
def ad5:=[aV 6 0]
def ad6:=[m 7 6,m 8 0,o 9 (.len (.t 8)),lt 10 7 9]
def ad7:=[m 13 6,m 14 1,o 15 (.bin .neq (.t 13) (.t 14))]
def ad8:=[m 16 5,m 17 0,m 18 6,o 19 (.is 17 (.t 17) (.t 18)),aA 20 17 19,o 21 (.bs 17 [.t 20]),o 22 (.dq 68 17 136 (.agg [.agg [.int .i64 0,.int .i64 0],.int .i64 0,.int .i64 0,.int .i64 0,.int .i64 0,.int .i64 0,.int .i64 0,.int .i64 0,.agg [.int .i64 0,.int .i64 0,.int .i64 0,.int .i64 0,.int .i64 0,.int .i64 0],.agg [.int .i64 0,.int .i64 0]]) (.t 16) (.t 21)),m 5 22]
def ad9:=[m 11 6,ad 12 11 1,m 6 12]
def aea:=[m 23 5,m 4 23]
def Bh:aN:=(s (r ad3) (s (r ad4) (s (s (r ad5) (.block 0 (.loop (s (s (r ad6) (.cond (.t 10) .skip (.exit 0))) (s (.block 1 (s (r ad7) (.cond (.t 15) (r ad8) .skip))) (r ad9)))))) (s (r aea) .ret))))
def K9:List aZ:=[.tmp 4]
theorem SY:bB Tryz.prog Tryz.f80 Bh:=e (by kernel_rfl)
theorem U8:bC Tryz.prog Tryz.f80 K9:=e (by kernel_rfl)
theorem QY:bA Tryz.prog 80:=e (by kernel_rfl)
def Hx:=[o 0 (.mv (.c (.nils 17)))]
def Hy:=[o 1 (.bld [.agg [.int .i64 0,.int .i64 0],.int .i64 0,.int .i64 0,.int .i64 0,.int .i64 0,.int .i64 0,.int .i64 0,.int .i64 0,.agg [.int .i64 0,.int .i64 0,.int .i64 0,.int .i64 0,.int .i64 0,.int .i64 0],.agg [.int .i64 0,.int .i64 0]] [(1,(aj 1)),(2,(aj 1)),(3,(aj 1)),(4,(aj 10)),(6,(aj 3)),(7,(aj 2))]),o 2 (.bld [.int .i64 0,.int .i64 0] [(1,(aj 1))]),o 3 (.bld [.agg [.int .i64 0,.int .i64 0],.int .i64 0,.int .i64 0,.int .i64 0,.int .i64 0,.int .i64 0,.int .i64 0,.int .i64 0,.agg [.int .i64 0,.int .i64 0,.int .i64 0,.int .i64 0,.int .i64 0,.int .i64 0],.agg [.int .i64 0,.int .i64 0]] [(0,(.t 2)),(1,(aj 1)),(2,(aj 5)),(3,(aj 5)),(4,(aj 11)),(6,(aj 3)),(7,(aj 2)),(5,(aj 10))]),o 4 (.bld [.int .i64 0,.int .i64 0] [(1,(aj 2))]),o 5 (.bld [.agg [.int .i64 0,.int .i64 0],.int .i64 0,.int .i64 0,.int .i64 0,.int .i64 0,.int .i64 0,.int .i64 0,.int .i64 0,.agg [.int .i64 0,.int .i64 0,.int .i64 0,.int .i64 0,.int .i64 0,.int .i64 0],.agg [.int .i64 0,.int .i64 0]] [(0,(.t 4)),(1,(aj 2)),(2,(aj 6)),(3,(aj 6)),(4,(aj 20)),(6,(aj 3))]),o 6 (.bld [.int .i64 0,.int .i64 0] [(1,(aj 3))]),o 7 (.bld [.int .i64 0,.int .i64 0,.int .i64 0,.int .i64 0,.int .i64 0,.int .i64 0] [(0,(aj 31)),(1,(aj 1)),(2,(aj 1)),(3,(aj 1)),(4,(aj 1)),(5,(aj 31))]),o 8 (.bld [.agg [.int .i64 0,.int .i64 0],.int .i64 0,.int .i64 0,.int .i64 0,.int .i64 0,.int .i64 0,.int .i64 0,.int .i64 0,.agg [.int .i64 0,.int .i64 0,.int .i64 0,.int .i64 0,.int .i64 0,.int .i64 0],.agg [.int .i64 0,.int .i64 0]] [(0,(.t 6)),(1,(aj 4)),(2,(aj 6)),(3,(aj 6)),(4,(aj 20)),(8,(.t 7))]),o 9 (.bld [.int .i64 0,.int .i64 0] [(1,(aj 4))]),o 10 (.bld [.agg [.int .i64 0,.int .i64 0],.int .i64 0,.int .i64 0,.int .i64 0,.int .i64 0,.int .i64 0,.int .i64 0,.int .i64 0,.agg [.int .i64 0,.int .i64 0,.int .i64 0,.int .i64 0,.int .i64 0,.int .i64 0],.agg [.int .i64 0,.int .i64 0]] [(0,(.t 9)),(1,(aj 3)),(2,(aj 7)),(3,(aj 7)),(4,(aj 10)),(7,(aj 1))]),o 11 (.bld [.int .i64 0,.int .i64 0] [(1,(aj 5))]),o 12 (.bld [.int .i64 0,.int .i64 0,.int .i64 0,.int .i64 0,.int .i64 0,.int .i64 0] [(0,(aj 24)),(1,(aj 1)),(2,(aj 1)),(3,(aj 1)),(4,(aj 1)),(5,(aj 31))]),o 13 (.bld [.agg [.int .i64 0,.int .i64 0],.int .i64 0,.int .i64 0,.int .i64 0,.int .i64 0,.int .i64 0,.int .i64 0,.int .i64 0,.agg [.int .i64 0,.int .i64 0,.int .i64 0,.int .i64 0,.int .i64 0,.int .i64 0],.agg [.int .i64 0,.int .i64 0]] [(0,(.t 11)),(1,(aj 4)),(2,(aj 6)),(3,(aj 9)),(4,(aj 20)),(8,(.t 12))]),o 14 (.bld [.int .i64 0,.int .i64 0] [(1,(aj 6))]),o 15 (.bld [.agg [.int .i64 0,.int .i64 0],.int .i64 0,.int .i64 0,.int .i64 0,.int .i64 0,.int .i64 0,.int .i64 0,.int .i64 0,.agg [.int .i64 0,.int .i64 0,.int .i64 0,.int .i64 0,.int .i64 0,.int .i64 0],.agg [.int .i64 0,.int .i64 0]] [(0,(.t 14)),(1,(aj 5)),(2,(aj 10)),(3,(aj 10)),(4,(aj 20)),(7,(aj 3))]),o 16 (.bld [.int .i64 0,.int .i64 0] [(1,(aj 7))]),o 17 (.bld [.int .i64 0,.int .i64 0,.int .i64 0,.int .i64 0,.int .i64 0,.int .i64 0] [(0,(aj 1)),(1,(aj 1)),(2,(aj 1)),(3,(aj 1)),(4,(aj 1)),(5,(aj 1))]),o 18 (.bld [.agg [.int .i64 0,.int .i64 0],.int .i64 0,.int .i64 0,.int .i64 0,.int .i64 0,.int .i64 0,.int .i64 0,.int .i64 0,.agg [.int .i64 0,.int .i64 0,.int .i64 0,.int .i64 0,.int .i64 0,.int .i64 0],.agg [.int .i64 0,.int .i64 0]] [(0,(.t 16)),(1,(aj 4)),(2,(aj 8)),(3,(aj 11)),(4,(aj 11)),(8,(.t 17))]),o 19 (.bld [.int .i64 0,.int .i64 0] [(1,(aj 8))]),o 20 (.bld [.agg [.int .i64 0,.int .i64 0],.int .i64 0,.int .i64 0,.int .i64 0,.int .i64 0,.int .i64 0,.int .i64 0,.int .i64 0,.agg [.int .i64 0,.int .i64 0,.int .i64 0,.int .i64 0,.int .i64 0,.int .i64 0],.agg [.int .i64 0,.int .i64 0]] [(0,(.t 19)),(1,(aj 6)),(2,(aj 12)),(3,(aj 12)),(4,(aj 10))]),o 21 (.bld [.int .i64 0,.int .i64 0] [(1,(aj 9))]),o 22 (.bld [.int .i64 0,.int .i64 0] [(1,(aj 5))]),o 23 (.bld [.agg [.int .i64 0,.int .i64 0],.int .i64 0,.int .i64 0,.int .i64 0,.int .i64 0,.int .i64 0,.int .i64 0,.int .i64 0,.agg [.int .i64 0,.int .i64 0,.int .i64 0,.int .i64 0,.int .i64 0,.int .i64 0],.agg [.int .i64 0,.int .i64 0]] [(0,(.t 21)),(1,(aj 0)),(3,(aj 14)),(9,(.t 22))]),o 24 (.bs 17 [.t 1,.t 3,.t 5,.t 8,.t 10,.t 13,.t 15,.t 18,.t 20,.t 23]),m 0 24]
def Bi:aN:=(s (r Hx) (s (r Hy) .ret))
def La:List aZ:=[.tmp 0]
theorem SZ:bB Tryz.prog Tryz.f81 Bi:=e (by kernel_rfl)
theorem U9:bC Tryz.prog Tryz.f81 La:=e (by kernel_rfl)
theorem QZ:bA Tryz.prog 81:=e (by kernel_rfl)
def Hz:=[o 0 (.alloc (.agg [.agg [.int .i64 0,.int .i64 0,.int .i64 0,.int .i64 0,.int .i64 0],.int .i64 0,.nils 7]))]
def HA:=[o 1 (.bld [.int .i64 0,.int .i64 0,.int .i64 0,.int .i64 0,.int .i64 0] [(0,(aj 1)),(1,(aj 3)),(2,(aj 4)),(3,(aj 24)),(4,(aj 24))]),o 2 (.bld [.int .i64 0,.agg [.int .i64 0,.int .i64 0,.int .i64 0,.int .i64 0,.int .i64 0,.int .i64 0]] [(0,(aj 1))]),o 3 (.bld [.int .i64 0,.int .i64 0,.int .i64 0,.int .i64 0,.int .i64 0,.int .i64 0] [(0,(aj 2)),(1,(aj 0)),(2,(aj 0)),(3,(aj 0)),(4,(aj 0)),(5,(aj 0))]),o 4 (.bld [.int .i64 0,.agg [.int .i64 0,.int .i64 0,.int .i64 0,.int .i64 0,.int .i64 0,.int .i64 0]] [(0,(aj 2)),(1,(.t 3))]),o 5 (.bld [.int .i64 0,.int .i64 0,.int .i64 0,.int .i64 0,.int .i64 0,.int .i64 0] [(0,(aj 3)),(1,(aj 0)),(2,(aj 0)),(3,(aj 0)),(4,(aj 0)),(5,(aj 2))]),o 6 (.bld [.int .i64 0,.agg [.int .i64 0,.int .i64 0,.int .i64 0,.int .i64 0,.int .i64 0,.int .i64 0]] [(0,(aj 3)),(1,(.t 5))]),o 7 (.bs 7 [.t 2,.t 4,.t 6]),o 8 (.bld [.agg [.int .i64 0,.int .i64 0,.int .i64 0,.int .i64 0,.int .i64 0],.int .i64 0,.nils 7] [(0,(.t 1)),(2,(.t 7))]),p (.bx (some 7) (.t 0) (.t 8))]
def Bj:aN:=(s (r Hz) (s (r HA) .ret))
def Lb:List aZ:=[.cell 0 (some 7)]
theorem S0:bB Tryz.prog Tryz.f82 Bj:=e (by kernel_rfl)
theorem Va:bC Tryz.prog Tryz.f82 Lb:=e (by kernel_rfl)
theorem Q0:bA Tryz.prog 82:=e (by kernel_rfl)
def aeb:=[b 1 0,o 2 (.alloc (.agg [.agg [.int .i64 0,.int .i64 0],.int .i64 0,.int .i64 0,.int .i64 0,.int .i64 0,.int .i64 0,.int .i64 0,.int .i64 0,.agg [.int .i64 0,.int .i64 0,.int .i64 0,.int .i64 0,.int .i64 0,.int .i64 0],.agg [.int .i64 0,.int .i64 0]]))]
def aec:=[f 4 0 0 1,aA 5 2 4,f 6 1 2 1,l 7 6,f 8 2 3 1,l 9 8,f 10 3 4 1,l 11 10,o 12 (.bld [.agg [.int .i64 0,.int .i64 0],.int .i64 0,.int .i64 0,.int .i64 0,.int .i64 0,.int .i64 0,.int .i64 0,.int .i64 0,.agg [.int .i64 0,.int .i64 0,.int .i64 0,.int .i64 0,.int .i64 0,.int .i64 0],.agg [.int .i64 0,.int .i64 0]] [(0,(.t 5)),(1,(.t 7)),(2,(.t 9)),(3,(.t 11))]),o 3 (.alloc (.agg [.agg [.int .i64 0,.int .i64 0],.int .i64 0,.int .i64 0,.int .i64 0,.int .i64 0,.int .i64 0,.int .i64 0,.int .i64 0,.agg [.int .i64 0,.int .i64 0,.int .i64 0,.int .i64 0,.int .i64 0,.int .i64 0],.agg [.int .i64 0,.int .i64 0]])),p (.bx (some 17) (.t 3) (.t 12))]
def aem:=[f 13 1 2 1,l 14 13,o 15 (.bin .eql (.t 14) (aj 0))]
def aen:=[f 16 9 15 1,aA 17 2 16,f 18 9 15 3,p (.bx (some 2) (.t 18) (.t 17))]
def aeo:=[aA 19 17 3,p (.bx (some 17) (.t 2) (.t 19))]
def aep:=[f 20 4 5 1,l 21 20,f 22 4 5 3,p (.bx none (.t 22) (.t 21))]
def aeq:=[f 23 1 2 1,l 24 23]
def aer:=[o 26 (.bin .eql (.t 24) (aj 1)),m 25 26]
def aes:=[f 27 6 7 1,l 28 27,f 29 6 7 3,p (.bx none (.t 29) (.t 28))]
def aet:=[f 30 7 8 1,l 31 30,f 32 7 8 3,p (.bx none (.t 32) (.t 31))]
def aed:=[f 33 5 6 1,l 34 33,f 35 5 6 3,p (.bx none (.t 35) (.t 34))]
def aee:=[o 37 (.bin .eql (.t 24) (aj 2)),m 36 37]
def aef:=[f 38 6 7 1,l 39 38,f 40 6 7 3,p (.bx none (.t 40) (.t 39))]
def aeg:=[o 42 (.bin .eql (.t 24) (aj 3)),m 41 42]
def aeh:=[o 43 (.bin .eql (.t 24) (aj 5)),m 41 43]
def aei:=[f 44 7 8 1,l 45 44,f 46 7 8 3,p (.bx none (.t 46) (.t 45))]
def aej:=[o 48 (.bin .eql (.t 24) (aj 4)),m 47 48]
def aek:=[f 49 8 9 1,aA 50 6 49,f 51 8 9 3,p (.bx (some 6) (.t 51) (.t 50))]
def ael:=[aA 52 17 3,p (.bx (some 17) (.t 2) (.t 52))]
def Bk:aN:=(s (r aeb) (s (r aec) (s (s (r aem) (.cond (.t 15) (s (r aen) (s (r aeo) .ret)) .skip)) (s (r aep) (s (s (r aeq) (.block 0 (s (r aer) (.cond (.t 25) (s (r aes) (s (r aet) (r aed))) (s (r aee) (.cond (.t 36) (r aef) (s (s (r aeg) (.cond (.t 41) .skip (r aeh))) (.cond (.t 41) (r aei) (s (r aej) (.cond (.t 47) (r aek) .skip)))))))))) (s (r ael) .ret))))))
def Lc:List aZ:=[.cell 2 (some 17)]
theorem S1:bB Tryz.prog Tryz.f84 Bk:=e (by kernel_rfl)
theorem Vb:bC Tryz.prog Tryz.f84 Lc:=e (by kernel_rfl)
theorem Q1:bA Tryz.prog 84:=e (by kernel_rfl)
def HB:=[b 3 0,b 4 1,o 6 (.mv (.c (.nilp))),o 7 (.mv (.c (.nils 1)))]
def HC:=[o 8 (.alloc (.nils 1)),o 9 (.mv (.c (.nils 1)))]
def HI:=[l 15 3,m 16 2,o 17 (.call 105 [.t 15,.t 16])]
def aeu:=[m 10 18]
def aev:=[l 19 3,m 20 10,o 21 (.is 17 (.t 19) (.t 20)),f 22 1 2 21,l 23 22,o 24 (.bin .neq (.t 23) (aj 0)),m 25 24,eg 26 3 25,cD 27 10 25,bE 28 (.is 17 (.t 26) (.t 27)) 25,dg 29 2 3 28 25,eg 30 29 25,eg 31 4 25,bE 32 (.bin .leq (.t 30) (.t 31)) 25,and 33 25 32]
def V9:=some [[],[],[0,1],[2],[3],[4],[5],[6],[6],[7,8,6],[9,6],[10,6],[6],[11,12,6],[6,13]]
def aew:=[l 34 8,m 35 10,o 36 (.bs 1 [.t 35]),o 37 (.dq 3 1 8 (.int .i64 0) (.t 34) (.t 36)),p (.bx none (.t 8) (.t 37))]
def vY:=[l 38 8,o 39 (.mk 138 [.t 3]),o 40 (.call 137 [.t 38,.t 39])]
def vZ:=[o 41 (.jC),o 42 (.bld [.raw (.map none)] [(0,(.t 41))]),b 43 42,m 11 43]
def wa:=[o 44 (.call 139 []),m 12 44]
def wb:=[l 45 8,o 46 (.len (.t 45)),aV 47 0]
def sa:=[lt 48 47 46]
def vX:=[o 49 (.is 1 (.t 45) (.t 47)),l 50 49,m 14 50]
def sc:=[m 51 12,l 52 3,m 53 14,o 54 (.is 17 (.t 52) (.t 53)),f 55 1 2 54,l 56 55,o 57 (.lk (.i .i64) (.de) false (.t 51) (.t 56)),m 58 11,l 59 3,m 60 14,o 61 (.is 17 (.t 59) (.t 60)),aA 62 17 61,o 63 (.en (.t 57) [.t 58,.t 62]),no 64 63]
def BT:=some [[],[],[],[1,2],[3],[4],[0,5],[],[],[],[8,9],[10],[6,7,11],[12]]
def HD:=[m 65 9,m 66 14,o 67 (.bs 1 [.t 66]),o 68 (.dq 3 1 8 (.int .i64 0) (.t 65) (.t 67)),m 9 68]
def HE:=[ad 69 47 1,m 47 69]
def HF:=[m 70 9,o 71 (.call 107 [.t 70])]
def HG:=[m 72 11,m 73 9,m 6 72,m 7 73]
def Bl:aN:=(s (r HB) (s (r HC) (s (s (r HI) (.block 0 (.kz (.t 17) [18] (r aeu) (.block 1 (s (.bW V9 aev) (.cond (.t 33) (r aew) .skip)))))) (s (r vY) (s (r vZ) (s (r wa) (s (s (r wb) (.block 2 (.loop (s (r sa) (s (.cond (.t 48) .skip (.exit 2)) (s (.block 3 (s (r vX) (s (.bW BT sc) (.cond (.t 64) (r HD) .skip)))) (r HE))))))) (s (r HF) (s (r HG) .ret)))))))))
def Ld:List aZ:=[.tmp 6,.tmp 7]
theorem S2:bB Tryz.prog Tryz.f88 Bl:=e (by kernel_rfl)
theorem Vc:bC Tryz.prog Tryz.f88 Ld:=e (by kernel_rfl)
theorem Q2:bA Tryz.prog 88:=e (by kernel_rfl)
def aex:=[o 2 (.mv bt)]
def aey:=[m 3 0,o 4 (.call 90 [.t 3]),no 5 4,m 2 5]
def Bm:aN:=(s (r aex) (s (r aey) .ret))
def Le:List aZ:=[.tmp 2]
theorem S3:bB Tryz.prog Tryz.f89 Bm:=e (by kernel_rfl)
theorem Vd:bC Tryz.prog Tryz.f89 Le:=e (by kernel_rfl)
theorem Q3:bA Tryz.prog 89:=e (by kernel_rfl)
def aez:=[o 2 (.mv bt)]
def aeA:=[m 3 0,o 4 (.nilC (.t 3)),f 5 0 0 4,f 6 6 6 5,l 7 6,o 8 (.bin .geq (.t 7) (aj 0)),m 2 8]
def Bn:aN:=(s (r aez) (s (r aeA) .ret))
def Lf:List aZ:=[.tmp 2]
theorem S4:bB Tryz.prog Tryz.f90 Bn:=e (by kernel_rfl)
theorem Ve:bC Tryz.prog Tryz.f90 Lf:=e (by kernel_rfl)
theorem Q4:bA Tryz.prog 90:=e (by kernel_rfl)
def aeB:=[o 4 (.mv bt)]
def aeC:=[m 5 0,o 6 (.call 90 [.t 5]),no 7 6,m 8 7,cD 9 0 8,bE 10 (.nilC (.t 9)) 8,dg 11 0 0 10 8,dg 12 3 3 11 8,eg 13 12 8,eg 14 1 8,bE 15 (.bin .eql (.t 13) (.t 14)) 8,and 16 8 15,m 17 16,cD 18 0 17,bE 19 (.nilC (.t 18)) 17,dg 20 0 0 19 17,dg 21 1 1 20 17,eg 22 21 17,eg 23 2 17,bE 24 (.bin .eql (.t 22) (.t 23)) 17,and 25 17 24,m 4 25]
def Wa:=some [[],[0],[1],[2,1],[3],[4,3],[5,3],[6,3],[7,3],[3],[8,9,3],[3,10],[11,3],[12],[13,12],[14,12],[15,12],[16,12],[12],[17,18,12],[12,19],[20,12,0,1,2,3,4,5,6,7,8,9,10,11,12,13,14,15,16,17,18,19,20]]
def Bo:aN:=(s (r aeB) (s (.bW Wa aeC) .ret))
def Lg:List aZ:=[.tmp 4]
theorem S5:bB Tryz.prog Tryz.f91 Bo:=e (by kernel_rfl)
theorem Vf:bC Tryz.prog Tryz.f91 Lg:=e (by kernel_rfl)
theorem Q5:bA Tryz.prog 91:=e (by kernel_rfl)
def aeD:=[aV 6 0]
def aeE:=[m 7 0,o 8 (.call 65 [.t 7]),o 9 (.bin .neq (.t 8) (aj 0))]
def aeF:=[aV 6 41]
def aeG:=[m 10 1,o 11 (.call 94 [.t 10,(aj 1),(aj 9999)]),no 12 11]
def aeH:=[aV 6 1]
def aeI:=[m 13 2,o 14 (.call 75 [.t 13]),no 15 14]
def aeJ:=[aV 6 6]
def aeK:=[aV 6 0]
def Bp:aN:=(s (r aeD) (s (s (r aeE) (.cond (.t 9) (s (r aeF) .ret) .skip)) (s (s (r aeG) (.cond (.t 12) (s (r aeH) .ret) .skip)) (s (s (r aeI) (.cond (.t 15) (s (r aeJ) .ret) .skip)) (s (r aeK) .ret)))))
def Lh:List aZ:=[.tmp 6]
theorem S6:bB Tryz.prog Tryz.f92 Bp:=e (by kernel_rfl)
theorem Vg:bC Tryz.prog Tryz.f92 Lh:=e (by kernel_rfl)
theorem Q6:bA Tryz.prog 92:=e (by kernel_rfl)
def HJ:=[o 6 (.mv bt)]
def HK:=[m 7 1,m 8 0,o 9 (.bin .leq (.t 7) (.t 8)),m 10 9,cD 11 0 10,cD 12 2 10,bE 13 (.bin .leq (.t 11) (.t 12)) 10,and 14 10 13,m 6 14]
def Bq:aN:=(s (r HJ) (s (r HK) .ret))
def Li:List aZ:=[.tmp 6]
theorem S7:bB Tryz.prog Tryz.f94 Bq:=e (by kernel_rfl)
theorem Vh:bC Tryz.prog Tryz.f94 Li:=e (by kernel_rfl)
theorem Q7:bA Tryz.prog 94:=e (by kernel_rfl)
def HL:=[b 1 0,aV 2 0]
def HM:=[aV 3 0]
def HN:=[m 4 3,o 5 (.bin .lss (.t 4) (aj 5))]
def HO:=[m 8 3,o 9 (.ia 5 1 (.t 1) (.t 8)),l 10 9,o 11 (.call 94 [.t 10,(aj 0),(aj 31)]),no 12 11,m 13 12,dW 14 3 13,on 15 (.ia 5 1 (.t 1) (.t 14)) 13,gz 16 15 13,dW 17 3 13,on 18 (.bin .shl (aj 1) (.t 17)) 13,on 19 (.bin .and (.t 16) (.t 18)) 13,on 20 (.bin .eql (.t 19) (aj 0)) 13,or 21 13 20]
def Wb:=some [[],[0],[1],[2],[3],[4,3],[5],[6,5],[7,5],[5],[9,5],[8,10,5],[11,5],[5,12]]
def wc:=[aV 2 11]
def HP:=[m 6 3,ad 7 6 1,m 3 7]
def HQ:=[aV 2 0]
def Br:aN:=(s (r HL) (s (s (r HM) (.block 0 (.loop (s (s (r HN) (.cond (.t 5) .skip (.exit 0))) (s (.block 1 (s (.bW Wb HO) (.cond (.t 21) (s (r wc) .ret) .skip))) (r HP)))))) (s (r HQ) .ret)))
def Lj:List aZ:=[.tmp 2]
theorem S8:bB Tryz.prog Tryz.f99 Br:=e (by kernel_rfl)
theorem Vi:bC Tryz.prog Tryz.f99 Lj:=e (by kernel_rfl)
theorem Q8:bA Tryz.prog 99:=e (by kernel_rfl)
def CF:=[b 1 0,aV 2 0]
def CG:=[aV 3 0]
def CH:=[m 4 3,o 5 (.bin .lss (.t 4) (aj 6))]
def CI:=[m 8 3,o 9 (.ia 6 1 (.t 1) (.t 8)),l 10 9,o 11 (.call 94 [.t 10,(aj 0),(aj 4)]),no 12 11]
def CJ:=[aV 2 10]
def CK:=[m 6 3,ad 7 6 1,m 3 7]
def CL:=[aV 2 0]
def zo:aN:=(s (r CF) (s (s (r CG) (.block 0 (.loop (s (s (r CH) (.cond (.t 5) .skip (.exit 0))) (s (.block 1 (s (r CI) (.cond (.t 12) (s (r CJ) .ret) .skip))) (r CK)))))) (s (r CL) .ret)))
def Js:List aZ:=[.tmp 2]
theorem Rf:bB Tryz.prog Tryz.f100 zo:=e (by kernel_rfl)
theorem Tp:bC Tryz.prog Tryz.f100 Js:=e (by kernel_rfl)
theorem Ph:bA Tryz.prog 100:=e (by kernel_rfl)
def CM:=[b 1 0,aV 2 0]
def CN:=[aV 3 0]
def CO:=[m 4 3,o 5 (.bin .lss (.t 4) (aj 6))]
def CP:=[m 8 3,o 9 (.ia 6 1 (.t 1) (.t 8)),l 10 9,o 11 (.call 94 [.t 10,(aj 1),(aj 31)]),no 12 11]
def CQ:=[aV 2 12]
def CR:=[m 6 3,ad 7 6 1,m 3 7]
def CS:=[aV 2 0]
def zp:aN:=(s (r CM) (s (s (r CN) (.block 0 (.loop (s (s (r CO) (.cond (.t 5) .skip (.exit 0))) (s (.block 1 (s (r CP) (.cond (.t 12) (s (r CQ) .ret) .skip))) (r CR)))))) (s (r CS) .ret)))
def Jt:List aZ:=[.tmp 2]
theorem Rg:bB Tryz.prog Tryz.f101 zp:=e (by kernel_rfl)
theorem Tq:bC Tryz.prog Tryz.f101 Jt:=e (by kernel_rfl)
theorem Pj:bA Tryz.prog 101:=e (by kernel_rfl)
def Xk:=[b 3 1,aV 4 0,o 5 (.mv bt)]
def Xl:=[m 6 0,aA 7 2 3,o 8 (.call 142 [.t 6,.t 7,(.c (.func 143 []))]),o 9 (.ext (.t 8) 0),o 10 (.ext (.t 8) 1),m 4 9,m 5 10]
def zq:aN:=(s (r Xk) (s (r Xl) .ret))
def Ju:List aZ:=[.tmp 4,.tmp 5]
theorem Rh:bB Tryz.prog Tryz.f103 zq:=e (by kernel_rfl)
theorem Tr:bC Tryz.prog Tryz.f103 Ju:=e (by kernel_rfl)
theorem Pk:bA Tryz.prog 103:=e (by kernel_rfl)
def CT:=[b 2 0,b 3 1,o 4 (.mv (.c (.de)))]
def CU:=[o 9 (.jC),o 5 (.alloc (.raw (.map none))),p (.bx none (.t 5) (.t 9))]
def CV:=[l 10 2,o 11 (.len (.t 10)),o 12 (.jV 4 1 (.bool false) (.t 11)),o 6 (.alloc (.nils 1)),p (.bx none (.t 6) (.t 12))]
def CW:=[l 13 2,o 14 (.call 145 [.t 13])]
def Xm:=[m 7 15]
def Xn:=[o 8 (.alloc (.agg [.agg [.int .i64 0,.int .i64 0],.int .i64 0,.int .i64 0,.int .i64 0,.int .i64 0,.int .i64 0,.int .i64 0,.int .i64 0,.agg [.int .i64 0,.int .i64 0,.int .i64 0,.int .i64 0,.int .i64 0,.int .i64 0],.agg [.int .i64 0,.int .i64 0]])),p (.bx (some 17) (.t 8) (.t 16))]
def Xo:=[l 17 6,m 18 7,f 19 3 4 8,l 20 19,l 21 3,o 22 (.bin .leq (.t 20) (.t 21)),m 23 22,eg 24 5 23,dg 25 0 0 8 23,bE 26 (.ld (some 2) (.t 25)) 23,bE 27 (.lk (.bx [(.i .i64),(.i .i64)]) (.bool false) false (.t 24) (.t 26)) 23,bE 28 (.un .not (.t 27)) 23,and 29 23 28,o 30 (.is 1 (.t 17) (.t 18)),p (.bx none (.t 30) (.t 29))]
def Vk:=some [[],[],[],[2],[],[3,4],[5],[6],[6],[8,6],[7,9,6],[10,6],[6,11],[0,1,0,1,2,3,4,5,6,7,8,9,10,11,12],[13,12,6,0,1,2,3,4,5,6,7,8,9,10,11,12]]
def Xp:=[l 31 6,m 32 7,o 33 (.is 1 (.t 31) (.t 32)),l 34 33,m 35 34,dg 36 1 2 8 35,eg 37 36 35,bE 38 (.bin .eql (.t 37) (aj 0)) 35,and 39 35 38]
def Xq:=[l 40 5,f 41 9 15 8,aA 42 2 41,p (.gA (.bx [(.i .i64),(.i .i64)]) (.t 40) (.t 42) T)]
def Xr:=[o 43 (.mk 146 [.t 2,.t 6]),m 4 43]
def zr:aN:=(s (r CT) (s (r CU) (s (r CV) (s (s (r CW) (.block 0 (.kz (.t 14) [15,16] (s (r Xm) (r Xn)) (.block 1 (s (.bW Vk Xo) (s (r Xp) (.cond (.t 39) (r Xq) .skip))))))) (s (r Xr) .ret)))))
def Jv:List aZ:=[.tmp 4]
theorem Ri:bB Tryz.prog Tryz.f105 zr:=e (by kernel_rfl)
theorem Ts:bC Tryz.prog Tryz.f105 Jv:=e (by kernel_rfl)
theorem Pl:bA Tryz.prog 105:=e (by kernel_rfl)
theorem Bt:bA Tryz.prog 107:=e (by kernel_rfl)
end Go.Proofs.YtcldiigclhgafaaGreat
namespace Go.Abs
open Go Go.RowKit
def rH(on:List (List Nat)):List Nat:=on.foldl (fun acc ks=>acc++[oa acc ks]) []
def uT(d:Option (List (List Nat)))(gs:List aB):Bool:=match d with
 |none=>true
 |some on=>rM on gs (rH on)
section
variable {c:cQ} {Q:Exit→af→Prop} {A:af} {d:Option (List (List Nat))} {on:List (List Nat)} {gs:List aB}
theorem U.bP(hd:uT d gs=true)(h:∀ K:af→Prop,(∀ B,Q .normal B→K B)→a6 c.P c.Y d.isSome K (aC gs A)):U c (.bW d gs) Q A:=by
 cases d with
 |none=>exact U.bW (cl:=[]) rfl h
 |some on=>exact U.bW (cl:=rH on) hd h
theorem U.ar{y:aN}(hd:uT d gs=true)(h:∀ K:af→Prop,(∀ B,U c y Q B→K B)→a6 c.P c.Y d.isSome K (aC gs A)):U c (.seq (.bW d gs) y) Q A :=
 U.seq (U.bP hd h)
theorem U.tl(hs:List FuncId)(aA:eM)(σ:List Nat)(hd:s7 hs aA on gs (rH on) σ=true)(hi:eW aA A)(h:∀ K:af→Prop,(∀ B,Q .normal B→K B)→cC c.P hs K (aC (pn σ gs) A)):U c (.bW (some on) gs) Q A :=
 U.aiI hs aA (rH on) σ hd hi h
def gj(c:cQ):aN→(Exit→af→Prop)→af→Prop
 | .seq x y,Q,A=>gj c x (ay (fun B=>U c y Q B) Q) A
 | .block id x,Q,A=>gj c x (cg id Q) A
 | .skip,Q,A=>Q .normal A
 | .exit id,Q,A=>Q (.exit id) A
 | .ret,Q,A=>Q .ret A
 | .cond b x y,Q,A=>ao (ae A b) (U c x Q A) (U c y Q A)
 |x,Q,A=>U c x Q A
def afW:aN→Bool
 | .seq _ _ | .block _ _ | .skip | .exit _ | .ret | .cond _ _ _=>true
 |_=>false
theorem gj.uq:∀ (x:aN) {Q:Exit→af→Prop} {A:af},gj c x Q A→U c x Q A
 | .seq x y,_,_,h=>U.seq (gj.uq x h)
 | .block id x,_,_,h=>U.block (gj.uq x h)
 | .skip,_,_,h=>U.skip h
 | .exit _,_,_,h=>U.exit h
 | .ret,_,_,h=>U.ret h
 | .cond _ _ _,_,_,h=>U.bM h
 | .bW _ _,_,_,h | .loop _,_,_,h | .scope _,_,_,h | .label,_,_,h | .kz _ _ _ _,_,_,h=>h
theorem U.of{x:aN}(_:afW x=true)(h:gj c x Q A):U c x Q A:=gj.uq x h
theorem aM :
  (∀ c x y Q A,gj c (.seq x y) Q A=gj c x (ay (fun B=>U c y Q B) Q) A)∧(∀ c id x Q A,gj c (.block id x) Q A=gj c x (cg id Q) A)∧(∀ c Q A,gj c .skip Q A=Q .normal A)∧(∀ c id Q A,gj c (.exit id) Q A=Q (.exit id) A)∧(∀ c Q A,gj c .ret Q A=Q .ret A) ∧
  (∀ c b x y Q A,gj c (.cond b x y) Q A=ao (ae A b) (U c x Q A) (U c y Q A))∧(∀ c d gs Q A,gj c (.bW d gs) Q A=U c (.bW d gs) Q A)∧(∀ c x Q A,gj c (.loop x) Q A=U c (.loop x) Q A)∧(∀ c f ps x y Q A,gj c (.kz f ps x y) Q A=U c (.kz f ps x y) Q A) ∧
  (∀ k Q A,ay k Q .normal A=k A)∧(∀ k Q A,ay k Q .ret A=Q .ret A)∧(∀ k Q A i,ay k Q (.exit i) A=Q (.exit i) A)∧(∀ i Q A,cg i Q .normal A=Q .normal A)∧(∀ i Q A,cg i Q .ret A=Q .ret A)∧(∀ i Q A j,cg i Q (.exit j) A=if j=i then Q .normal A else Q (.exit j) A) ∧
  (∀ p q,ao (.bool true) p q=p)∧(∀ p q,ao (.bool false) p q=q)∧(type_of% @wU) :=
 ⟨fun _ _ _ _ _=>rfl,fun _ _ _ _ _=>rfl,fun _ _ _=>rfl,fun _ _ _ _=>rfl,fun _ _ _=>rfl,fun _ _ _ _ _ _=>rfl,fun _ _ _ _ _=>rfl,fun _ _ _ _=>rfl,fun _ _ _ _ _ _ _=>rfl,fun _ _ _=>rfl,fun _ _ _=>rfl,fun _ _ _ _=>rfl,fun _ _ _=>rfl,fun _ _ _=>rfl,fun _ _ _ _=>rfl,
  fun p q=>by simp[ao],fun p q=>by simp[ao],wU⟩
theorem ao.aK{t:Bool}{p q:Prop}(h1:t=true→p)(h2:t=false→q):ao (.bool t) p q:=⟨h1,h2⟩
theorem U.aL{g:aB}{r:List aB}(hd:uT d gs=true)(e:gs=g::r)(h:∀ K:af→Prop,(∀ B,Q .normal B→K B)→a6 c.P c.Y d.isSome K (aC (g::r) A)):U c (.bW d gs) Q A :=
 U.bP hd (e▸h)
theorem a6.aF(aA:List Nat){P:Program}{Y:Value→List I→List (Nat×ai)→cR→Prop}{dr:Bool}{x:aN}{K:af→Prop}{ts:List (Nat×I)}{os:List (Nat×ai)}(hK:∀ B,U c x Q B→K B)(h:U c x Q (av (gO aA ts) os)):a6 P Y dr K (.done (av ts os)) :=
 .done (hK _ (U.fC aA h))
theorem cC.aF(aA:List Nat){P:Program}{hs:List FuncId}{x:aN}{K:af→Prop}{ts:List (Nat×I)}{os:List (Nat×ai)}(hK:∀ B,U c x Q B→K B)(h:U c x Q (av (gO aA ts) os)):cC P hs K (.done (av ts os)) :=
 .done (hK _ (U.fC aA h))
end
end Go.Abs
namespace Go.Proofs.YtcldiigclhgafaaGreat
open Go Go.Abs Go.Abs.C
def CX:=[b 3 1,aV 4 0]
def CY:=[aV 5 0]
def Xs:=[m 6 5,m 7 0,o 8 (.len (.t 7)),lt 9 6 8]
def Xt:=[m 12 0,m 13 5,o 14 (.is 17 (.t 12) (.t 13)),f 15 0 0 14,aA 16 2 15,aA 17 2 3,o 18 (.eqv (.bx [(.i .i64),(.i .i64)]) false (.t 16) (.t 17))]
def Vl:=some [[],[],[0,1],[2],[3],[],[4,5]]
def Xu:=[m 19 5,m 4 19]
def Xv:=[m 10 5,ad 11 10 1,m 5 11]
def Xw:=[aV 4 (-1)]
def zt:aN:=(s (r CX) (s (s (r CY) (.block 0 (.loop (s (s (r Xs) (.cond (.t 9) .skip (.exit 0))) (s (.block 1 (s (.bW Vl Xt) (.cond (.t 18) (s (r Xu) .ret) .skip))) (r Xv)))))) (s (r Xw) .ret)))
def Jw:List aZ:=[.tmp 4]
theorem Rj:bB Tryz.prog Tryz.f110 zt:=e (by kernel_rfl)
theorem Tt:bC Tryz.prog Tryz.f110 Jw:=e (by kernel_rfl)
theorem Pm:bA Tryz.prog 110:=e (by kernel_rfl)
def CZ:=[o 4 (.mv (.c (.nils 17))),aV 5 0]
def C0:=[m 11 0,o 12 (.call 136 [.t 11]),m 6 12]
def C1:=[m 13 1,o 14 (.len (.t 13)),aV 15 0]
def XB:=[lt 16 15 14]
def XC:=[o 17 (.is 17 (.t 13) (.t 15)),aA 18 17 17,o 8 (.alloc (.agg [.agg [.int .i64 0,.int .i64 0],.int .i64 0,.int .i64 0,.int .i64 0,.int .i64 0,.int .i64 0,.int .i64 0,.int .i64 0,.agg [.int .i64 0,.int .i64 0,.int .i64 0,.int .i64 0,.int .i64 0,.int .i64 0],.agg [.int .i64 0,.int .i64 0]])),p (.bx (some 17) (.t 8) (.t 18))]
def XD:=[m 20 6,f 21 0 0 8,aA 22 2 21,o 23 (.call 103 [.t 20,.t 22]),m 19 23,o 24 (.ext (.t 19) 0),o 25 (.ext (.t 19) 1),m 9 24,m 10 25]
def XE:=[m 26 10,m 27 26,cD 28 6 27,cD 29 9 27,bE 30 (.is 17 (.t 28) (.t 29)) 27,bE 31 (.ld (some 17) (.t 30)) 27,bE 32 (.ld (some 17) (.t 8)) 27,bE 33 (.eqv (.bx [(.bx [(.i .i64),(.i .i64)]),(.i .i64),(.i .i64),(.i .i64),(.i .i64),(.i .i64),(.i .i64),(.i .i64),(.hU 6 (.i .i64)),(.bx [(.i .i64),(.i .i64)])]) true (.t 31) (.t 32)) 27,and 34 27 33]
def Vm:=some [[],[0],[1],[1],[2,3,1],[4,1],[1],[5,6,1],[1,7]]
def XF:=[o 4 (.mv (.c (.nils 17))),aV 5 43]
def XG:=[m 35 10,no 36 35]
def XH:=[m 37 6,m 38 9,aA 39 17 8,o 40 (.bs 17 [.t 39]),o 41 (.call 153 [.t 37,.t 38,.t 40]),m 6 41]
def Xx:=[ad 42 15 1,m 15 42]
def Xy:=[m 43 6,o 44 (.len (.t 43)),o 45 (.bin .gtr (.t 44) (aj 60))]
def Xz:=[o 4 (.mv (.c (.nils 17))),aV 5 2]
def XA:=[m 46 6,m 4 46,aV 5 0]
def zu:aN:=(s (r CZ) (s (r C0) (s (s (r C1) (.block 0 (.loop (s (r XB) (s (.cond (.t 16) .skip (.exit 0)) (s (.block 1 (s (r XC) (s (r XD) (s (s (.bW Vm XE) (.cond (.t 34) (s (r XF) .ret) .skip)) (s (r XG) (.cond (.t 36) (r XH) .skip)))))) (r Xx))))))) (s (s (r Xy) (.cond (.t 45) (s (r Xz) .ret) .skip)) (s (r XA) .ret)))))
def Jx:List aZ:=[.tmp 4,.tmp 5]
theorem Rk:bB Tryz.prog Tryz.f112 zu:=e (by kernel_rfl)
theorem Tu:bC Tryz.prog Tryz.f112 Jx:=e (by kernel_rfl)
theorem Pn:bA Tryz.prog 112:=e (by kernel_rfl)
def XI:=[b 3 1,o 4 (.mv (.c (.nils 17)))]
def XJ:=[o 5 (.mv (.c (.nils 17)))]
def XN:=[o 6 (.mv bt)]
def XO:=[aV 7 0]
def XP:=[m 8 7,m 9 0,o 10 (.len (.t 9)),lt 11 8 10]
def XQ:=[m 14 6,no 15 14,m 16 15,dg 17 0 0 3 16,bE 18 (.ld (some 2) (.t 17)) 16,cD 19 0 16,cD 20 7 16,bE 21 (.is 17 (.t 19) (.t 20)) 16,dg 22 0 0 21 16,bE 23 (.ld (some 2) (.t 22)) 16,bE 24 (.call 119 [.t 18,.t 23]) 16,and 25 16 24]
def Vn:=some [[],[0],[1],[2],[3,2],[2],[2],[5,6,2],[7,2],[8,2],[4,9,2,2],[2,10]]
def XR:=[m 26 5,aA 27 17 3,o 28 (.bs 17 [.t 27]),o 29 (.dq 68 17 136 (.agg [.agg [.int .i64 0,.int .i64 0],.int .i64 0,.int .i64 0,.int .i64 0,.int .i64 0,.int .i64 0,.int .i64 0,.int .i64 0,.agg [.int .i64 0,.int .i64 0,.int .i64 0,.int .i64 0,.int .i64 0,.int .i64 0],.agg [.int .i64 0,.int .i64 0]]) (.t 26) (.t 28)),m 5 29]
def XS:=[o 6 (.mv T)]
def XT:=[m 30 5,m 31 0,m 32 7,o 33 (.is 17 (.t 31) (.t 32)),aA 34 17 33,o 35 (.bs 17 [.t 34]),o 36 (.dq 68 17 136 (.agg [.agg [.int .i64 0,.int .i64 0],.int .i64 0,.int .i64 0,.int .i64 0,.int .i64 0,.int .i64 0,.int .i64 0,.int .i64 0,.agg [.int .i64 0,.int .i64 0,.int .i64 0,.int .i64 0,.int .i64 0,.int .i64 0],.agg [.int .i64 0,.int .i64 0]]) (.t 30) (.t 35)),m 5 36]
def XU:=[m 12 7,ad 13 12 1,m 7 13]
def XK:=[m 37 6,no 38 37]
def XL:=[m 39 5,aA 40 17 3,o 41 (.bs 17 [.t 40]),o 42 (.dq 68 17 136 (.agg [.agg [.int .i64 0,.int .i64 0],.int .i64 0,.int .i64 0,.int .i64 0,.int .i64 0,.int .i64 0,.int .i64 0,.int .i64 0,.agg [.int .i64 0,.int .i64 0,.int .i64 0,.int .i64 0,.int .i64 0,.int .i64 0],.agg [.int .i64 0,.int .i64 0]]) (.t 39) (.t 41)),m 5 42]
def XM:=[m 43 5,m 4 43]
def zw:aN:=(s (r XI) (s (r XJ) (s (r XN) (s (s (r XO) (.block 0 (.loop (s (s (r XP) (.cond (.t 11) .skip (.exit 0))) (s (.block 1 (s (s (.bW Vn XQ) (.cond (.t 25) (s (r XR) (r XS)) .skip)) (r XT))) (r XU)))))) (s (s (r XK) (.cond (.t 38) (r XL) .skip)) (s (r XM) .ret))))))
def Jy:List aZ:=[.tmp 4]
theorem Rl:bB Tryz.prog Tryz.f113 zw:=e (by kernel_rfl)
theorem Tv:bC Tryz.prog Tryz.f113 Jy:=e (by kernel_rfl)
theorem Po:bA Tryz.prog 113:=e (by kernel_rfl)
def C2:=[o 6 (.mv bt)]
def C3:=[m 7 1,m 8 0,o 9 (.bin .leq (.t 7) (.t 8)),m 10 9,cD 11 0 10,cD 12 2 10,bE 13 (.bin .leq (.t 11) (.t 12)) 10,and 14 10 13,m 6 14]
def zx:aN:=(s (r C2) (s (r C3) .ret))
def Jz:List aZ:=[.tmp 6]
theorem Rm:bB Tryz.prog Tryz.f114 zx:=e (by kernel_rfl)
theorem Tw:bC Tryz.prog Tryz.f114 Jz:=e (by kernel_rfl)
theorem Pp:bA Tryz.prog 114:=e (by kernel_rfl)
def C4:=[b 1 0,o 2 (.mv bt)]
def C5:=[f 3 0 0 1,l 4 3,o 5 (.call 114 [.t 4,(aj 0),(aj 5)]),m 6 5,dg 7 1 1 1 6,eg 8 7 6,bE 9 (.call 114 [.t 8,(aj 0),(aj 9999)]) 6,and 10 6 9,m 2 10]
def zy:aN:=(s (r C4) (s (r C5) .ret))
def JA:List aZ:=[.tmp 2]
theorem Rn:bB Tryz.prog Tryz.f115 zy:=e (by kernel_rfl)
theorem Tx:bC Tryz.prog Tryz.f115 JA:=e (by kernel_rfl)
theorem Pq:bA Tryz.prog 115:=e (by kernel_rfl)
def C6:=[b 1 0,o 2 (.mv bt)]
def C7:=[f 3 0 0 1,l 4 3,o 5 (.call 94 [.t 4,(aj 0),(aj 5)]),m 6 5,dg 7 1 1 1 6,eg 8 7 6,bE 9 (.call 94 [.t 8,(aj 0),(aj 9999)]) 6,and 10 6 9,m 2 10]
def zA:aN:=(s (r C6) (s (r C7) .ret))
def JB:List aZ:=[.tmp 2]
theorem Ro:bB Tryz.prog Tryz.f116 zA:=e (by kernel_rfl)
theorem Ty:bC Tryz.prog Tryz.f116 JB:=e (by kernel_rfl)
theorem Pr:bA Tryz.prog 116:=e (by kernel_rfl)
def C8:=[b 1 0,o 2 (.mv bt)]
def C9:=[f 5 0 0 1,aA 6 2 5,f 7 1 2 1,l 8 7,f 9 2 3 1,l 10 9,f 11 3 4 1,l 12 11,f 13 4 5 1,l 14 13,o 15 (.bld [.agg [.int .i64 0,.int .i64 0],.int .i64 0,.int .i64 0,.int .i64 0,.int .i64 0,.int .i64 0,.int .i64 0,.int .i64 0,.agg [.int .i64 0,.int .i64 0,.int .i64 0,.int .i64 0,.int .i64 0,.int .i64 0],.agg [.int .i64 0,.int .i64 0]] [(0,(.t 6)),(1,(.t 8)),(2,(.t 10)),(3,(.t 12)),(4,(.t 14))]),o 3 (.alloc (.agg [.agg [.int .i64 0,.int .i64 0],.int .i64 0,.int .i64 0,.int .i64 0,.int .i64 0,.int .i64 0,.int .i64 0,.int .i64 0,.agg [.int .i64 0,.int .i64 0,.int .i64 0,.int .i64 0,.int .i64 0,.int .i64 0],.agg [.int .i64 0,.int .i64 0]])),p (.bx (some 17) (.t 3) (.t 15))]
def Da:=[f 16 4 5 1,l 17 16,o 18 (.call 154 [.t 17]),m 4 18]
def X8:=[f 19 1 2 1,l 20 19]
def X9:=[o 22 (.bin .eql (.t 20) (aj 0)),m 21 22]
def vn:=[f 23 9 15 1,aA 24 2 23,f 25 4 5 3,p (.bx none (.t 25) (aj 0)),f 26 9 15 3,p (.bx (some 2) (.t 26) (.t 24))]
def Vo:=some [[],[0],[],[2],[0,1,2,3],[4,1,3,0,1,2,3]] -- DRAW BAD
def Ya:=[f 27 2 3 1,l 28 27,o 29 (.bin .eql (.t 28) (aj 0)),m 30 29,dg 31 9 15 1 30,bE 32 (.ld (some 2) (.t 31)) 30,bE 33 (.call 115 [.t 32]) 30,and 34 30 33,m 35 34,dg 36 9 15 1 35,dg 37 0 0 36 35,eg 38 37 35,dg 39 0 0 1 35,dg 40 0 0 39 35,eg 41 40 35,bE 42 (.bin .eql (.t 38) (.t 41)) 35,and 43 35 42,m 44 43,dg 45 9 15 1 44,dg 46 1 1 45 44,eg 47 46 44,dg 48 0 0 1 44,dg 49 1 1 48 44,eg 50 49 44,bE 51 (.bin .lss (.t 47) (.t 50)) 44,and 52 44 51,m 4 52]
def Yb:=[o 54 (.bin .eql (.t 20) (aj 1)),m 53 54]
def vp:=[f 55 6 7 1,l 56 55,f 57 7 8 1,l 58 57,f 59 5 6 1,l 60 59,f 61 6 7 3,p (.bx none (.t 61) (.t 56)),f 62 7 8 3,p (.bx none (.t 62) (.t 58)),f 63 5 6 3,p (.bx none (.t 63) (.t 60))]
def Vp:=some [[],[0],[],[2],[],[4],[0,1],[6,1,0,1],[0,1,2,3,6,7],[8,3,7,0,1,2,3,6,7],[0,1,2,3,4,5,6,7,8,9],[10,5,9,0,1,2,3,4,5,6,7,8,9]] -- DRAW BAD
def Yc:=[m 64 4,m 65 64,dg 66 6 7 1 65,eg 67 66 65,bE 68 (.call 155 [.t 67]) 65,and 69 65 68,m 70 69,dg 71 7 8 1 70,eg 72 71 70,bE 73 (.call 156 [.t 72]) 70,and 74 70 73,m 75 74,dg 76 5 6 1 75,eg 77 76 75,bE 78 (.call 114 [.t 77,(aj 0),(aj 9999)]) 75,and 79 75 78,m 80 79,dg 81 5 6 1 80,eg 82 81 80,dg 83 4 5 1 80,eg 84 83 80,bE 85 (.bin .neq (.t 82) (.t 84)) 80,and 86 80 85,m 4 86]
def XV:=[o 88 (.bin .eql (.t 20) (aj 2)),m 87 88]
def XW:=[f 89 6 7 1,l 90 89,f 91 6 7 3,p (.bx none (.t 91) (.t 90))]
def XX:=[m 92 4,m 93 92,dg 94 6 7 1 93,eg 95 94 93,bE 96 (.call 155 [.t 95]) 93,and 97 93 96,m 4 97]
def XY:=[o 99 (.bin .eql (.t 20) (aj 3)),m 98 99]
def XZ:=[o 100 (.bin .eql (.t 20) (aj 5)),m 98 100]
def X0:=[f 101 7 8 1,l 102 101,f 103 7 8 3,p (.bx none (.t 103) (.t 102))]
def X1:=[m 104 4,m 105 104,dg 106 7 8 1 105,eg 107 106 105,bE 108 (.call 156 [.t 107]) 105,and 109 105 108,m 4 109]
def X2:=[o 111 (.bin .eql (.t 20) (aj 4)),m 110 111]
def X3:=[f 112 8 9 1,aA 113 6 112,f 114 8 9 3,p (.bx (some 6) (.t 114) (.t 113))]
def X4:=[m 115 4,m 116 115,dg 117 8 9 1 116,bE 118 (.ld (some 6) (.t 117)) 116,bE 119 (.call 157 [.t 118]) 116,bE 120 (.bin .eql (.t 119) (aj 0)) 116,and 121 116 120,m 4 121]
def X5:=[o 123 (.bin .eql (.t 20) (aj 6)),m 122 123]
def X6:=[o 2 (.mv bt)]
def X7:=[m 124 4,m 125 124,bE 126 (.ld (some 17) (.t 1)) 125,bE 127 (.ld (some 17) (.t 3)) 125,bE 128 (.eqv (.bx [(.bx [(.i .i64),(.i .i64)]),(.i .i64),(.i .i64),(.i .i64),(.i .i64),(.i .i64),(.i .i64),(.i .i64),(.hU 6 (.i .i64)),(.bx [(.i .i64),(.i .i64)])]) false (.t 126) (.t 127)) 125,and 129 125 128,m 130 129,dg 131 0 0 1 130,bE 132 (.ld (some 2) (.t 131)) 130,bE 133 (.call 115 [.t 132]) 130,and 134 130 133,m 135 134,dg 136 2 3 1 135,eg 137 136 135,bE 138 (.call 127 [.t 137]) 135,and 139 135 138,m 140 139,dg 141 3 4 1 140,eg 142 141 140,bE 143 (.call 127 [.t 142]) 140,and 144 140 143,m 2 144]
def zB:aN:=(s (r C8) (s (r C9) (s (r Da) (s (s (r X8) (.block 0 (s (r X9) (.cond (.t 21) (s (.bW Vo vn) (r Ya)) (s (r Yb) (.cond (.t 53) (s (.bW Vp vp) (r Yc)) (s (r XV) (.cond (.t 87) (s (r XW) (r XX)) (s (s (r XY) (.cond (.t 98) .skip (r XZ))) (.cond (.t 98) (s (r X0) (r X1)) (s (r X2) (.cond (.t 110) (s (r X3) (r X4)) (s (r X5) (.cond (.t 122) .skip (s (r X6) .ret))))))))))))))) (s (r X7) .ret)))))
def JC:List aZ:=[.tmp 2]
theorem Rp:bB Tryz.prog Tryz.f117 zB:=e (by kernel_rfl)
theorem Tz:bC Tryz.prog Tryz.f117 JC:=e (by kernel_rfl)
theorem Ps:bA Tryz.prog 117:=e (by kernel_rfl)
def Db:=[b 2 0,b 3 1,aV 4 0]
def Dc:=[f 5 0 0 2,l 6 5,f 7 0 0 3,l 8 7,o 9 (.call 159 [.t 6,.t 8]),f 10 1 1 2,l 11 10,f 12 1 1 3,l 13 12,o 14 (.call 159 [.t 11,.t 13]),o 15 (.bs 1 [.t 9,.t 14]),o 16 (.call 158 [.t 15]),m 4 16]
def Vq:=some [[],[0],[],[2],[1,3],[],[5],[],[7],[6,8,4],[4,9],[10,9],[11,11,0,1,2,3,4,5,6,7,8,9,10,11]]
def zC:aN:=(s (r Db) (s (.bW Vq Dc) .ret))
def JD:List aZ:=[.tmp 4]
theorem Rq:bB Tryz.prog Tryz.f118 zC:=e (by kernel_rfl)
theorem TA:bC Tryz.prog Tryz.f118 JD:=e (by kernel_rfl)
theorem Pt:bA Tryz.prog 118:=e (by kernel_rfl)
def Dd:=[b 2 0,b 3 1,o 4 (.mv bt)]
def De:=[f 5 0 0 2,l 6 5,f 7 0 0 3,l 8 7,lt 9 6 8,m 10 9,fn 11 0 0 2 10,gz 12 11 10,fn 13 0 0 3 10,gz 14 13 10,on 15 (.bin .eql (.t 12) (.t 14)) 10,dW 16 15 10,dg 17 1 1 2 16,eg 18 17 16,dg 19 1 1 3 16,eg 20 19 16,bE 21 (.bin .lss (.t 18) (.t 20)) 16,on 22 (.pick (.t 16) (.t 21) bt) 10,or 23 10 22,m 4 23]
def zD:aN:=(s (r Dd) (s (r De) .ret))
def JE:List aZ:=[.tmp 4]
theorem Rr:bB Tryz.prog Tryz.f119 zD:=e (by kernel_rfl)
theorem TB:bC Tryz.prog Tryz.f119 JE:=e (by kernel_rfl)
theorem Pu:bA Tryz.prog 119:=e (by kernel_rfl)
def Df:=[b 1 0,o 2 (.mv bt)]
def Dg:=[aA 6 5 1,aV 7 0]
def Di:=[o 8 (.bin .lss (.t 7) (aj 5))]
def Dj:=[m 9 7,o 10 (.ix 5 1 none (.t 6) (.t 7)),m 3 9,m 4 10]
def Dk:=[m 11 4,m 5 11]
def Dl:=[m 12 5,o 13 (.call 160 [.t 12]),no 14 13,m 15 14,dW 16 5 15,dW 17 3 15,on 18 (.call 161 [.t 16,.t 17]) 15,on 19 (.un .not (.t 18)) 15,or 20 15 19]
def vq:=[o 2 (.mv bt)]
def Dm:=[ad 21 7 1,m 7 21]
def Dn:=[o 2 (.mv T)]
def zF:aN:=(s (r Df) (s (s (r Dg) (.block 0 (.loop (s (r Di) (s (.cond (.t 8) .skip (.exit 0)) (s (.block 1 (s (r Dj) (s (r Dk) (s (r Dl) (.cond (.t 20) (s (r vq) .ret) .skip))))) (r Dm))))))) (s (r Dn) .ret)))
def JG:List aZ:=[.tmp 2]
theorem Rt:bB Tryz.prog Tryz.f120 zF:=e (by kernel_rfl)
theorem TD:bC Tryz.prog Tryz.f120 JG:=e (by kernel_rfl)
theorem Pw:bA Tryz.prog 120:=e (by kernel_rfl)
def Dp:=[o 6 (.mv bt)]
def Dq:=[m 7 1,m 8 0,o 9 (.bin .leq (.t 7) (.t 8)),m 10 9,cD 11 0 10,cD 12 2 10,bE 13 (.bin .leq (.t 11) (.t 12)) 10,and 14 10 13,m 6 14]
def zG:aN:=(s (r Dp) (s (r Dq) .ret))
def JH:List aZ:=[.tmp 6]
theorem Ru:bB Tryz.prog Tryz.f121 zG:=e (by kernel_rfl)
theorem TE:bC Tryz.prog Tryz.f121 JH:=e (by kernel_rfl)
theorem Px:bA Tryz.prog 121:=e (by kernel_rfl)
def Dr:=[o 2 (.mv bt)]
def Ds:=[m 3 0,o 4 (.call 121 [.t 3,(aj 1),(aj 99)]),m 2 4]
def zH:aN:=(s (r Dr) (s (r Ds) .ret))
def JI:List aZ:=[.tmp 2]
theorem Rv:bB Tryz.prog Tryz.f122 zH:=e (by kernel_rfl)
theorem TF:bC Tryz.prog Tryz.f122 JI:=e (by kernel_rfl)
theorem Py:bA Tryz.prog 122:=e (by kernel_rfl)
def Dt:=[b 1 0,o 2 (.mv bt)]
def Du:=[o 3 (.va 6 1 (.t 1)),o 4 (.call 125 [.t 3,(.c (.func 162 []))]),no 5 4,m 2 5]
def zI:aN:=(s (r Dt) (s (r Du) .ret))
def JJ:List aZ:=[.tmp 2]
theorem Rw:bB Tryz.prog Tryz.f123 zI:=e (by kernel_rfl)
theorem TG:bC Tryz.prog Tryz.f123 JJ:=e (by kernel_rfl)
theorem Pz:bA Tryz.prog 123:=e (by kernel_rfl)
def Dv:=[b 3 0,b 5 2,o 6 (.mv bt)]
def Dw:=[m 7 1,o 8 (.mk 164 [.t 3,.t 5]),o 9 (.call 163 [.t 7,.t 8]),no 10 9,m 6 10]
def zJ:aN:=(s (r Dv) (s (r Dw) .ret))
def JK:List aZ:=[.tmp 6]
theorem Rx:bB Tryz.prog Tryz.f124 zJ:=e (by kernel_rfl)
theorem TH:bC Tryz.prog Tryz.f124 JK:=e (by kernel_rfl)
theorem PA:bA Tryz.prog 124:=e (by kernel_rfl)
def Dy:=[o 4 (.mv bt)]
def Dz:=[m 5 0,m 6 1,o 7 (.call 166 [.t 5,.t 6]),o 8 (.bin .geq (.t 7) (aj 0)),m 4 8]
def zK:aN:=(s (r Dy) (s (r Dz) .ret))
def JL:List aZ:=[.tmp 4]
theorem Ry:bB Tryz.prog Tryz.f125 zK:=e (by kernel_rfl)
theorem TI:bC Tryz.prog Tryz.f125 JL:=e (by kernel_rfl)
theorem PB:bA Tryz.prog 125:=e (by kernel_rfl)
def Yd:=[o 2 (.mv bt)]
def Ye:=[m 3 0,o 4 (.call 127 [.t 3]),no 5 4,m 2 5]
def zL:aN:=(s (r Yd) (s (r Ye) .ret))
def JM:List aZ:=[.tmp 2]
theorem Rz:bB Tryz.prog Tryz.f126 zL:=e (by kernel_rfl)
theorem TJ:bC Tryz.prog Tryz.f126 JM:=e (by kernel_rfl)
theorem PC:bA Tryz.prog 126:=e (by kernel_rfl)
def DA:=[o 2 (.mv bt)]
def DB:=[m 3 0,o 4 (.call 114 [.t 3,(aj 0),(aj 100000)]),m 2 4]
def zM:aN:=(s (r DA) (s (r DB) .ret))
def JN:List aZ:=[.tmp 2]
theorem RA:bB Tryz.prog Tryz.f127 zM:=e (by kernel_rfl)
theorem TK:bC Tryz.prog Tryz.f127 JN:=e (by kernel_rfl)
theorem PD:bA Tryz.prog 127:=e (by kernel_rfl)
def DC:=[b 2 0,o 4 (.mv (.c (.nils 1))),aV 5 0]
def DE:=[aA 11 7 2,o 12 (.call 66 [.t 11]),m 6 12]
def vw:=[m 13 6,o 14 (.bin .neq (.t 13) (aj 0))]
def DF:=[m 15 6,o 4 (.mv (.c (.nils 1))),m 5 15]
def DG:=[m 16 1,o 17 (.len (.t 16)),o 18 (.bin .gtr (.t 17) (aj 60))]
def DH:=[o 4 (.mv (.c (.nils 1))),aV 5 2]
def DI:=[f 19 2 6 2,l 20 19,o 21 (.call 167 [.t 20]),m 7 21]
def vx:=[m 22 1,o 23 (.len (.t 22)),aV 24 0]
def vy:=[lt 25 24 23]
def vz:=[o 26 (.is 6 (.t 22) (.t 24)),aA 27 6 26,o 9 (.alloc (.agg [.int .i64 0,.int .i64 0,.int .i64 0,.int .i64 0,.int .i64 0,.int .i64 0])),p (.bx (some 6) (.t 9) (.t 27))]
def vr:=[aA 28 6 9,o 29 (.call 157 [.t 28]),m 10 29]
def rY:=[m 30 10,o 31 (.bin .neq (.t 30) (aj 0))]
def vt:=[m 32 10,o 4 (.mv (.c (.nils 1))),m 5 32]
def vu:=[f 33 0 0 2,aA 34 5 33,f 35 1 5 2,l 36 35,m 37 7,o 38 (.bld [.agg [.int .i64 0,.int .i64 0,.int .i64 0,.int .i64 0,.int .i64 0],.int .i64 0,.nils 7] [(0,(.t 34)),(1,(.t 36)),(2,(.t 37))]),aA 39 6 9,o 40 (.call 168 [.t 38,.t 39]),m 7 40]
def rZ:=[ad 41 24 1,m 24 41]
def vv:=[m 42 7,o 43 (.call 169 [.t 42]),m 4 43,aV 5 0]
def zN:aN:=(s (r DC) (s (s (r DE) (s (r vw) (.cond (.t 14) (s (r DF) .ret) .skip))) (s (s (r DG) (.cond (.t 18) (s (r DH) .ret) .skip)) (s (r DI) (s (s (r vx) (.block 0 (.loop (s (r vy) (s (.cond (.t 25) .skip (.exit 0)) (s (.block 1 (s (r vz) (s (s (r vr) (s (r rY) (.cond (.t 31) (s (r vt) .ret) .skip))) (r vu)))) (r rZ))))))) (s (r vv) .ret))))))
def JO:List aZ:=[.tmp 4,.tmp 5]
theorem RB:bB Tryz.prog Tryz.f128 zN:=e (by kernel_rfl)
theorem TL:bC Tryz.prog Tryz.f128 JO:=e (by kernel_rfl)
theorem PE:bA Tryz.prog 128:=e (by kernel_rfl)
def Yr:=[aV 4 0]
def Ys:=[m 6 0,o 7 (.len (.t 6)),aV 8 0]
def Yt:=[lt 9 8 7]
def Yu:=[m 10 8,m 5 10]
def Yv:=[m 11 1,m 12 0,m 13 5,o 14 (.is 1 (.t 12) (.t 13)),l 15 14,o 16 (.bin .eql (.t 11) (.t 15))]
def Yw:=[m 17 5,m 4 17]
def Yx:=[ad 18 8 1,m 8 18]
def Yy:=[aV 4 (-1)]
def zO:aN:=(s (r Yr) (s (s (r Ys) (.block 0 (.loop (s (r Yt) (s (.cond (.t 9) .skip (.exit 0)) (s (.block 1 (s (r Yu) (s (r Yv) (.cond (.t 16) (s (r Yw) .ret) .skip)))) (r Yx))))))) (s (r Yy) .ret)))
def JP:List aZ:=[.tmp 4]
theorem RC:bB Tryz.prog Tryz.f131 zO:=e (by kernel_rfl)
theorem TM:bC Tryz.prog Tryz.f131 JP:=e (by kernel_rfl)
theorem PF:bA Tryz.prog 131:=e (by kernel_rfl)
def Yz:=[o 2 (.alloc (.agg [.int .i64 0,.int .i64 0,.int .i64 0,.int .i64 0,.int .i64 0,.int .i64 0,.int .i64 0,.int .i64 0]))]
def YA:=[aV 3 0]
def YB:=[m 4 0,o 5 (.nilC (.t 4)),f 6 0 0 5,f 7 7 7 6,l 8 7]
def YC:=[aV 3 1]
def YD:=[m 9 0,o 10 (.nilC (.t 9)),f 11 0 0 10,f 12 0 0 11,l 13 12,m 14 0,o 15 (.nilC (.t 14)),f 16 0 0 15,f 17 1 1 16,l 18 17,m 19 0,o 20 (.nilC (.t 19)),f 21 0 0 20,f 22 2 2 21,l 23 22,m 24 0,o 25 (.nilC (.t 24)),f 26 0 0 25,f 27 3 3 26,l 28 27,m 29 0,o 30 (.nilC (.t 29)),f 31 0 0 30,f 32 4 4 31,l 33 32,m 34 0,o 35 (.nilC (.t 34)),f 36 0 0 35,f 37 5 5 36,l 38 37,m 39 0,o 40 (.nilC (.t 39)),f 41 0 0 40,f 42 6 6 41,l 43 42,m 44 3,o 45 (.bld [.int .i64 0,.int .i64 0,.int .i64 0,.int .i64 0,.int .i64 0,.int .i64 0,.int .i64 0,.int .i64 0] [(0,(.t 13)),(1,(.t 18)),(2,(.t 23)),(3,(.t 28)),(4,(.t 33)),(5,(.t 38)),(6,(.t 43)),(7,(.t 44))]),p (.bx (some 8) (.t 2) (.t 45))]
def Vs:=some [[],[0],[1],[2],[3],[],[5],[6],[7],[8],[],[10],[11],[12],[13],[],[15],[16],[17],[18],[],[20],[21],[22],[23],[],[25],[26],[27],[28],[],[30],[31],[32],[33],[],[4,9,14,19,24,29,34,35],[36,0,1,2,3,4,5,6,7,8,9,10,11,12,13,14,15,16,17,18,19,20,21,22,23,24,25,26,27,28,29,30,31,32,33,34,35,36]]
def zP:aN:=(s (r Yz) (s (r YA) (s (s (r YB) (.cond (.t 8) (r YC) .skip)) (s (.bW Vs YD) .ret))))
def JQ:List aZ:=[.cell 2 (some 8)]
theorem RD:bB Tryz.prog Tryz.f133 zP:=e (by kernel_rfl)
theorem TN:bC Tryz.prog Tryz.f133 JQ:=e (by kernel_rfl)
theorem PG:bA Tryz.prog 133:=e (by kernel_rfl)
def YE:=[o 4 (.mv bt)]
def YF:=[m 6 0,o 7 (.len (.t 6)),m 8 1,o 9 (.len (.t 8)),o 10 (.bin .neq (.t 7) (.t 9))]
def YG:=[o 4 (.mv bt)]
def YH:=[m 11 0,o 12 (.len (.t 11)),aV 13 0]
def YI:=[lt 14 13 12]
def YJ:=[m 15 13,m 5 15]
def YK:=[m 16 0,m 17 5,o 18 (.is 1 (.t 16) (.t 17)),l 19 18,m 20 1,m 21 5,o 22 (.is 1 (.t 20) (.t 21)),l 23 22,o 24 (.bin .neq (.t 19) (.t 23))]
def Vt:=some [[],[],[0,1],[2],[],[],[4,5],[6],[3,7]]
def YL:=[o 4 (.mv bt)]
def YM:=[ad 25 13 1,m 13 25]
def YN:=[o 4 (.mv T)]
def zQ:aN:=(s (r YE) (s (s (r YF) (.cond (.t 10) (s (r YG) .ret) .skip)) (s (s (r YH) (.block 0 (.loop (s (r YI) (s (.cond (.t 14) .skip (.exit 0)) (s (.block 1 (s (r YJ) (s (.bW Vt YK) (.cond (.t 24) (s (r YL) .ret) .skip)))) (r YM))))))) (s (r YN) .ret))))
def JR:List aZ:=[.tmp 4]
theorem RE:bB Tryz.prog Tryz.f134 zQ:=e (by kernel_rfl)
theorem TO:bC Tryz.prog Tryz.f134 JR:=e (by kernel_rfl)
theorem PH:bA Tryz.prog 134:=e (by kernel_rfl)
def DJ:=[o 6 (.mv (.c (.nils 17)))]
def DK:=[m 8 0,m 9 1,m 10 2,m 11 0,o 12 (.len (.t 11)),o 13 (.sl 17 (.t 8) (some (.t 9)) (some (.t 10)) (some (.t 12)))]
def DL:=[m 14 1,m 15 2,o 16 (.bin .eql (.t 14) (.t 15))]
def YO:=[m 17 0,m 6 17]
def DM:=[m 18 0,o 19 (.len (.t 18)),m 7 19]
def vA:=[m 20 0,m 21 1,o 22 (.sl 17 (.t 20) none (some (.t 21)) none),m 23 0,m 24 2,o 25 (.sl 17 (.t 23) (some (.t 24)) none none),o 26 (.dq 68 17 136 (.agg [.agg [.int .i64 0,.int .i64 0],.int .i64 0,.int .i64 0,.int .i64 0,.int .i64 0,.int .i64 0,.int .i64 0,.int .i64 0,.agg [.int .i64 0,.int .i64 0,.int .i64 0,.int .i64 0,.int .i64 0,.int .i64 0],.agg [.int .i64 0,.int .i64 0]]) (.t 22) (.t 25)),m 0 26]
def Vu:=some [[],[],[0,1],[],[],[3,4],[2,5],[6,6,0,1,2,3,4,5,6]]
def vB:=[m 27 0,m 28 0,o 29 (.len (.t 28)),m 30 7,o 31 (.sl 17 (.t 27) (some (.t 29)) (some (.t 30)) none),p (.jb 17 (.agg [.agg [.int .i64 0,.int .i64 0],.int .i64 0,.int .i64 0,.int .i64 0,.int .i64 0,.int .i64 0,.int .i64 0,.int .i64 0,.agg [.int .i64 0,.int .i64 0,.int .i64 0,.int .i64 0,.int .i64 0,.int .i64 0],.agg [.int .i64 0,.int .i64 0]]) (.t 31))]
def vC:=[m 32 0,m 6 32]
def zR:aN:=(s (r DJ) (s (r DK) (s (s (r DL) (.cond (.t 16) (s (r YO) .ret) .skip)) (s (r DM) (s (.bW Vu vA) (s (r vB) (s (r vC) .ret)))))))
def JS:List aZ:=[.tmp 6]
theorem RF:bB Tryz.prog Tryz.f135 zR:=e (by kernel_rfl)
theorem TP:bC Tryz.prog Tryz.f135 JS:=e (by kernel_rfl)
theorem PI:bA Tryz.prog 135:=e (by kernel_rfl)
def DN:=[o 2 (.mv (.c (.nils 17)))]
def vD:=[m 3 0,o 4 (.nilS false (.t 3))]
def DO:=[o 2 (.mv (.c (.nils 17)))]
def vE:=[o 5 (.bs0 17),m 6 0,o 7 (.dq 68 17 136 (.agg [.agg [.int .i64 0,.int .i64 0],.int .i64 0,.int .i64 0,.int .i64 0,.int .i64 0,.int .i64 0,.int .i64 0,.int .i64 0,.agg [.int .i64 0,.int .i64 0,.int .i64 0,.int .i64 0,.int .i64 0,.int .i64 0],.agg [.int .i64 0,.int .i64 0]]) (.t 5) (.t 6)),m 2 7]
def zS:aN:=(s (r DN) (s (s (r vD) (.cond (.t 4) (s (r DO) .ret) .skip)) (s (r vE) .ret)))
def JT:List aZ:=[.tmp 2]
theorem RG:bB Tryz.prog Tryz.f136 zS:=e (by kernel_rfl)
theorem TQ:bC Tryz.prog Tryz.f136 JT:=e (by kernel_rfl)
theorem PJ:bA Tryz.prog 136:=e (by kernel_rfl)
def DP:=[m 4 0,m 5 0,o 6 (.len (.t 5)),m 7 1,o 8 (.call 171 [.t 4,.t 6,.t 7])]
def uu:aN:=(r DP)
def xO:List aZ:=[]
theorem BD:bB Tryz.prog Tryz.f137 uu:=e (by kernel_rfl)
theorem BO:bC Tryz.prog Tryz.f137 xO:=e (by kernel_rfl)
theorem Bu:bA Tryz.prog 137:=e (by kernel_rfl)
def YP:=[aV 5 0]
def YQ:=[l 6 2,m 7 0,o 8 (.is 17 (.t 6) (.t 7)),f 9 2 3 8,l 10 9,l 11 2,m 12 1,o 13 (.is 17 (.t 11) (.t 12)),f 14 2 3 13,l 15 14,o 16 (.bin .sub (.t 10) (.t 15)),m 5 16]
def Vv:=some [[],[],[0,1],[2],[3],[],[],[5,6],[7],[8],[4,9],[10,0,1,2,3,4,5,6,7,8,9,10]]
def zT:aN:=(s (r YP) (s (.bW Vv YQ) .ret))
def JU:List aZ:=[.tmp 5]
theorem RH:bB Tryz.prog Tryz.f138 zT:=e (by kernel_rfl)
theorem TR:bC Tryz.prog Tryz.f138 JU:=e (by kernel_rfl)
theorem PK:bA Tryz.prog 138:=e (by kernel_rfl)
def DQ:=[o 0 (.mv (.c (.raw (.map none))))]
def DR:=[o 1 (.jC),p (.gA (.i .i64) (.t 1) (aj 1) (.c (.func 172 []))),p (.gA (.i .i64) (.t 1) (aj 2) (.c (.func 173 []))),p (.gA (.i .i64) (.t 1) (aj 3) (.c (.func 174 []))),p (.gA (.i .i64) (.t 1) (aj 4) (.c (.func 175 []))),p (.gA (.i .i64) (.t 1) (aj 5) (.c (.func 176 []))),p (.gA (.i .i64) (.t 1) (aj 6) (.c (.func 177 []))),m 2 1,m 0 2]
def zU:aN:=(s (r DQ) (s (r DR) .ret))
def JV:List aZ:=[.tmp 0]
theorem RI:bB Tryz.prog Tryz.f139 zU:=e (by kernel_rfl)
theorem TS:bC Tryz.prog Tryz.f139 JV:=e (by kernel_rfl)
theorem PL:bA Tryz.prog 139:=e (by kernel_rfl)
def DS:=[o 2 (.mv (.c (.nils 1)))]
def DT:=[o 3 (.mv (.c (.nils 1)))]
def DU:=[aV 4 0]
def DV:=[m 5 4,o 6 (.bin .lss (.t 5) (aj 5))]
def DW:=[m 9 0,m 10 4,o 11 (.bin .shl (aj 1) (.t 10)),o 12 (.bin .and (.t 9) (.t 11)),o 13 (.bin .neq (.t 12) (aj 0))]
def DX:=[m 14 3,m 15 4,o 16 (.bs 1 [.t 15]),o 17 (.dq 3 1 8 (.int .i64 0) (.t 14) (.t 16)),m 3 17]
def vF:=[m 7 4,ad 8 7 1,m 4 8]
def DY:=[m 18 3,m 2 18]
def zW:aN:=(s (r DS) (s (r DT) (s (s (r DU) (.block 0 (.loop (s (s (r DV) (.cond (.t 6) .skip (.exit 0))) (s (.block 1 (s (r DW) (.cond (.t 13) (r DX) .skip))) (r vF)))))) (s (r DY) .ret))))
def JX:List aZ:=[.tmp 2]
theorem RK:bB Tryz.prog Tryz.f141 zW:=e (by kernel_rfl)
theorem TU:bC Tryz.prog Tryz.f141 JX:=e (by kernel_rfl)
theorem PN:bA Tryz.prog 141:=e (by kernel_rfl)
def YR:=[b 4 1,aV 6 0,o 7 (.mv bt)]
def YS:=[m 12 0,o 13 (.len (.t 12)),m 8 13]
def YT:=[m 14 8,aV 9 0,m 10 14]
def YU:=[m 15 9,m 16 10,lt 17 15 16]
def YV:=[m 18 9,m 19 10,o 20 (.bin .add (.t 18) (.t 19)),o 21 (.conv .u64 (.t 20)),o 22 (.bin .shr (.t 21) (.c (.int .u64 1))),o 23 (.conv .i64 (.t 22)),m 11 23]
def YW:=[m 24 2,m 25 0,m 26 11,o 27 (.is 17 (.t 25) (.t 26)),aA 28 17 27,aA 29 2 4,o 30 (.en (.t 24) [.t 28,.t 29]),o 31 (.bin .lss (.t 30) (aj 0))]
def Vw:=some [[],[],[],[1,2],[3],[],[0,4,5],[6]]
def YX:=[m 32 11,ad 33 32 1,m 9 33]
def YY:=[m 34 11,m 10 34]
def YZ:=[m 35 9,m 36 9,m 37 8,lt 38 36 37,m 39 38,cD 40 2 39,cD 41 0 39,cD 42 9 39,bE 43 (.is 17 (.t 41) (.t 42)) 39,bE 44 (.ld (some 17) (.t 43)) 39,bE 45 (.ld (some 2) (.t 4)) 39,bE 46 (.en (.t 40) [.t 44,.t 45]) 39,bE 47 (.bin .eql (.t 46) (aj 0)) 39,and 48 39 47,m 6 35,m 7 48]
def Vx:=some [[],[],[],[1,2],[3],[4],[4],[4],[6,7,4],[8,4],[4],[5,9,10,4,4],[11,4],[4,12],[0,11,0],[13,14,0,1,2,3,4,5,6,7,8,9,10,11,12,13,14]]
def zX:aN:=(s (r YR) (s (r YS) (s (r YT) (s (.block 0 (.loop (s (s (r YU) (.cond (.t 17) .skip (.exit 0))) (.block 1 (s (r YV) (s (.bW Vw YW) (.cond (.t 31) (r YX) (r YY)))))))) (s (.bW Vx YZ) .ret)))))
def JY:List aZ:=[.tmp 6,.tmp 7]
theorem RL:bB Tryz.prog Tryz.f142 zX:=e (by kernel_rfl)
theorem TV:bC Tryz.prog Tryz.f142 JY:=e (by kernel_rfl)
theorem PO:bA Tryz.prog 142:=e (by kernel_rfl)
def Y0:=[b 2 0,b 3 1,aV 4 0]
def Y1:=[f 5 0 0 2,aA 6 2 5,aA 7 2 3,o 8 (.call 118 [.t 6,.t 7]),m 4 8]
def zY:aN:=(s (r Y0) (s (r Y1) .ret))
def JZ:List aZ:=[.tmp 4]
theorem RM:bB Tryz.prog Tryz.f143 zY:=e (by kernel_rfl)
theorem TW:bC Tryz.prog Tryz.f143 JZ:=e (by kernel_rfl)
theorem PQ:bA Tryz.prog 143:=e (by kernel_rfl)
def Y2:=[b 1 0,o 2 (.mv (.c (.de)))]
def Y3:=[o 3 (.mk 178 [.t 1]),m 2 3]
def zZ:aN:=(s (r Y2) (s (r Y3) .ret))
def J0:List aZ:=[.tmp 2]
theorem RN:bB Tryz.prog Tryz.f145 zZ:=e (by kernel_rfl)
theorem TX:bC Tryz.prog Tryz.f145 J0:=e (by kernel_rfl)
theorem PR:bA Tryz.prog 145:=e (by kernel_rfl)
def DZ:=[l 5 1,o 6 (.len (.t 5)),aV 7 0]
def D4:=[lt 8 7 6]
def D5:=[m 9 7,m 4 9]
def vG:=[l 10 2,m 11 4,o 12 (.is 1 (.t 10) (.t 11)),l 13 12,m 14 13,cD 15 0 14,cD 16 4 14,bE 17 (.en (.t 15) [.t 16]) 14,bE 18 (.un .not (.t 17)) 14,and 19 14 18]
def vH:=[ad 20 7 1,m 7 20]
def z1:aN:=(s (r DZ) (.block 0 (.loop (s (r D4) (s (.cond (.t 8) .skip (.exit 0)) (s (.block 1 (s (r D5) (s (r vG) (.cond (.t 19) .ret .skip)))) (r vH)))))))
def J1:List aZ:=[]
theorem RO:bB Tryz.prog Tryz.f146 z1:=e (by kernel_rfl)
theorem TY:bC Tryz.prog Tryz.f146 J1:=e (by kernel_rfl)
theorem Bv:bA Tryz.prog 146:=e (by kernel_rfl)
def r0:=[o 6 (.mv (.c (.nils 17)))]
def r2:=[m 10 0,m 11 1,o 12 (.sl 17 (.t 10) (some (.t 11)) none none)]
def r3:=[m 13 2,o 14 (.len (.t 13)),m 7 14]
def r4:=[m 15 7,o 16 (.bin .eql (.t 15) (aj 0))]
def Zi:=[m 17 0,m 6 17]
def r5:=[m 18 0,o 19 (.len (.t 18)),m 8 19]
def r6:=[m 20 1,m 21 8,o 22 (.bin .eql (.t 20) (.t 21))]
def p6:=[m 23 0,m 24 2,o 25 (.dq 68 17 136 (.agg [.agg [.int .i64 0,.int .i64 0],.int .i64 0,.int .i64 0,.int .i64 0,.int .i64 0,.int .i64 0,.int .i64 0,.int .i64 0,.agg [.int .i64 0,.int .i64 0,.int .i64 0,.int .i64 0,.int .i64 0,.int .i64 0],.agg [.int .i64 0,.int .i64 0]]) (.t 23) (.t 24)),m 6 25]
def Ee:=[m 26 8,m 27 7,o 28 (.bin .add (.t 26) (.t 27)),m 29 0,o 30 (.cap (.t 29)),o 31 (.bin .gtr (.t 28) (.t 30))]
def Ef:=[m 32 0,m 33 1,o 34 (.sl 17 (.t 32) none (some (.t 33)) none),m 35 8,m 36 7,o 37 (.bin .add (.t 35) (.t 36)),m 38 1,o 39 (.bin .sub (.t 37) (.t 38)),o 40 (.ka 68 17 136 (.agg [.agg [.int .i64 0,.int .i64 0],.int .i64 0,.int .i64 0,.int .i64 0,.int .i64 0,.int .i64 0,.int .i64 0,.int .i64 0,.agg [.int .i64 0,.int .i64 0,.int .i64 0,.int .i64 0,.int .i64 0,.int .i64 0],.agg [.int .i64 0,.int .i64 0]]) (.t 34) (.t 39)),m 9 40]
def D6:=[m 41 9,m 42 1,o 43 (.sl 17 (.t 41) (some (.t 42)) none none),m 44 2,o 45 (.ib 17 (.t 43) (.t 44))]
def D7:=[m 46 9,m 47 1,m 48 7,o 49 (.bin .add (.t 47) (.t 48)),o 50 (.sl 17 (.t 46) (some (.t 49)) none none),m 51 0,m 52 1,o 53 (.sl 17 (.t 51) (some (.t 52)) none none),o 54 (.ib 17 (.t 50) (.t 53))]
def Vy:=some [[],[],[],[1,2],[0,3],[],[],[5,6],[4,7]]
def D8:=[m 55 9,m 6 55]
def D9:=[m 56 0,m 57 8,m 58 7,o 59 (.bin .add (.t 57) (.t 58)),o 60 (.sl 17 (.t 56) none (some (.t 59)) none),m 0 60]
def Ea:=[m 61 2,m 62 0,m 63 1,m 64 7,o 65 (.bin .add (.t 63) (.t 64)),o 66 (.sl 17 (.t 62) (some (.t 65)) none none),o 67 (.iX 191 [.t 61,.t 66]),no 68 67]
def Eb:=[m 69 0,m 70 1,m 71 7,o 72 (.bin .add (.t 70) (.t 71)),o 73 (.sl 17 (.t 69) (some (.t 72)) none none),m 74 0,m 75 1,o 76 (.sl 17 (.t 74) (some (.t 75)) none none),o 77 (.ib 17 (.t 73) (.t 76))]
def Vz:=some [[],[],[],[1,2],[0,3],[],[],[5,6],[4,7]]
def Ec:=[m 78 0,m 79 1,o 80 (.sl 17 (.t 78) (some (.t 79)) none none),m 81 2,o 82 (.ib 17 (.t 80) (.t 81))]
def Ed:=[m 83 0,m 6 83]
def Zf:=[m 84 0,m 85 8,o 86 (.sl 17 (.t 84) (some (.t 85)) none none),m 87 2,o 88 (.ib 17 (.t 86) (.t 87))]
def Zg:=[m 89 0,m 90 1,o 91 (.sl 17 (.t 89) (some (.t 90)) none none),m 92 7,o 93 (.call 192 [.t 91,.t 92])]
def Zh:=[m 94 0,m 6 94]
def rC:aN:=(s (r r0) (s (r r2) (s (r r3) (s (s (r r4) (.cond (.t 16) (s (r Zi) .ret) .skip)) (s (r r5) (s (s (r r6) (.cond (.t 22) (s (r p6) .ret) .skip)) (s (s (r Ee) (.cond (.t 31) (s (r Ef) (s (r D6) (s (.bW Vy D7) (s (r D8) .ret)))) .skip)) (s (r D9) (s (s (r Ea) (.cond (.t 68) (s (.bW Vz Eb) (s (r Ec) (s (r Ed) .ret))) .skip)) (s (r Zf) (s (r Zg) (s (r Zh) .ret))))))))))))
def s9:List aZ:=[.tmp 6]
theorem uD:bB Tryz.prog Tryz.f153 rC:=e (by kernel_rfl)
theorem uO:bC Tryz.prog Tryz.f153 s9:=e (by kernel_rfl)
theorem uA:bA Tryz.prog 153:=e (by kernel_rfl)
def Eg:=[o 2 (.mv bt)]
def Ei:=[m 3 0,o 4 (.call 114 [.t 3,(aj 1),(aj 9999)]),m 2 4]
def z6:aN:=(s (r Eg) (s (r Ei) .ret))
def J2:List aZ:=[.tmp 2]
theorem RP:bB Tryz.prog Tryz.f154 z6:=e (by kernel_rfl)
theorem TZ:bC Tryz.prog Tryz.f154 J2:=e (by kernel_rfl)
theorem PS:bA Tryz.prog 154:=e (by kernel_rfl)
def Ej:=[o 2 (.mv bt)]
def Ek:=[m 3 0,o 4 (.call 114 [.t 3,(aj 1),(aj 9)]),m 2 4]
def z7:aN:=(s (r Ej) (s (r Ek) .ret))
def J3:List aZ:=[.tmp 2]
theorem RQ:bB Tryz.prog Tryz.f155 z7:=e (by kernel_rfl)
theorem T0:bC Tryz.prog Tryz.f155 J3:=e (by kernel_rfl)
theorem PT:bA Tryz.prog 155:=e (by kernel_rfl)
def El:=[o 2 (.mv bt)]
def Em:=[m 3 0,o 4 (.call 114 [.t 3,(aj 1),(aj 99)]),m 2 4]
def z8:aN:=(s (r El) (s (r Em) .ret))
def J4:List aZ:=[.tmp 2]
theorem RR:bB Tryz.prog Tryz.f156 z8:=e (by kernel_rfl)
theorem T3:bC Tryz.prog Tryz.f156 J4:=e (by kernel_rfl)
theorem PU:bA Tryz.prog 156:=e (by kernel_rfl)
def En:=[b 1 0,aV 2 0]
def Eo:=[aA 3 6 1,o 4 (.call 193 [.t 3]),no 5 4]
def Ep:=[aV 2 12]
def Er:=[aV 2 0]
def Aa:aN:=(s (r En) (s (s (r Eo) (.cond (.t 5) (s (r Ep) .ret) .skip)) (s (r Er) .ret)))
def J5:List aZ:=[.tmp 2]
theorem RS:bB Tryz.prog Tryz.f157 Aa:=e (by kernel_rfl)
theorem T4:bC Tryz.prog Tryz.f157 J5:=e (by kernel_rfl)
theorem PV:bA Tryz.prog 157:=e (by kernel_rfl)
def Es:=[aV 2 0]
def Et:=[aV 3 0]
def Eu:=[m 6 0,o 7 (.len (.t 6)),aV 8 0]
def Ev:=[lt 9 8 7]
def Ew:=[o 10 (.is 1 (.t 6) (.t 8)),l 11 10,m 5 11]
def Ey:=[m 12 5,m 13 3,o 14 (.bin .neq (.t 12) (.t 13))]
def Ez:=[m 15 5,m 2 15]
def EA:=[ad 16 8 1,m 8 16]
def EB:=[m 17 3,m 2 17]
def Ab:aN:=(s (r Es) (s (r Et) (s (s (r Eu) (.block 0 (.loop (s (r Ev) (s (.cond (.t 9) .skip (.exit 0)) (s (.block 1 (s (r Ew) (s (r Ey) (.cond (.t 14) (s (r Ez) .ret) .skip)))) (r EA))))))) (s (r EB) .ret))))
def J6:List aZ:=[.tmp 2]
theorem RT:bB Tryz.prog Tryz.f158 Ab:=e (by kernel_rfl)
theorem T5:bC Tryz.prog Tryz.f158 J6:=e (by kernel_rfl)
theorem PW:bA Tryz.prog 158:=e (by kernel_rfl)
def EC:=[aV 4 0]
def ED:=[m 7 0,o 8 (.call 194 [.t 7]),m 5 8]
def EI:=[m 9 1,o 10 (.call 194 [.t 9]),m 6 10]
def EJ:=[m 11 5]
def Zj:=[m 12 6]
def Zk:=[aV 4 0]
def Zl:=[aV 4 (-1)]
def EK:=[m 13 6]
def Zm:=[aV 4 1]
def EL:=[m 14 0,m 15 1,lt 16 14 15]
def EE:=[aV 4 (-1)]
def EF:=[m 17 0,m 18 1,o 19 (.bin .gtr (.t 17) (.t 18))]
def EG:=[aV 4 1]
def EH:=[aV 4 0]
def Ac:aN:=(s (r EC) (s (r ED) (s (r EI) (s (s (r EJ) (.cond (.t 11) (s (s (r Zj) (.cond (.t 12) (s (r Zk) .ret) .skip)) (s (r Zl) .ret)) .skip)) (s (s (r EK) (.cond (.t 13) (s (r Zm) .ret) .skip)) (s (s (r EL) (.cond (.t 16) (s (r EE) .ret) .skip)) (s (s (r EF) (.cond (.t 19) (s (r EG) .ret) .skip)) (s (r EH) .ret))))))))
def J7:List aZ:=[.tmp 4]
theorem RU:bB Tryz.prog Tryz.f159 Ac:=e (by kernel_rfl)
theorem T6:bC Tryz.prog Tryz.f159 J7:=e (by kernel_rfl)
theorem PX:bA Tryz.prog 159:=e (by kernel_rfl)
def EM:=[o 2 (.mv bt)]
def EN:=[m 3 0,o 4 (.call 121 [.t 3,(aj 0),(aj 31)]),m 2 4]
def Ae:aN:=(s (r EM) (s (r EN) .ret))
def J9:List aZ:=[.tmp 2]
theorem RW:bB Tryz.prog Tryz.f160 Ae:=e (by kernel_rfl)
theorem T8:bC Tryz.prog Tryz.f160 J9:=e (by kernel_rfl)
theorem PZ:bA Tryz.prog 160:=e (by kernel_rfl)
def EO:=[o 4 (.mv bt)]
def EP:=[m 5 0,m 6 1,o 7 (.bin .shr (.t 5) (.t 6)),o 8 (.bin .and (.t 7) (aj 1)),o 9 (.bin .eql (.t 8) (aj 1)),m 4 9]
def Af:aN:=(s (r EO) (s (r EP) .ret))
def Ka:List aZ:=[.tmp 4]
theorem RX:bB Tryz.prog Tryz.f161 Af:=e (by kernel_rfl)
theorem T9:bC Tryz.prog Tryz.f161 Ka:=e (by kernel_rfl)
theorem P0:bA Tryz.prog 161:=e (by kernel_rfl)
def ER:=[o 2 (.mv bt)]
def ES:=[m 3 0,o 4 (.call 121 [.t 3,(aj 0),(aj 4)]),no 5 4,m 2 5]
def Ag:aN:=(s (r ER) (s (r ES) .ret))
def Kb:List aZ:=[.tmp 2]
theorem RY:bB Tryz.prog Tryz.f162 Ag:=e (by kernel_rfl)
theorem Ua:bC Tryz.prog Tryz.f162 Kb:=e (by kernel_rfl)
theorem P1:bA Tryz.prog 162:=e (by kernel_rfl)
def ET:=[o 4 (.mv bt)]
def EU:=[m 5 0,m 6 1,o 7 (.call 195 [.t 5,.t 6]),o 8 (.bin .geq (.t 7) (aj 0)),m 4 8]
def Ah:aN:=(s (r ET) (s (r EU) .ret))
def Kc:List aZ:=[.tmp 4]
theorem RZ:bB Tryz.prog Tryz.f163 Ah:=e (by kernel_rfl)
theorem Ub:bC Tryz.prog Tryz.f163 Kc:=e (by kernel_rfl)
theorem P2:bA Tryz.prog 163:=e (by kernel_rfl)
def EV:=[b 3 0,o 4 (.mv bt)]
def EW:=[f 5 0 0 1,aA 6 5 5,f 7 1 1 3,aA 8 6 7,aA 9 6 2,o 10 (.call 165 [.t 6,.t 8,.t 9]),f 11 1 5 1,l 12 11,o 13 (.bin .mul (aj 2) (.t 12)),o 14 (.bin .leq (.t 10) (.t 13)),m 4 14]
def VA:=some [[],[0],[],[2],[],[1,3,4],[],[6],[7],[5,8],[9,5,0,1,2,3,4,5,6,7,8,9]]
def Ai:aN:=(s (r EV) (s (.bW VA EW) .ret))
def Kd:List aZ:=[.tmp 4]
theorem R0:bB Tryz.prog Tryz.f164 Ai:=e (by kernel_rfl)
theorem Uc:bC Tryz.prog Tryz.f164 Kd:=e (by kernel_rfl)
theorem P3:bA Tryz.prog 164:=e (by kernel_rfl)
def EX:=[b 3 0,b 4 1,b 5 2,aV 6 0]
def EY:=[o 7 (.alloc (.de)),p (.bx none (.t 7) (.c (.func 196 [])))]
def EZ:=[o 8 (.mk 198 [.t 7,.t 3,.t 4,.t 5]),o 9 (.call 197 [.t 8]),m 6 9]
def Aj:aN:=(s (r EX) (s (r EY) (s (r EZ) .ret)))
def Ke:List aZ:=[.tmp 6]
theorem R1:bB Tryz.prog Tryz.f165 Aj:=e (by kernel_rfl)
theorem Ud:bC Tryz.prog Tryz.f165 Ke:=e (by kernel_rfl)
theorem P4:bA Tryz.prog 165:=e (by kernel_rfl)
def E0:=[aV 4 0]
def E4:=[m 6 0,o 7 (.len (.t 6)),aV 8 0]
def E5:=[lt 9 8 7]
def E6:=[m 10 8,m 5 10]
def E7:=[m 11 1,m 12 0,m 13 5,o 14 (.is 1 (.t 12) (.t 13)),l 15 14,o 16 (.en (.t 11) [.t 15])]
def E8:=[m 17 5,m 4 17]
def E9:=[ad 18 8 1,m 8 18]
def Fa:=[aV 4 (-1)]
def Ak:aN:=(s (r E0) (s (s (r E4) (.block 0 (.loop (s (r E5) (s (.cond (.t 9) .skip (.exit 0)) (s (.block 1 (s (r E6) (s (r E7) (.cond (.t 16) (s (r E8) .ret) .skip)))) (r E9))))))) (s (r Fa) .ret)))
def Kf:List aZ:=[.tmp 4]
theorem R2:bB Tryz.prog Tryz.f166 Ak:=e (by kernel_rfl)
theorem Ue:bC Tryz.prog Tryz.f166 Kf:=e (by kernel_rfl)
theorem P5:bA Tryz.prog 166:=e (by kernel_rfl)
def Fb:=[o 2 (.mv (.c (.nils 7)))]
def vI:=[m 3 0,o 4 (.nilS false (.t 3))]
def Fc:=[o 2 (.mv (.c (.nils 7)))]
def vJ:=[o 5 (.bs0 7),m 6 0,o 7 (.dq 63 7 56 (.agg [.int .i64 0,.agg [.int .i64 0,.int .i64 0,.int .i64 0,.int .i64 0,.int .i64 0,.int .i64 0]]) (.t 5) (.t 6)),m 2 7]
def Al:aN:=(s (r Fb) (s (s (r vI) (.cond (.t 4) (s (r Fc) .ret) .skip)) (s (r vJ) .ret)))
def Kg:List aZ:=[.tmp 2]
theorem R3:bB Tryz.prog Tryz.f167 Al:=e (by kernel_rfl)
theorem Uf:bC Tryz.prog Tryz.f167 Kg:=e (by kernel_rfl)
theorem P6:bA Tryz.prog 167:=e (by kernel_rfl)
def Fe:=[b 2 0,b 3 1,o 4 (.mv (.c (.nils 7)))]
def Ff:=[f 5 2 6 2,l 6 5,o 7 (.call 167 [.t 6]),o 8 (.mk 201 [.t 2,.t 3]),o 9 (.call 200 [.t 7,.t 8]),m 4 9]
def Am:aN:=(s (r Fe) (s (r Ff) .ret))
def Kh:List aZ:=[.tmp 4]
theorem R4:bB Tryz.prog Tryz.f168 Am:=e (by kernel_rfl)
theorem Ug:bC Tryz.prog Tryz.f168 Kh:=e (by kernel_rfl)
theorem P7:bA Tryz.prog 168:=e (by kernel_rfl)
def Fg:=[o 2 (.mv (.c (.nils 1)))]
def Fh:=[o 3 (.mv (.c (.nils 1)))]
def Fi:=[m 6 0,o 7 (.len (.t 6)),aV 8 0]
def Fj:=[lt 9 8 7]
def Fk:=[o 10 (.is 7 (.t 6) (.t 8)),aA 11 7 10,o 5 (.alloc (.agg [.int .i64 0,.agg [.int .i64 0,.int .i64 0,.int .i64 0,.int .i64 0,.int .i64 0,.int .i64 0]])),p (.bx (some 7) (.t 5) (.t 11))]
def Fl:=[m 12 3,f 13 0 0 5,l 14 13,o 15 (.bs 1 [.t 14]),o 16 (.dq 3 1 8 (.int .i64 0) (.t 12) (.t 15)),m 3 16]
def Fm:=[ad 17 8 1,m 8 17]
def Fo:=[m 18 3,m 2 18]
def An:aN:=(s (r Fg) (s (r Fh) (s (s (r Fi) (.block 0 (.loop (s (r Fj) (s (.cond (.t 9) .skip (.exit 0)) (s (.block 1 (s (r Fk) (r Fl))) (r Fm))))))) (s (r Fo) .ret))))
def Ki:List aZ:=[.tmp 2]
theorem R5:bB Tryz.prog Tryz.f169 An:=e (by kernel_rfl)
theorem Uh:bC Tryz.prog Tryz.f169 Ki:=e (by kernel_rfl)
theorem P8:bA Tryz.prog 169:=e (by kernel_rfl)
def vK:=[aV 6 20]
def vL:=[m 10 6,aV 7 0,m 8 10]
def Fp:=[m 11 8,m 12 1,o 13 (.bin .leq (.t 11) (.t 12))]
def ZC:=[m 14 0,m 15 7,m 16 8,m 17 2,o 18 (.call 203 [.t 14,.t 15,.t 16,.t 17])]
def ZD:=[m 19 8,m 7 19]
def ZE:=[m 20 8,m 21 6,o 22 (.bin .add (.t 20) (.t 21)),m 8 22]
def Fq:=[m 23 0,m 24 7,m 25 1,m 26 2,o 27 (.call 203 [.t 23,.t 24,.t 25,.t 26])]
def vM:=[m 28 6,m 29 1,lt 30 28 29]
def Fs:=[m 31 6,o 32 (.bin .mul (aj 2) (.t 31)),aV 7 0,m 8 32]
def Ft:=[m 33 8,m 34 1,o 35 (.bin .leq (.t 33) (.t 34))]
def Zv:=[m 36 0,m 37 7,m 38 7,m 39 6,o 40 (.bin .add (.t 38) (.t 39)),m 41 8,m 42 2,o 43 (.call 204 [.t 36,.t 37,.t 40,.t 41,.t 42])]
def Zw:=[m 44 8,m 7 44]
def Zx:=[m 45 8,m 46 6,o 47 (.bin .mul (aj 2) (.t 46)),o 48 (.bin .add (.t 45) (.t 47)),m 8 48]
def Zy:=[m 49 7,m 50 6,o 51 (.bin .add (.t 49) (.t 50)),m 9 51]
def Zz:=[m 52 9,m 53 1,lt 54 52 53]
def ZA:=[m 55 0,m 56 7,m 57 9,m 58 1,m 59 2,o 60 (.call 204 [.t 55,.t 56,.t 57,.t 58,.t 59])]
def ZB:=[m 61 6,o 62 (.bin .mul (.t 61) (aj 2)),m 6 62]
def uv:aN:=(s (r vK) (s (r vL) (s (.block 0 (.loop (s (s (r Fp) (.cond (.t 13) .skip (.exit 0))) (.block 1 (s (r ZC) (s (r ZD) (r ZE))))))) (s (r Fq) (.block 2 (.loop (s (s (r vM) (.cond (.t 30) .skip (.exit 2))) (.block 3 (s (r Fs) (s (.block 4 (.loop (s (s (r Ft) (.cond (.t 35) .skip (.exit 4))) (.block 5 (s (r Zv) (s (r Zw) (r Zx))))))) (s (s (r Zy) (s (r Zz) (.cond (.t 54) (r ZA) .skip))) (r ZB))))))))))))
def xP:List aZ:=[]
theorem BE:bB Tryz.prog Tryz.f171 uv:=e (by kernel_rfl)
theorem BP:bC Tryz.prog Tryz.f171 xP:=e (by kernel_rfl)
theorem Bw:bA Tryz.prog 171:=e (by kernel_rfl)
def ZF:=[b 3 1,o 4 (.mv bt)]
def ZG:=[f 6 5 6 3,l 7 6,o 8 (.bin .gtr (.t 7) (aj 0))]
def ZH:=[m 9 0,o 10 (.nilC (.t 9)),f 11 0 0 10,l 12 11,f 13 5 6 3,l 14 13,o 15 (.lk (.i .i64) (.nilp) false (.t 12) (.t 14)),m 5 15]
def VB:=some [[],[0],[1],[2],[],[4],[3,5],[6,0,1,2,3,4,5,6]]
def ZI:=[m 16 5,o 17 (.ptrE false (.t 16) (.c (.nilp))),m 18 17,dW 19 5 18,on 20 (.nilC (.t 19)) 18,fn 21 0 0 20 18,fn 22 1 1 21 18,gz 23 22 18,fn 24 6 7 3 18,gz 25 24 18,on 26 (.bin .neq (.t 23) (.t 25)) 18,or 27 18 26,m 28 27,dW 29 5 28,on 30 (.call 90 [.t 29]) 28,dW 31 30 28,cD 32 5 31,bE 33 (.nilC (.t 32)) 31,dg 34 0 0 33 31,dg 35 6 6 34 31,eg 36 35 31,dg 37 2 3 3 31,eg 38 37 31,bE 39 (.bin .lss (.t 36) (.t 38)) 31,on 40 (.pick (.t 31) (.t 39) bt) 28,or 41 28 40]
def VC:=some [[],[0],[1],[2],[3,2],[4,2],[5,2],[6,2],[2],[8,2],[7,9,2],[2,10],[11,2],[12],[13,12,12],[14,14,12],[15],[16,15],[17,15],[18,15],[19,15],[15],[21,15],[20,22,15],[15,23,12],[12,24]]
def ZJ:=[o 4 (.mv bt)]
def ZK:=[m 42 0,aA 43 17 3,o 44 (.call 173 [.t 42,.t 43]),m 4 44]
def Ao:aN:=(s (r ZF) (s (s (r ZG) (.cond (.t 8) (s (.bW VB ZH) (s (.bW VC ZI) (.cond (.t 41) (s (r ZJ) .ret) .skip))) .skip)) (s (r ZK) .ret)))
def Kj:List aZ:=[.tmp 4]
theorem R6:bB Tryz.prog Tryz.f172 Ao:=e (by kernel_rfl)
theorem Ui:bC Tryz.prog Tryz.f172 Kj:=e (by kernel_rfl)
theorem P9:bA Tryz.prog 172:=e (by kernel_rfl)
def ZL:=[b 3 1,o 4 (.mv bt)]
def ZM:=[m 5 0,o 6 (.nilC (.t 5)),f 7 0 0 6,l 8 7,f 9 4 5 3,l 10 9,o 11 (.lk (.i .i64) (.nilp) false (.t 8) (.t 10)),o 12 (.ptrE true (.t 11) (.c (.nilp)))]
def VD:=some [[],[0],[1],[2],[],[4],[3,5],[6]]
def ZN:=[o 4 (.mv bt)]
def ZO:=[m 13 0,o 14 (.nilC (.t 13)),f 15 0 0 14,l 16 15,f 17 4 5 3,l 18 17,f 19 4 5 3,l 20 19,f 21 6 7 3,l 22 21,f 23 5 6 3,l 24 23,f 25 7 8 3,l 26 25,f 27 7 8 3,l 28 27,f 29 2 3 3,l 30 29,o 31 (.bld [.int .i64 0,.int .i64 0,.int .i64 0,.int .i64 0,.int .i64 0,.int .i64 0,.int .i64 0,.bool false,.nils 6] [(0,(.t 20)),(1,(.t 22)),(2,(.t 24)),(3,(.t 26)),(4,(.t 28)),(5,(.t 30)),(6,(.c (.int .i64 (-1))))]),o 32 (.bld [.agg [.int .i64 0,.int .i64 0,.int .i64 0,.int .i64 0,.int .i64 0,.int .i64 0,.int .i64 0,.bool false,.nils 6]] [(0,(.t 31))]),b 33 32,p (.gA (.i .i64) (.t 16) (.t 18) (.t 33))]
def VE:=some [[],[0],[1],[2],[],[4],[],[6],[],[8],[],[10],[],[12],[],[14],[],[16],[7,9,11,13,15,17],[18],[19],[3,5,20,0,1,2,3,4,5,6,7,8,9,10,11,12,13,14,15,16,17,18,19,20]]
def ZP:=[o 4 (.mv T)]
def Ap:aN:=(s (r ZL) (s (s (.bW VD ZM) (.cond (.t 12) (s (r ZN) .ret) .skip)) (s (.bW VE ZO) (s (r ZP) .ret))))
def Kk:List aZ:=[.tmp 4]
theorem R7:bB Tryz.prog Tryz.f173 Ap:=e (by kernel_rfl)
theorem Uj:bC Tryz.prog Tryz.f173 Kk:=e (by kernel_rfl)
theorem Qa:bA Tryz.prog 173:=e (by kernel_rfl)
def ZQ:=[b 3 1,o 4 (.mv bt)]
def ZR:=[m 6 0,o 7 (.nilC (.t 6)),f 8 0 0 7,l 9 8,f 10 4 5 3,l 11 10,o 12 (.lk (.i .i64) (.nilp) false (.t 9) (.t 11)),m 5 12]
def VF:=some [[],[0],[1],[2],[],[4],[3,5],[6,0,1,2,3,4,5,6]]
def ZS:=[m 13 5,o 14 (.ptrE false (.t 13) (.c (.nilp))),m 15 14,dW 16 5 15,on 17 (.call 90 [.t 16]) 15,or 18 15 17,m 19 18,dW 20 5 19,on 21 (.nilC (.t 20)) 19,fn 22 0 0 21 19,fn 23 3 3 22 19,gz 24 23 19,on 25 (.bin .eql (.t 24) (aj 0)) 19,or 26 19 25,m 27 26,dW 28 5 27,on 29 (.nilC (.t 28)) 27,fn 30 0 0 29 27,fn 31 3 3 30 27,gz 32 31 27,fn 33 7 8 3 27,gz 34 33 27,on 35 (.bin .eql (.t 32) (.t 34)) 27,or 36 27 35]
def VG:=some [[],[0],[1],[2],[3,2,2],[2,4],[5,4],[6],[7,6],[8,6],[9,6],[10,6],[11,6],[6,12],[13,6],[14],[15,14],[16,14],[17,14],[18,14],[14],[20,14],[19,21,14],[14,22]]
def ZT:=[o 4 (.mv bt)]
def ZU:=[m 37 5,f 38 7 8 3,l 39 38,o 40 (.nilC (.t 37)),f 41 0 0 40,f 42 3 3 41,p (.bx none (.t 42) (.t 39))]
def ZV:=[o 4 (.mv T)]
def Aq:aN:=(s (r ZQ) (s (.bW VF ZR) (s (s (.bW VG ZS) (.cond (.t 36) (s (r ZT) .ret) .skip)) (s (r ZU) (s (r ZV) .ret)))))
def Kl:List aZ:=[.tmp 4]
theorem R8:bB Tryz.prog Tryz.f174 Aq:=e (by kernel_rfl)
theorem Uk:bC Tryz.prog Tryz.f174 Kl:=e (by kernel_rfl)
theorem Qb:bA Tryz.prog 174:=e (by kernel_rfl)
def ZW:=[b 3 1,o 4 (.mv bt)]
def ZX:=[m 6 0,o 7 (.nilC (.t 6)),f 8 0 0 7,l 9 8,f 10 4 5 3,l 11 10,o 12 (.lk (.i .i64) (.nilp) false (.t 9) (.t 11)),m 5 12]
def VH:=some [[],[0],[1],[2],[],[4],[3,5],[6,0,1,2,3,4,5,6]]
def ZY:=[m 13 5,o 14 (.ptrE false (.t 13) (.c (.nilp)))]
def ZZ:=[o 4 (.mv bt)]
def vN:=[m 15 5,m 16 5,o 17 (.nilC (.t 16)),f 18 0 0 17,f 19 8 8 18,l 20 19,f 21 8 9 3,aA 22 6 21,o 23 (.bs 6 [.t 22]),o 24 (.dq 66 6 48 (.agg [.int .i64 0,.int .i64 0,.int .i64 0,.int .i64 0,.int .i64 0,.int .i64 0]) (.t 20) (.t 23)),o 25 (.nilC (.t 15)),f 26 0 0 25,f 27 8 8 26,p (.bx none (.t 27) (.t 24))]
def VI:=some [[],[],[1],[2],[3],[4],[],[6],[7],[5,8],[0,0,1,2,3,4,5,6,7,8,9],[10,0,1,2,3,4,5,6,7,8,9],[11,0,1,2,3,4,5,6,7,8,9],[12,9,9,0,1,2,3,4,5,6,7,8,9]] -- DRAW BAD
def Z0:=[o 4 (.mv T)]
def Ar:aN:=(s (r ZW) (s (.bW VH ZX) (s (s (r ZY) (.cond (.t 14) (s (r ZZ) .ret) .skip)) (s (.bW VI vN) (s (r Z0) .ret)))))
def Km:List aZ:=[.tmp 4]
theorem R9:bB Tryz.prog Tryz.f175 Ar:=e (by kernel_rfl)
theorem Ul:bC Tryz.prog Tryz.f175 Km:=e (by kernel_rfl)
theorem Qc:bA Tryz.prog 175:=e (by kernel_rfl)
def Z1:=[b 3 1,o 4 (.mv bt)]
def Z2:=[m 6 0,o 7 (.nilC (.t 6)),f 8 0 0 7,l 9 8,f 10 4 5 3,l 11 10,o 12 (.lk (.i .i64) (.nilp) false (.t 9) (.t 11)),m 5 12]
def VJ:=some [[],[0],[1],[2],[],[4],[3,5],[6,0,1,2,3,4,5,6]]
def Z3:=[m 13 5,o 14 (.ptrE false (.t 13) (.c (.nilp)))]
def Z4:=[o 4 (.mv bt)]
def Z5:=[m 15 5,m 16 5,f 17 7 8 3,l 18 17,o 19 (.nilC (.t 15)),f 20 0 0 19,f 21 3 3 20,p (.bx none (.t 21) (.t 18)),o 22 (.nilC (.t 16)),f 23 0 0 22,f 24 7 7 23,p (.bx none (.t 24) T)]
def Z6:=[o 4 (.mv T)]
def As:aN:=(s (r Z1) (s (.bW VJ Z2) (s (s (r Z3) (.cond (.t 14) (s (r Z4) .ret) .skip)) (s (r Z5) (s (r Z6) .ret)))))
def Kn:List aZ:=[.tmp 4]
theorem Sa:bB Tryz.prog Tryz.f176 As:=e (by kernel_rfl)
theorem Um:bC Tryz.prog Tryz.f176 Kn:=e (by kernel_rfl)
theorem Qd:bA Tryz.prog 176:=e (by kernel_rfl)
def Z7:=[b 3 1,o 4 (.mv bt)]
def Z8:=[m 6 0,o 7 (.nilC (.t 6)),f 8 0 0 7,l 9 8,f 10 4 5 3,l 11 10,o 12 (.lk (.i .i64) (.nilp) false (.t 9) (.t 11)),m 5 12]
def VK:=some [[],[0],[1],[2],[],[4],[3,5],[6,0,1,2,3,4,5,6]]
def Z9:=[m 13 5,o 14 (.ptrE false (.t 13) (.c (.nilp))),m 15 14,dW 16 5 15,on 17 (.call 90 [.t 16]) 15,or 18 15 17]
def aaa:=[o 4 (.mv bt)]
def aab:=[m 19 5,f 20 2 3 3,l 21 20,o 22 (.nilC (.t 19)),f 23 0 0 22,f 24 6 6 23,p (.bx none (.t 24) (.t 21))]
def aac:=[o 4 (.mv T)]
def Au:aN:=(s (r Z7) (s (.bW VK Z8) (s (s (r Z9) (.cond (.t 18) (s (r aaa) .ret) .skip)) (s (r aab) (s (r aac) .ret)))))
def Ko:List aZ:=[.tmp 4]
theorem Sb:bB Tryz.prog Tryz.f177 Au:=e (by kernel_rfl)
theorem Un:bC Tryz.prog Tryz.f177 Ko:=e (by kernel_rfl)
theorem Qe:bA Tryz.prog 177:=e (by kernel_rfl)
def Fu:=[l 4 1,o 5 (.len (.t 4)),o 6 (.bin .sub (.t 5) (aj 1)),m 3 6]
def Fv:=[m 7 3,o 8 (.bin .geq (.t 7) (aj 0))]
def Fw:=[m 11 0,m 12 3,l 13 1,m 14 3,o 15 (.is 17 (.t 13) (.t 14)),aA 16 17 15,o 17 (.en (.t 11) [.t 12,.t 16]),no 18 17]
def Fx:=[m 9 3,o 10 (.bin .sub (.t 9) (aj 1)),m 3 10]
def Av:aN:=(s (r Fu) (.block 0 (.loop (s (s (r Fv) (.cond (.t 8) .skip (.exit 0))) (s (.block 1 (s (r Fw) (.cond (.t 18) .ret .skip))) (r Fx))))))
def Kp:List aZ:=[]
theorem Sc:bB Tryz.prog Tryz.f178 Av:=e (by kernel_rfl)
theorem Uo:bC Tryz.prog Tryz.f178 Kp:=e (by kernel_rfl)
theorem Bx:bA Tryz.prog 178:=e (by kernel_rfl)
def Fy:=[b 1 0,o 2 (.mv bt)]
def Fz:=[o 3 (.va 6 1 (.t 1)),o 4 (.call 125 [.t 3,(.c (.func 211 []))]),no 5 4,m 2 5]
def Ax:aN:=(s (r Fy) (s (r Fz) .ret))
def Kr:List aZ:=[.tmp 2]
theorem Se:bB Tryz.prog Tryz.f193 Ax:=e (by kernel_rfl)
theorem Uq:bC Tryz.prog Tryz.f193 Kr:=e (by kernel_rfl)
theorem Qg:bA Tryz.prog 193:=e (by kernel_rfl)
def FA:=[o 2 (.mv bt)]
def FB:=[m 3 0,m 4 0,o 5 (.bin .neq (.t 3) (.t 4)),m 2 5]
def Ay:aN:=(s (r FA) (s (r FB) .ret))
def Ks:List aZ:=[.tmp 2]
theorem Sf:bB Tryz.prog Tryz.f194 Ay:=e (by kernel_rfl)
theorem Ur:bC Tryz.prog Tryz.f194 Ks:=e (by kernel_rfl)
theorem Qh:bA Tryz.prog 194:=e (by kernel_rfl)
def FC:=[aV 4 0]
def FD:=[m 6 0,o 7 (.len (.t 6)),aV 8 0]
def FE:=[lt 9 8 7]
def FF:=[m 10 8,m 5 10]
def FG:=[m 11 1,m 12 0,m 13 5,o 14 (.is 7 (.t 12) (.t 13)),aA 15 7 14,o 16 (.en (.t 11) [.t 15])]
def FH:=[m 17 5,m 4 17]
def FI:=[ad 18 8 1,m 8 18]
def FJ:=[aV 4 (-1)]
def Az:aN:=(s (r FC) (s (s (r FD) (.block 0 (.loop (s (r FE) (s (.cond (.t 9) .skip (.exit 0)) (s (.block 1 (s (r FF) (s (r FG) (.cond (.t 16) (s (r FH) .ret) .skip)))) (r FI))))))) (s (r FJ) .ret)))
def Kt:List aZ:=[.tmp 4]
theorem Sg:bB Tryz.prog Tryz.f195 Az:=e (by kernel_rfl)
theorem Us:bC Tryz.prog Tryz.f195 Kt:=e (by kernel_rfl)
theorem Qi:bA Tryz.prog 195:=e (by kernel_rfl)
def FK:=[o 4 (.mv bt)]
def FL:=[m 5 0,m 6 1,o 7 (.bin .and (.t 5) (.t 6)),o 8 (.bin .neq (.t 7) (aj 0)),m 4 8]
def AA:aN:=(s (r FK) (s (r FL) .ret))
def Ku:List aZ:=[.tmp 4]
theorem Sh:bB Tryz.prog Tryz.f196 AA:=e (by kernel_rfl)
theorem Ut:bC Tryz.prog Tryz.f196 Ku:=e (by kernel_rfl)
theorem Qj:bA Tryz.prog 196:=e (by kernel_rfl)
def FM:=[aV 2 0]
def FN:=[aV 3 0]
def FO:=[aV 5 0]
def FP:=[o 6 (.bin .lss (.t 5) (aj 6))]
def FQ:=[m 7 5,m 4 7]
def FR:=[m 8 0,m 9 4,o 10 (.en (.t 8) [.t 9]),no 11 10]
def FT:=[m 12 3,ad 13 12 1,m 3 13]
def vO:=[ad 14 5 1,m 5 14]
def FU:=[m 15 3,m 2 15]
def AB:aN:=(s (r FM) (s (r FN) (s (s (r FO) (.block 0 (.loop (s (r FP) (s (.cond (.t 6) .skip (.exit 0)) (s (.block 1 (s (r FQ) (s (r FR) (.cond (.t 11) (r FT) .skip)))) (r vO))))))) (s (r FU) .ret))))
def Kv:List aZ:=[.tmp 2]
theorem Si:bB Tryz.prog Tryz.f197 AB:=e (by kernel_rfl)
theorem Uu:bC Tryz.prog Tryz.f197 Kv:=e (by kernel_rfl)
theorem Qk:bA Tryz.prog 197:=e (by kernel_rfl)
def FV:=[o 6 (.mv bt)]
def FW:=[l 7 1,aA 8 5 2,aA 9 6 3,m 10 0,o 11 (.call 199 [.t 8,.t 9,.t 10]),aA 12 5 2,aA 13 6 4,m 14 0,o 15 (.call 199 [.t 12,.t 13,.t 14]),o 16 (.en (.t 7) [.t 11,.t 15]),m 6 16]
def VM:=some [[],[],[],[],[1,2,3],[],[],[],[5,6,7,4],[0,4,8,8],[9,9,0,1,2,3,4,5,6,7,8,9]]
def AD:aN:=(s (r FV) (s (.bW VM FW) .ret))
def Kx:List aZ:=[.tmp 6]
theorem Sj:bB Tryz.prog Tryz.f198 AD:=e (by kernel_rfl)
theorem Uv:bC Tryz.prog Tryz.f198 Kx:=e (by kernel_rfl)
theorem Ql:bA Tryz.prog 198:=e (by kernel_rfl)
def FX:=[b 3 0,b 4 1,aV 6 0]
def FY:=[m 7 2,o 8 (.ia 6 1 (.t 4) (.t 7)),l 9 8,o 10 (.ia 5 1 (.t 3) (.t 9)),l 11 10,m 6 11]
def AE:aN:=(s (r FX) (s (r FY) .ret))
def Ky:List aZ:=[.tmp 6]
theorem Sk:bB Tryz.prog Tryz.f199 AE:=e (by kernel_rfl)
theorem Uw:bC Tryz.prog Tryz.f199 Ky:=e (by kernel_rfl)
theorem Qm:bA Tryz.prog 199:=e (by kernel_rfl)
def vP:=[o 4 (.mv (.c (.nils 7)))]
def vQ:=[m 8 0,m 9 1,o 10 (.call 195 [.t 8,.t 9]),m 5 10]
def r7:=[m 11 5,o 12 (.bin .eql (.t 11) (.c (.int .i64 (-1))))]
def vS:=[m 13 0,m 4 13]
def F1:=[m 14 5,ad 15 14 1,m 6 15]
def F2:=[m 16 6,m 17 0,o 18 (.len (.t 17)),lt 19 16 18]
def F3:=[m 22 0,m 23 6,o 24 (.is 7 (.t 22) (.t 23)),aA 25 7 24,o 7 (.alloc (.agg [.int .i64 0,.agg [.int .i64 0,.int .i64 0,.int .i64 0,.int .i64 0,.int .i64 0,.int .i64 0]])),p (.bx (some 7) (.t 7) (.t 25))]
def F4:=[m 26 1,aA 27 7 7,o 28 (.en (.t 26) [.t 27]),no 29 28]
def F5:=[m 30 0,m 31 5,aA 32 7 7,o 33 (.is 7 (.t 30) (.t 31)),p (.bx (some 7) (.t 33) (.t 32))]
def F6:=[m 34 5,ad 35 34 1,m 5 35]
def vR:=[m 20 6,ad 21 20 1,m 6 21]
def FZ:=[m 36 0,m 37 5,o 38 (.sl 7 (.t 36) (some (.t 37)) none none),p (.jb 7 (.agg [.int .i64 0,.agg [.int .i64 0,.int .i64 0,.int .i64 0,.int .i64 0,.int .i64 0,.int .i64 0]]) (.t 38))]
def F0:=[m 39 0,m 40 5,o 41 (.sl 7 (.t 39) none (some (.t 40)) none),m 4 41]
def uw:aN:=(s (r vP) (s (r vQ) (s (s (r r7) (.cond (.t 12) (s (r vS) .ret) .skip)) (s (s (r F1) (.block 0 (.loop (s (s (r F2) (.cond (.t 19) .skip (.exit 0))) (s (.block 1 (s (r F3) (s (r F4) (.cond (.t 29) (s (r F5) (r F6)) .skip)))) (r vR)))))) (s (r FZ) (s (r F0) .ret))))))
def xQ:List aZ:=[.tmp 4]
theorem BF:bB Tryz.prog Tryz.f200 uw:=e (by kernel_rfl)
theorem BQ:bC Tryz.prog Tryz.f200 xQ:=e (by kernel_rfl)
theorem By:bA Tryz.prog 200:=e (by kernel_rfl)
def F7:=[b 3 0,o 4 (.mv bt)]
def F8:=[f 5 0 0 1,aA 6 5 5,f 7 1 1 3,aA 8 6 7,aA 9 6 2,o 10 (.call 202 [.t 6,.t 8,.t 9]),f 11 1 5 1,l 12 11,o 13 (.bin .gtr (.t 10) (.t 12)),m 4 13]
def VN:=some [[],[0],[],[2],[],[1,3,4],[],[6],[5,7],[8,5,0,1,2,3,4,5,6,7,8]]
def AG:aN:=(s (r F7) (s (.bW VN F8) .ret))
def KA:List aZ:=[.tmp 4]
theorem Sm:bB Tryz.prog Tryz.f201 AG:=e (by kernel_rfl)
theorem Uy:bC Tryz.prog Tryz.f201 KA:=e (by kernel_rfl)
theorem Qo:bA Tryz.prog 201:=e (by kernel_rfl)
def F9:=[b 3 0,b 4 1,b 5 2,aV 6 0]
def Ga:=[o 7 (.alloc (.de)),p (.bx none (.t 7) (.c (.func 196 [])))]
def Gb:=[o 8 (.mk 212 [.t 7,.t 3,.t 4,.t 5]),o 9 (.call 197 [.t 8]),m 6 9]
def AH:aN:=(s (r F9) (s (r Ga) (s (r Gb) .ret)))
def KB:List aZ:=[.tmp 6]
theorem Sn:bB Tryz.prog Tryz.f202 AH:=e (by kernel_rfl)
theorem Uz:bC Tryz.prog Tryz.f202 KB:=e (by kernel_rfl)
theorem Qp:bA Tryz.prog 202:=e (by kernel_rfl)
def vT:=[m 10 1,ad 11 10 1,m 8 11]
def Gc:=[m 12 8,m 13 2,lt 14 12 13]
def Gd:=[m 17 8,m 9 17]
def aaq:=[m 18 9,m 19 1,o 20 (.bin .gtr (.t 18) (.t 19)),m 21 20,cD 22 3 21,cD 23 0 21,cD 24 9 21,bE 25 (.is 1 (.t 23) (.t 24)) 21,eg 26 25 21,cD 27 0 21,cD 28 9 21,bE 29 (.bin .sub (.t 28) (aj 1)) 21,bE 30 (.is 1 (.t 27) (.t 29)) 21,eg 31 30 21,bE 32 (.en (.t 22) [.t 26,.t 31]) 21,bE 33 (.bin .lss (.t 32) (aj 0)) 21,and 34 21 33]
def VO:=some [[],[],[0,1],[2],[3],[3],[3],[5,6,3],[7,3],[3],[3],[10,3],[9,11,3],[12,3],[4,8,13,3,3],[14,3],[3,15]]
def aar:=[m 37 0,m 38 9,m 39 0,m 40 9,o 41 (.bin .sub (.t 40) (aj 1)),m 42 0,m 43 9,o 44 (.bin .sub (.t 43) (aj 1)),o 45 (.is 1 (.t 42) (.t 44)),l 46 45,m 47 0,m 48 9,o 49 (.is 1 (.t 47) (.t 48)),l 50 49,o 51 (.is 1 (.t 37) (.t 38)),p (.bx none (.t 51) (.t 46)),o 52 (.is 1 (.t 39) (.t 41)),p (.bx none (.t 52) (.t 50))]
def VP:=some [[],[],[],[],[3],[],[],[6],[5,7],[8],[],[],[10,11],[12],[0,1,0,1,5,6,7,8,9,13],[14,9,0,1,5,6,7,8,9,13],[2,4,0,1,2,3,4,5,6,7,8,9,10,11,12,13,14,15],[16,13,15,0,1,2,3,4,5,6,7,8,9,10,11,12,13,14,15]]
def aas:=[m 35 9,o 36 (.bin .sub (.t 35) (aj 1)),m 9 36]
def aat:=[m 15 8,ad 16 15 1,m 8 16]
def ux:aN:=(s (r vT) (.block 0 (.loop (s (s (r Gc) (.cond (.t 14) .skip (.exit 0))) (s (.block 1 (s (r Gd) (.block 2 (.loop (s (s (.bW VO aaq) (.cond (.t 34) .skip (.exit 2))) (s (.block 3 (.bW VP aar)) (r aas))))))) (r aat))))))
def xR:List aZ:=[]
theorem BG:bB Tryz.prog Tryz.f203 ux:=e (by kernel_rfl)
theorem BR:bC Tryz.prog Tryz.f203 xR:=e (by kernel_rfl)
theorem Bz:bA Tryz.prog 203:=e (by kernel_rfl)
def r8:=[m 25 2,m 26 1,o 27 (.bin .sub (.t 25) (.t 26)),o 28 (.bin .eql (.t 27) (aj 1))]
def Ge:=[m 29 2,m 10 29]
def Gi:=[m 30 3,m 11 30]
def Gn:=[m 31 10,m 32 11,lt 33 31 32]
def aaN:=[m 34 10,m 35 11,o 36 (.bin .add (.t 34) (.t 35)),o 37 (.conv .u64 (.t 36)),o 38 (.bin .shr (.t 37) (.c (.int .u64 1))),o 39 (.conv .i64 (.t 38)),m 12 39]
def aaT:=[m 40 4,m 41 0,m 42 12,o 43 (.is 1 (.t 41) (.t 42)),l 44 43,m 45 0,m 46 1,o 47 (.is 1 (.t 45) (.t 46)),l 48 47,o 49 (.en (.t 40) [.t 44,.t 48]),o 50 (.bin .lss (.t 49) (aj 0))]
def VU:=some [[],[],[],[1,2],[3],[],[],[5,6],[7],[0,4,8],[9]]
def aaU:=[m 51 12,ad 52 51 1,m 10 52]
def aaV:=[m 53 12,m 11 53]
def Gs:=[m 54 1,m 13 54]
def aaW:=[m 55 13,m 56 10,o 57 (.bin .sub (.t 56) (aj 1)),lt 58 55 57]
def aau:=[m 61 0,m 62 13,m 63 0,m 64 13,ad 65 64 1,m 66 0,m 67 13,ad 68 67 1,o 69 (.is 1 (.t 66) (.t 68)),l 70 69,m 71 0,m 72 13,o 73 (.is 1 (.t 71) (.t 72)),l 74 73,o 75 (.is 1 (.t 61) (.t 62)),p (.bx none (.t 75) (.t 70)),o 76 (.is 1 (.t 63) (.t 65)),p (.bx none (.t 76) (.t 74))]
def VQ:=some [[],[],[],[],[3],[],[],[6],[5,7],[8],[],[],[10,11],[12],[0,1,0,1,5,6,7,8,9,13],[14,9,0,1,5,6,7,8,9,13],[2,4,0,1,2,3,4,5,6,7,8,9,10,11,12,13,14,15],[16,13,15,0,1,2,3,4,5,6,7,8,9,10,11,12,13,14,15]]
def aav:=[m 59 13,ad 60 59 1,m 13 60]
def vU:=[m 77 3,m 78 2,o 79 (.bin .sub (.t 77) (.t 78)),o 80 (.bin .eql (.t 79) (aj 1))]
def Gf:=[m 81 1,m 14 81]
def Gg:=[m 82 2,m 15 82]
def Gh:=[m 83 14,m 84 15,lt 85 83 84]
def aaw:=[m 86 14,m 87 15,o 88 (.bin .add (.t 86) (.t 87)),o 89 (.conv .u64 (.t 88)),o 90 (.bin .shr (.t 89) (.c (.int .u64 1))),o 91 (.conv .i64 (.t 90)),m 16 91]
def aax:=[m 92 4,m 93 0,m 94 2,o 95 (.is 1 (.t 93) (.t 94)),l 96 95,m 97 0,m 98 16,o 99 (.is 1 (.t 97) (.t 98)),l 100 99,o 101 (.en (.t 92) [.t 96,.t 100]),o 102 (.bin .lss (.t 101) (aj 0)),no 103 102]
def VR:=some [[],[],[],[1,2],[3],[],[],[5,6],[7],[0,4,8],[9],[10]]
def aay:=[m 104 16,ad 105 104 1,m 14 105]
def aaz:=[m 106 16,m 15 106]
def Gj:=[m 107 2,m 17 107]
def aaA:=[m 108 17,m 109 14,o 110 (.bin .gtr (.t 108) (.t 109))]
def aaB:=[m 113 0,m 114 17,m 115 0,m 116 17,o 117 (.bin .sub (.t 116) (aj 1)),m 118 0,m 119 17,o 120 (.bin .sub (.t 119) (aj 1)),o 121 (.is 1 (.t 118) (.t 120)),l 122 121,m 123 0,m 124 17,o 125 (.is 1 (.t 123) (.t 124)),l 126 125,o 127 (.is 1 (.t 113) (.t 114)),p (.bx none (.t 127) (.t 122)),o 128 (.is 1 (.t 115) (.t 117)),p (.bx none (.t 128) (.t 126))]
def VS:=some [[],[],[],[],[3],[],[],[6],[5,7],[8],[],[],[10,11],[12],[0,1,0,1,5,6,7,8,9,13],[14,9,0,1,5,6,7,8,9,13],[2,4,0,1,2,3,4,5,6,7,8,9,10,11,12,13,14,15],[16,13,15,0,1,2,3,4,5,6,7,8,9,10,11,12,13,14,15]]
def aaC:=[m 111 17,o 112 (.bin .sub (.t 111) (aj 1)),m 17 112]
def Gk:=[m 129 1,m 130 3,o 131 (.bin .add (.t 129) (.t 130)),o 132 (.conv .u64 (.t 131)),o 133 (.bin .shr (.t 132) (.c (.int .u64 1))),o 134 (.conv .i64 (.t 133)),m 18 134]
def Gl:=[m 135 18,m 136 2,o 137 (.bin .add (.t 135) (.t 136)),m 19 137]
def Gm:=[aV 20 0,aV 21 0]
def aaD:=[m 138 2,m 139 18,o 140 (.bin .gtr (.t 138) (.t 139))]
def aaE:=[m 141 19,m 142 3,o 143 (.bin .sub (.t 141) (.t 142)),m 20 143]
def aaF:=[m 144 18,m 21 144]
def aaG:=[m 145 1,m 20 145]
def aaH:=[m 146 2,m 21 146]
def Gp:=[m 147 19,o 148 (.bin .sub (.t 147) (aj 1)),m 22 148]
def Gq:=[m 149 20,m 150 21,lt 151 149 150]
def aaI:=[m 152 20,m 153 21,o 154 (.bin .add (.t 152) (.t 153)),o 155 (.conv .u64 (.t 154)),o 156 (.bin .shr (.t 155) (.c (.int .u64 1))),o 157 (.conv .i64 (.t 156)),m 23 157]
def aaJ:=[m 158 4,m 159 0,m 160 22,m 161 23,o 162 (.bin .sub (.t 160) (.t 161)),o 163 (.is 1 (.t 159) (.t 162)),l 164 163,m 165 0,m 166 23,o 167 (.is 1 (.t 165) (.t 166)),l 168 167,o 169 (.en (.t 158) [.t 164,.t 168]),o 170 (.bin .lss (.t 169) (aj 0)),no 171 170]
def VT:=some [[],[],[],[],[2,3],[1,4],[5],[],[],[7,8],[9],[0,6,10],[11],[12]]
def aaK:=[m 172 23,ad 173 172 1,m 20 173]
def aaL:=[m 174 23,m 21 174]
def Gr:=[m 175 19,m 176 20,o 177 (.bin .sub (.t 175) (.t 176)),m 24 177]
def aaM:=[m 178 20,m 179 2,lt 180 178 179,m 181 180,cD 182 2 181,cD 183 24 181,bE 184 (.bin .lss (.t 182) (.t 183)) 181,and 185 181 184]
def aaO:=[m 186 0,m 187 20,m 188 2,m 189 24,m 190 4,o 191 (.call 213 [.t 186,.t 187,.t 188,.t 189,.t 190])]
def aaP:=[m 192 1,m 193 20,lt 194 192 193,m 195 194,cD 196 20 195,cD 197 18 195,bE 198 (.bin .lss (.t 196) (.t 197)) 195,and 199 195 198]
def aaQ:=[m 200 0,m 201 1,m 202 20,m 203 18,m 204 4,o 205 (.call 204 [.t 200,.t 201,.t 202,.t 203,.t 204])]
def aaR:=[m 206 18,m 207 24,lt 208 206 207,m 209 208,cD 210 24 209,cD 211 3 209,bE 212 (.bin .lss (.t 210) (.t 211)) 209,and 213 209 212]
def aaS:=[m 214 0,m 215 18,m 216 24,m 217 3,m 218 4,o 219 (.call 204 [.t 214,.t 215,.t 216,.t 217,.t 218])]
def rD:aN:=(s (s (r r8) (.cond (.t 28) (s (r Ge) (s (r Gi) (s (.block 0 (.loop (s (s (r Gn) (.cond (.t 33) .skip (.exit 0))) (.block 1 (s (r aaN) (s (.bW VU aaT) (.cond (.t 50) (r aaU) (r aaV)))))))) (s (s (r Gs) (.block 2 (.loop (s (s (r aaW) (.cond (.t 58) .skip (.exit 2))) (s (.block 3 (.bW VQ aau)) (r aav)))))) .ret)))) .skip)) (s (s (r vU) (.cond (.t 80) (s (r Gf) (s (r Gg) (s (.block 4 (.loop (s (s (r Gh) (.cond (.t 85) .skip (.exit 4))) (.block 5 (s (r aaw) (s (.bW VR aax) (.cond (.t 103) (r aay) (r aaz)))))))) (s (s (r Gj) (.block 6 (.loop (s (s (r aaA) (.cond (.t 110) .skip (.exit 6))) (s (.block 7 (.bW VS aaB)) (r aaC)))))) .ret)))) .skip)) (s (r Gk) (s (r Gl) (s (r Gm) (s (s (r aaD) (.cond (.t 140) (s (r aaE) (r aaF)) (s (r aaG) (r aaH)))) (s (r Gp) (s (.block 8 (.loop (s (s (r Gq) (.cond (.t 151) .skip (.exit 8))) (.block 9 (s (r aaI) (s (.bW VT aaJ) (.cond (.t 171) (r aaK) (r aaL)))))))) (s (r Gr) (s (s (r aaM) (.cond (.t 185) (r aaO) .skip)) (s (s (r aaP) (.cond (.t 199) (r aaQ) .skip)) (s (r aaR) (.cond (.t 213) (r aaS) .skip)))))))))))))
def ta:List aZ:=[]
theorem uE:bB Tryz.prog Tryz.f204 rD:=e (by kernel_rfl)
theorem uP:bC Tryz.prog Tryz.f204 ta:=e (by kernel_rfl)
theorem uB:bA Tryz.prog 204:=e (by kernel_rfl)
def GC:=[o 2 (.mv bt)]
def GD:=[m 3 0,o 4 (.bin .eql (.t 3) (aj 0)),m 5 4,dW 6 0 5,on 7 (.call 160 [.t 6]) 5,on 8 (.un .not (.t 7)) 5,or 9 5 8,m 2 9]
def AJ:aN:=(s (r GC) (s (r GD) .ret))
def KD:List aZ:=[.tmp 2]
theorem Sq:bB Tryz.prog Tryz.f211 AJ:=e (by kernel_rfl)
theorem UB:bC Tryz.prog Tryz.f211 KD:=e (by kernel_rfl)
theorem Qr:bA Tryz.prog 211:=e (by kernel_rfl)
def GF:=[o 6 (.mv bt)]
def GG:=[l 7 1,aA 8 5 2,aA 9 6 3,m 10 0,o 11 (.call 199 [.t 8,.t 9,.t 10]),m 12 0,o 13 (.ia 6 1 (.t 4) (.t 12)),l 14 13,o 15 (.en (.t 7) [.t 11,.t 14]),m 6 15]
def VW:=some [[],[],[],[],[1,2,3],[],[5],[6],[0,4,7,4],[8,8,0,1,2,3,4,5,6,7,8]]
def AK:aN:=(s (r GF) (s (.bW VW GG) .ret))
def KE:List aZ:=[.tmp 6]
theorem Sr:bB Tryz.prog Tryz.f212 AK:=e (by kernel_rfl)
theorem UC:bC Tryz.prog Tryz.f212 KE:=e (by kernel_rfl)
theorem Qs:bA Tryz.prog 212:=e (by kernel_rfl)
def GH:=[m 12 2,m 13 1,o 14 (.bin .sub (.t 12) (.t 13)),m 10 14]
def GI:=[m 15 3,m 16 2,o 17 (.bin .sub (.t 15) (.t 16)),m 11 17]
def GJ:=[m 18 10,m 19 11,o 20 (.bin .neq (.t 18) (.t 19))]
def GK:=[m 21 10,m 22 11,o 23 (.bin .gtr (.t 21) (.t 22))]
def GL:=[m 24 0,m 25 2,m 26 10,o 27 (.bin .sub (.t 25) (.t 26)),m 28 2,m 29 11,m 30 4,o 31 (.call 216 [.t 24,.t 27,.t 28,.t 29,.t 30])]
def GM:=[m 32 10,m 33 11,o 34 (.bin .sub (.t 32) (.t 33)),m 10 34]
def GN:=[m 35 0,m 36 2,m 37 10,o 38 (.bin .sub (.t 36) (.t 37)),m 39 2,m 40 11,o 41 (.bin .add (.t 39) (.t 40)),m 42 10,o 43 (.bin .sub (.t 41) (.t 42)),m 44 10,m 45 4,o 46 (.call 216 [.t 35,.t 38,.t 43,.t 44,.t 45])]
def GO:=[m 47 11,m 48 10,o 49 (.bin .sub (.t 47) (.t 48)),m 11 49]
def GP:=[m 50 0,m 51 2,m 52 10,o 53 (.bin .sub (.t 51) (.t 52)),m 54 2,m 55 10,m 56 4,o 57 (.call 216 [.t 50,.t 53,.t 54,.t 55,.t 56])]
def AL:aN:=(s (r GH) (s (r GI) (s (.block 0 (.loop (s (s (r GJ) (.cond (.t 20) .skip (.exit 0))) (.block 1 (s (r GK) (.cond (.t 23) (s (r GL) (r GM)) (s (r GN) (r GO)))))))) (r GP))))
def KF:List aZ:=[]
theorem St:bB Tryz.prog Tryz.f213 AL:=e (by kernel_rfl)
theorem UD:bC Tryz.prog Tryz.f213 KF:=e (by kernel_rfl)
theorem Qt:bA Tryz.prog 213:=e (by kernel_rfl)
def GQ:=[aV 10 0]
def aaX:=[m 11 10,m 12 3,lt 13 11 12]
def aaY:=[m 16 0,m 17 1,m 18 10,o 19 (.bin .add (.t 17) (.t 18)),m 20 0,m 21 2,m 22 10,o 23 (.bin .add (.t 21) (.t 22)),m 24 0,m 25 2,m 26 10,o 27 (.bin .add (.t 25) (.t 26)),o 28 (.is 1 (.t 24) (.t 27)),l 29 28,m 30 0,m 31 1,m 32 10,o 33 (.bin .add (.t 31) (.t 32)),o 34 (.is 1 (.t 30) (.t 33)),l 35 34,o 36 (.is 1 (.t 16) (.t 19)),p (.bx none (.t 36) (.t 29)),o 37 (.is 1 (.t 20) (.t 23)),p (.bx none (.t 37) (.t 35))]
def VX:=some [[],[],[],[1,2],[],[],[],[5,6],[],[],[],[9,10],[8,11],[12],[],[],[],[15,16],[14,17],[18],[0,3,0,1,2,3,8,9,10,11,12,13,19],[20,13,0,1,2,3,8,9,10,11,12,13,19],[4,7,0,1,2,3,4,5,6,7,8,9,10,11,12,13,14,15,16,17,18,19,20,21],[22,19,21,0,1,2,3,4,5,6,7,8,9,10,11,12,13,14,15,16,17,18,19,20,21]]
def aaZ:=[m 14 10,ad 15 14 1,m 10 15]
def AM:aN:=(s (r GQ) (.block 0 (.loop (s (s (r aaX) (.cond (.t 13) .skip (.exit 0))) (s (.block 1 (.bW VX aaY)) (r aaZ))))))
def KG:List aZ:=[]
theorem Su:bB Tryz.prog Tryz.f216 AM:=e (by kernel_rfl)
theorem UE:bC Tryz.prog Tryz.f216 KG:=e (by kernel_rfl)
theorem Qu:bA Tryz.prog 216:=e (by kernel_rfl)
end Go.Proofs.YtcldiigclhgafaaGreat
namespace Go.Proofs.YtcldiigclhgafaaGreat
open Go Go.Abs
open Go.Abs.Enc (enc)
theorem rh(n lo hi:Int):az Tryz.prog 94 [enc n,enc lo,enc hi] (enc (decide (lo≤n)&&decide (n≤hi))):=by
 refine az.bn Tryz.func94 Q7 S7 Vh (Nat.le_of_ble_eq_true rfl) (fun hwf W0 D0 E1 =>?_)
 simp only[Bq,Li,bg,Nat.zero_add,Nat.reduceAdd]
 refine .ar (by decide +kernel) fun K hK =>?_
 simp only[HJ,ab,simprocAttr]
 refine .done (hK _ ?_);clear hK K
 refine .ar (by decide +kernel) fun K hK =>?_
 simp only[HK,ab,simprocAttr]
 refine .guard (fun h =>?_) (fun h =>?_)
 ·simp only[ab,simprocAttr,h]
  refine .done (hK _ ?_);clear hK K
  refine U.ret ?_
  simp only[ab,simprocAttr]
  simp_all
 ·simp only[ab,simprocAttr,h]
  refine .done (hK _ ?_);clear hK K
  refine U.ret ?_
  simp only[ab,simprocAttr]
  simp at h
  simp;omega
end Go.Proofs.YtcldiigclhgafaaGreat
