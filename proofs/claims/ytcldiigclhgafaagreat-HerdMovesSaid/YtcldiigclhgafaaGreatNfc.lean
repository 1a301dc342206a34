/-
  A part of the proof that the law HerdMoves returns true for every input; conditions: none beyond the statement's own. (part 3 of 7)
-/
import Derived.RangeFuncIn
import Derived.Laws.Externs
import Derived.ProofKit
import Derived.SizedLaws
import Derived.Test.YtcldiigclhgafaaGreatChecked
import Derived.KernelRfl
import Derived.Test.YtcldiigclhgafaaGreatNfb
set_option linter.unusedSimpArgs false
set_option linter.unusedVariables false
set_option maxHeartbeats 16000000
set_option maxRecDepth 100000
namespace Go.Abs
open Go Go.RowKit
open Enc (enc)
mutual
theorem js{p q:Nat→Bool}(h:∀ n,p n=true→q n=true):∀ x:I,x.only p=true→x.only q=true
 | .agg fs,hx | .tuple fs,hx=>by simp only[I.only] at *;exact iT h fs hx
 | .slice _ es,hx=>by simp only[I.only] at *;exact iT h es hx
 | .ref x,hx=>by simp only[I.only] at *;exact js h x hx
 | .func _ caps,hx=>by simp only[I.only] at *;exact iT h caps hx
 | .iface _ v,hx=>by simp only[I.only] at *;exact js h v hx
 | .ptr _ _,hx | .own _ _,hx | .view _ _ _ _ _,hx | .mref _,hx | .dE _,hx=>by simp only[I.only] at *;exact h _ hx
 | .c6 ks vs,hx=>by simp only[I.only,zz4] at *;exact ⟨iT h ks hx.1,iT h vs hx.2⟩
 | .bool _,_ | .int _ _,_ | .c8 _,_ | .nilp,_ | .dv,_ | .ea,_ | .raw _,_ | .nils _,_ | .c0 _,_ | .undef,_ | .dg,_=>by simp[I.only]
theorem iT{p q:Nat→Bool}(h:∀ n,p n=true→q n=true):∀ xs:List I,I.bW p xs=true→I.bW q xs=true
 | [],_=>rfl
 |x::xs,hx=>by
  simp only[I.bW,zz4] at *;exact ⟨js h x hx.1,iT h xs hx.2⟩
end
theorem ah.js{p q:Nat→Bool}(h:∀ n,p n=true→q n=true)(x:ah)(hx:x.only p=true):x.only q=true:=by
 cases x with
 |box y=>simp only[ah.only] at *;exact Abs.js h y hx
 |b5 T sz es=>simp only[ah.only] at *;exact iT h es hx
 |dT o=>rfl
 |c5 T xs=>rfl
 |cB ks vs=>simp only[ah.only,zz4] at *;exact ⟨iT h ks hx.1,iT h vs hx.2⟩
 |it ks vs left cur=>simp only[ah.only,zz4] at *;exact ⟨iT h ks hx.1,iT h vs hx.2⟩
theorem KS{x:I}(h:x.bu=true):x.cu=true:=by
 cases x <;>first | rfl | simp[I.bu] at h
theorem vv{aD:Bool}{A0:ae}{ρ:List (Nat×Nat)}{os:List (Nat×ah)} : ∀ xs:List I,I.b6 xs=true→jF aD A0 ρ os xs xs
 | [],_=>trivial
 |x::xs,h=>by
  simp only[I.b6,zz4] at h;exact ⟨.inl ⟨(rQ _ x h.1).symm,kd _ x h.1,KS h.1⟩,vv xs h.2⟩
structure fH (os os':List (Nat×ah)):Prop where
 same:∀ m,al os' m=al os m
 ok:∀ m x,ak os' m=some x→x.only (al os')=true∧x.eZ=true
 oI:∀ m,al os m=true→1000000≤m
def vi(P:Program)(g:FuncId)(caps:List I)(N:Nat)(item:Nat→List I):Prop :=
 ∀ (Y:Value→List I→List (Nat×ah)→cR→Prop) (v:Value) (aj:Nat→List (Nat×ah)→Prop) (Ix:List (Nat×ah)→Prop) (os:List (Nat×ah)),v.oneCell'=true →
  (∀ k os' post,k<N→aj k os'→(∀ r os2,(r=.bool true∧aj (k+1) os2)∨(r=.bool false∧Ix os2)→post r os2)→Y v (item k) os' post) →
  (∀ k os',aj k os'→fH os os')→(∀ os',Ix os'→fH os os')→aj 0 os→kQ P g Y (.raw v::caps) os (fun r os'=>r=.tuple []∧(aj N os'∨Ix os'))
def dP(o:Obj)(os:List (Nat×ah)):List (Nat×ah):=(1999999,.dT o)::os
theorem lY(o:Obj)(os:List (Nat×ah))(m:Nat):al (dP o os) m=(decide (m=1999999)||al os m):=by
 simp only[dP,al,ak];by_cases h:m=1999999 <;>simp[h]
theorem pY(o:Obj)(os:List (Nat×ah))(m:Nat):ak (dP o os) m=if m=1999999 then some (.dT o) else ak os m:=rfl
theorem fH.dP{os os':List (Nat×ah)}(h:fH os os')(o o':Obj):fH (dP o os) (dP o' os'):=by
 refine ⟨fun m=>by rw[lY,lY,h.same],fun m x hx =>?_,fun m hm =>?_⟩
 ·rw[pY] at hx;split at hx
  ·cases hx;exact ⟨rfl,rfl⟩
  ·obtain ⟨h1,h2⟩:=h.ok m x hx;exact ⟨x.js (fun n hn=>by rw[lY,hn];simp) h1,h2⟩
 ·rw[lY] at hm;simp only[Bool.or_eq_true,decide_eq_true_eq] at hm;rcases hm with rfl | hm
  ·decide
  ·exact h.oI m hm
def rN:List Nat→List I→List (Nat×I)→List (Nat×I)
 |p::ps,v::vs,ts=>rN ps vs ((p,v)::ts)
 |_,_,ts=>ts
def ni(ρ:List (Nat×Nat))(p:Nat→Bool)(ts:List (Nat×I)):List (Nat×I)→Prop
 | []=>True
 |(k,v)::r=>bQ ts k=v.aQ (bJ ρ)∧v.only p=true∧ni ρ p ts r
theorem OM{ρ:List (Nat×Nat)}{p:Nat→Bool}{ts:List (Nat×I)} : ∀ {tsR:List (Nat×I)},ni ρ p ts tsR→∀ k,bQ tsR k=.dg∨(bQ ts k=(bQ tsR k).aQ (bJ ρ)∧(bQ tsR k).only p=true)
 | [],_,k=>.inl rfl
 |(j,v)::r,h,k=>by
  simp only[ni] at h;simp only[bQ];split
  ·rename_i hk;subst hk;exact .inr ⟨h.1,h.2.1⟩
  ·exact OM h.2.2 k
section
variable {c:cT} {a:Act} {w:World} {D:aV} {E:a6}
theorem aW.zB{A:ae}(h:aW c A a w D E){n b:Nat}{o o':Obj}(hn:A.o n=some (.dT o))(aA:E n=some (.op b))(ho:pT o'=true):aW c (A.aR n (.dT o')) a (w.putObj b o') D E:=by
 have hob:=h.bV n;rw[hn] at hob;obtain ⟨b',k1,k2,k3,k4,k5⟩:=hob;rw[aA] at k1;cases k1;have hnc:o.isCells=false:=by cases o <;>first | rfl | cases k4
 have hlt:b<w.heap.size:=gu k3;have hl:dV w D E (w.putObj b o') D E:=⟨fun _ _ h=>h,fun b1 o1 v _ hv=>vQ k3 hnc hv,fun _ _ _ h=>h,fun _ aI l h=>⟨aI,l,h,zz9 _,fun _=>rfl⟩,fun _ _ h=>h,fun _ _ h=>h,fun b1 es ck hd hm=>(World.putObj_heap_other (fun e1=>k5 0 (by rw[←e1];exact hd))).trans hm⟩
 refine ⟨h.sz,h.eW.mono fun B _ hB=>(World.putObj_heap_other (fun e=>by rw[e,k3] at hB;cases hB;cases k4)).trans hB,fun t=>aY.bM hl (h.en t),h.dW.trans ⟨rfl,rfl,rfl,by simp,fun k hk=>World.putObj_heap_other (fun e=>hk (e▸k2))⟩,h.dc,
  fun b1 o1 hd=>by have:=h.dm b1 o1 hd;simpa using this,fun m =>?_,h.c4,h.dZ,h.ff,h.cQ,h.fh,h.ly hl⟩
 simp only[ae.aR];by_cases hm:m=n
 ·subst hm;simp only[if_true,de];exact ⟨b,aA,k2,World.putObj_heap_same hlt,ho,k5⟩
 ·simp only[if_neg hm];exact (h.bV m).bM hl rfl fun e b1 he hb=>⟨World.putObj_heap_other (fun e1=>hm (h.c4 m n e _ b1 he aA hb (by rw[e1];rfl))),fun _ ho=>ho⟩
theorem aW.Z9{A:ae}(h:aW c A a w D E){n b:Nat}(aA:E n=some (.op b)):aW c ⟨A.t,fun m=>if m=n then none else A.o m⟩ a w D (fun m=>if m=n then none else E m):=by
 have hne:∀ {m:Nat} {e:bZ},E m=some e→(∀ b,e≠.op b)→m≠n:=fun he h2 e'=>by
  subst e';rw[aA] at he;cases he;exact h2 _ rfl
 have hl:dV w D E w D (fun m=>if m=n then none else E m):=by
  refine ⟨fun _ _ h=>h,fun _ _ _ _ h=>h,fun m b aU he =>?_,fun m aI l he=>⟨aI,l,?_,zz9 _,fun _=>rfl⟩,fun m b he =>?_,fun m b he =>?_,fun _ _ _ _ h=>h⟩
  ·simp only[if_neg (hne he (fun b=>by simp))];exact he
  ·simp only[if_neg (hne he (fun b=>by simp))];exact he
  ·simp only[if_neg (hne he (fun b=>by simp))];exact he
  ·simp only[if_neg (hne he (fun b=>by simp))];exact he
 refine ⟨h.sz,h.eW,fun t=>aY.bM hl (h.en t),h.dW,h.dc,h.dm,fun m =>?_,fun m m' e e' b h1 h2 h3 h4 =>?_,fun m e hm =>?_,h.ff,h.cQ,h.fh,h.fO⟩
 ·by_cases hm:m=n
  ·simp only[hm,if_true,de]
  ·simp only[if_neg hm];exact (h.bV m).bM hl (by simp only[if_neg hm]) fun _ _ _ _=>⟨rfl,fun _ ho=>ho⟩
 ·split at h1
  ·cases h1
  ·split at h2
   ·cases h2
   ·exact h.c4 m m' e e' b h1 h2 h3 h4
 ·by_cases hmn:m=n
  ·left;simp only[hmn,if_true]
  ·simp only[if_neg hmn];exact h.dZ m e hm
theorem aW.enter{ts:List (Nat×I)}{os0:List (Nat×ah)}(h:aW c (ar ts os0) a w D E)(hfree:ak os0 999999=none)(hE0:c.dB 999999=none){o:Obj}(ho:pT o=true) :
  ∃ E1,aW c (ar ts ((999999,.dT o)::os0)) { a with defers := { target:=.collected w.heap.size,args := #[] } :: a.defers } ((w.alloc (.deferred (some []))).alloc o) D E1∧E1 999999=some (.op (w.heap.size+1))∧∀ xs vs,aK w D E xs vs→aK ((w.alloc (.deferred (some []))).alloc o) D E1 xs vs:=by
 have hb:Below w.heap.size w ((w.alloc (.deferred (some []))).alloc o):=((Below.refl _ w).alloc (zz9 _) _).alloc (by simp) _;have h1:=h.grow (D':=D) hb (fun _ _ h=>h) (fun _ _ h _=>h) (fun b o' hd=>by have:=h.dm b o' hd;simp;omega);obtain ⟨W,hW⟩:∃ W,W=(w.alloc (.deferred (some []))).alloc o:=⟨_,rfl⟩
 have hL:W.heap[w.heap.size+1]?=some o:=by
  rw[hW];have:=World.alloc_heap_new (w.alloc (.deferred (some []))) o;rwa [World.size_alloc] at this
 have hK:W.heap[w.heap.size]?=some (.deferred (some [])):=by
  rw[hW];exact (Below.heap_alloc _ _ _ (by simp)).trans (World.alloc_heap_new w _)
 rw[←hW] at h1 hb ⊢;have hEn:E 999999=none:=by have:=h.bV 999999;simp only[ar,hfree] at this;exact this
 have hl:dV W D E W D (fun m=>if m=999999 then some (.op (w.heap.size+1)) else E m):=by
  refine ⟨fun _ _ h=>h,fun _ _ _ _ h=>h,fun m b aU he =>?_,fun m aI l he=>⟨aI,l,?_,zz9 _,fun _=>rfl⟩,fun m b he =>?_,fun m b he =>?_,fun _ _ _ _ h=>h⟩
  all_goals
   have:m≠999999:=fun e=>by rw[e,hEn] at he;cases he
   simp only[if_neg this];exact he
 have hsz:c.fr.heap.size≤w.heap.size:=h.dW.size;have nb:∀ {m:Nat} {e:bZ} {b:Nat},E m=some e→e.aI=some b→b<w.heap.size:=fun he hb'=>h.gp he hb';refine ⟨fun m=>if m=999999 then some (.op (w.heap.size+1)) else E m,⟨h1.sz,?_,fun t=>aY.bM hl (h1.en t),h1.dW,h1.dc,h1.dm,fun m =>?_,fun m m' e e' b g1 g2 g3 g4 =>?_,fun m e hm =>?_,h1.ff,h1.cQ,h1.fh,h1.fO⟩,by simp,fun xs vs hx=>aK.bM hl xs vs (aK.bM (dV.grow hb fun _ _ h=>h) xs vs hx)⟩
 ·obtain ⟨Bs,k1,k2,k3⟩:=h1.eW;refine ⟨w.heap.size::Bs,by simp only[zy2];rw[←k1],List.nodup_cons.2 ⟨fun hin =>?_,k2⟩,fun B hB =>?_⟩
  ·obtain ⟨Bs',j1,_,j3⟩:=h.eW;have e1:Bs=Bs':=by
    have:Bs.map (fun B=>({ target:=.collected B,args := #[] } : Deferred))=Bs'.map (fun B => { target:=.collected B,args := #[] }):=by rw[←k1,←j1]
    exact (List.map_inj_right (fun x y hxy=>by simpa using hxy)).1 this
   rw[e1] at hin;have:=gu (j3 _ hin).2;omega
  ·rcases zw2.1 hB with rfl | hB
   ·exact ⟨hsz,hK⟩
   ·exact k3 B hB
 ·simp only[ar,ak];by_cases hm:m=999999
  ·subst hm;simp only[if_true,de];exact ⟨_,rfl,.inl (by omega),hL,ho,fun o' hd=>by have:=h.dm _ o' hd;omega⟩
  ·simp only[if_neg hm];exact (h1.bV m).bM hl (by simp only[if_neg hm]) fun _ _ _ _=>⟨rfl,fun _ ho=>ho⟩
 ·by_cases hm:m=999999 <;>by_cases hm':m'=999999
  ·rw[hm,hm']
  ·simp only[if_pos hm,t7] at g1;simp only[if_neg hm'] at g2;subst g1;simp only[bZ.aI,t7] at g3;have:=nb g2 g4;omega
  ·simp only[if_neg hm] at g1;simp only[if_pos hm',t7] at g2;subst g2;simp only[bZ.aI,t7] at g4;have:=nb g1 g3;omega
  ·simp only[if_neg hm] at g1;simp only[if_neg hm'] at g2;exact h.c4 m m' e e' b g1 g2 g3 g4
 ·have hmn:m≠999999:=fun e=>by rw[e,hE0] at hm;cases hm
  simp only[if_neg hmn];exact h.dZ m e hm
theorem de.mV{M M':Nat→Prop}{n:Nat}{x:Option ah}(h:de M w D E n x)(hM:∀ e b,E n=some e→e.aI=some b→M' b):de M' w D E n x:=by
 unfold de at *;split
 ·exact h
 ·obtain ⟨b,cs,T,h1,_,h3⟩:=h;exact ⟨b,cs,T,h1,hM _ b h1 rfl,h3⟩
 ·obtain ⟨aI,h1,h2,h3⟩:=h;refine ⟨aI,h1,h2,?_⟩;split
  ·exact h3
  ·obtain ⟨cs,pre,rest,_,h4⟩:=h3;exact ⟨cs,pre,rest,hM _ _ h1 rfl,h4⟩
 ·obtain ⟨b,h1,_,h3⟩:=h;exact ⟨b,h1,hM _ b h1 rfl,h3⟩
 ·obtain ⟨b,es,ck,h1,_,h3⟩:=h;exact ⟨b,es,ck,h1,hM _ b h1 rfl,h3⟩
 ·obtain ⟨r,b,es,ck,si,se,la,h1,_,h3⟩:=h;exact ⟨r,b,es,ck,si,se,la,h1,hM _ r h1 rfl,h3⟩
 ·obtain ⟨aI,h1,h2,h3⟩:=h;refine ⟨aI,h1,h2,?_⟩;split
  ·exact h3
  ·obtain ⟨cs,m,_,h4⟩:=h3;exact ⟨cs,m,hM _ _ h1 rfl,h4⟩
theorem aW.L1{os:List (Nat×ah)} : ∀ (ps:List Nat) (vs:List Value) (xs:List I) (ts:List (Nat×I)) (a:Act),aW c (ar ts os) a w D E→(∀ p∈ps,p<c.n)→aK w D E xs vs→ps.length=vs.length →
  aW c (ar (rN ps xs ts) os) { a with tmps:=(ps.zip vs).foldl (fun t q=>t.setIfInBounds q.1 q.2) a.tmps } w D E
 | [],[],xs,ts,a,h,_,hv,_=>by
  cases xs with
  |nil=>exact h
  |cons x xs=>simp[aK] at hv
 | [],_::_,_,_,_,_,_,_,hl=>by simp at hl
 |_::_,[],_,_,_,_,_,_,hl=>by simp at hl
 |p::ps,v::vs,xs,ts,a,h,hp,hv,hl=>by
  cases xs with
  |nil=>simp[aK] at hv
  |cons x xs =>
   simp only[aK] at hv;obtain ⟨v',rest,cs,e,h1,h2,h3⟩:=hv;simp only[List.cons.injEq] at e;obtain ⟨rfl,rfl⟩:=e;have h4:=h.put (hp p (by simp)) (mW h1 h2);rw[tQ] at h4;have:=aW.L1 ps vs xs ((p,x)::ts) (a.put (some p) v) h4 (fun q hq=>hp q (by simp[hq])) h3 (by simpa using hl);exact this
end
end Go.Abs
namespace Go.Abs
open Go Go.RowKit
def jz:cd→Bool
 | .mv _ | .pick .. | .bin .. | .eqv .. | .conv .. | .un .. | .fl .. | .ix .. | .lenT _ | .bld .. | .ext .. | .mk .. | .nilC _ | .ptrE .. =>true
 | .ld .. | .fa .. | .ia .. | .is .. | .len _ | .va .. | .bs .. | .sl .. | .cap _ | .bs0 _ | .lk .. =>true
 |_=>false
def oQ:cd→Bool
 | .alloc _ | .box _ | .bA .. | .call .. | .eH .. | .cV .. =>true
 |op=>jz op
def pV(hs:List FuncId):cd→Bool
 | .alloc _ | .box _=>true
 | .call f _ => !hs.contains f
 |op=>jz op
abbrev eG:=List (Nat×List Nat)
def jo(L:eG)(s:Nat):Option (List Nat):=(L.find? fun q=>q.1==s).map (·.2)
def eA(L:eG)(A:ae):Prop:=∀ s ns,jo L s=some ns→(A.t s).only (fun n=>ns.contains n)=true
def rq(L:eG):aM→Option (List Nat)
 | .t s=>jo L s
 | .c x=>if x.bu then some [] else none
def uR(a:Option (List Nat))(ns:List Nat):Bool:=match a with
 |some ms=>ms.all fun m=>ns.contains m
 |none=>false
def iF(L:eG)(g:aG):Bool:=match g.dst with
 |none=>true
 |some d=>match jo L d with
  |none=>true
  |some ns=>match g.op with
   | .mv x | .nilC x | .fa _ _ x | .ia _ _ x _=>uR (rq L x) ns
   | .bin .. | .len _ | .bs .. | .bs0 _ | .conv .. | .lenT _=>true
   | .box _ | .alloc _=>ns.contains d
   |_=>false
def nV:cd→Option (List Nat)
 | .ld _ (.t x) | .fa _ _ (.t x) | .ia _ _ (.t x) _ | .is _ (.t x) _ | .len (.t x) | .va _ _ (.t x) | .sl _ (.t x) _ _ _ | .cap (.t x) | .lk _ _ _ (.t x) _=>some [x]
 | .bs _ _ ps=>if (ps.all fun x=>match x with | .t _=>true | .c _=>false)=true then some (ki ps) else none
 | .bs0 _=>some []
 |op=>if op.gU=0∧jz op=true then some [] else none
def sA(L:eG)(g:aG)(p:Nat→Bool):Bool:=match nV g.op with
 |some xs=>xs.all fun s=>match jo L s with | some ns=>ns.all p | none=>false
 |none=>false
def oR(hs:List FuncId)(L:eG)(g h:aG):Bool:=pV hs h.op||match h.op with
 | .bA _ (.t y) _=>match nV g.op with
  |some []=>true
  |_=>match jo L y with
   |some ms=>sA L g fun n => !ms.contains n
   |none=>false
 | .bA .. =>match nV g.op with
  |some []=>true
  |_=>false
 | .cV _ _ _ _ s _=>sA L g (fun _=>false)||uR (rq L s) []
 |_=>false
def nQ(hs:List FuncId)(L:eG)(g h:aG):Bool:=jz g.op&&(oR hs L g h&&((match g.dst with
  |some d => !h.df.contains d&&h.dst != some d
  |none=>true)&&(match h.dst with
  |some d => !g.df.contains d
  |none=>true)))
theorem xL{op:cd}(h:jz op=true)(A:ae)(dst:Option Nat)(rest:List aG)(k:ae→cS):bt A dst op rest k=cW (bF A op) fun v=>k (A.aS dst v):=by
 cases op <;>first | rfl | cases h
inductive cj (P:Program) (hs:List FuncId) (K:ae→Prop):cS→Prop where
 |done {A:ae} : K A→cj P hs K (.done A)
 |flat {f:FuncId} {avs cargs:List I} {a2:Option (List I)} {dst:Option Nat} {rest:List aG} {A:ae} (r:I):aw P f cargs r→r.flat=true→cj P hs K (aC rest (A.aS dst r))→cj P hs K (.call f avs (some cargs) a2 dst rest A)
 |lead {f:FuncId} {avs cargs:List I} {a1:Option (List I)} {dst:Option Nat} {rest:List aG} {A:ae} (r:I):aw P f cargs r→cj P hs K (aC rest (A.aS dst r))→cj P hs K (.call f avs a1 (some cargs) dst rest A)
 |bV {f:FuncId} {avs:List I} {a1 a2:Option (List I)} {dst:Option Nat} {rest:List aG} {ts:List (Nat×I)} {os0:List (Nat×ah)} (ρ:List (Nat×Nat)) (cargs:List I) (post:cR):cG P f cargs [] post →
   fX ρ [] os0→jF false (ar ts os0) ρ [] avs cargs→(∀ r os',post r os'→ee false ρ [] os0 r os') →
   (∀ r os',post r os'→cj P hs K (aC rest ((ar ts (dN ρ os'++os0)).aS dst (r.aQ (bJ ρ)))))→cj P hs K (.call f avs a1 a2 dst rest (ar ts os0))
 |any {p:Nat→Prop} {k:Nat→cS} : (∀ m,p m→cj P hs K (k m))→cj P hs K (.any p k)
 |yC {f:FuncId} {avs:List I} {a1 a2:Option (List I)} {dst:Option Nat} {rest:List aG} {ts:List (Nat×I)} {os0:List (Nat×ah)} (aD:Bool) (ρ:List (Nat×Nat)) (os:List (Nat×ah)) (cargs:List I) (post:cR):hs.contains f=true→cG P f cargs os post →
   fX ρ os os0→jF aD (ar ts (cJ (jN ρ os) os0)) ρ os avs cargs→(∀ r os',post r os'→ee aD ρ os os0 r os') →
   (∀ r os',post r os'→cj P hs K (aC rest ((ar ts (dN ρ os'++os0)).aS dst (r.aQ (bJ ρ)))))→cj P hs K (.call f avs a1 a2 dst rest (ar ts os0))
theorem Z8(os:List (Nat×ah)):cJ [] os=os:=by simp[cJ]
section
variable {P:Program} {hs:List FuncId} {K:ae→Prop} {Y:Value→List I→List (Nat×ah)→cR→Prop}
theorem cj.AH{p:Nat→Prop}{k:Nat→cS}(h:cj P hs K (.any p k)):∀ m,p m→cj P hs K (k m):=by cases h;assumption
theorem eA.put{L:eG}{A B:ae}(h:eA L A)(ht:∀ k,B.t k=A.t k){dst:Option Nat}{v:I}(hv:∀ d,dst=some d→∀ ns,jo L d=some ns→v.only (fun n=>ns.contains n)=true):eA L (B.aS dst v):=by
 intro s ns hs';cases dst with
 |none=>exact (ht s).symm▸h s ns hs'
 |some d =>
  simp only[ae.aS,ae.put];by_cases hd:s=d
  ·rw[if_pos hd];exact hv d rfl ns (hd▸hs')
  ·rw[if_neg hd,ht];exact h s ns hs'
theorem rZ{L:eG}{A:ae}(h:eA L A){x:aM}{ns:List Nat}(hx:uR (rq L x) ns=true):(ab A x).only (fun n=>ns.contains n)=true:=by
 cases x with
 |c x =>
  simp only[rq] at hx;split at hx
  ·rename_i hc;exact kd _ x hc
  ·cases hx
 |t s =>
  simp only[rq] at hx;cases hl:jo L s with
  |none=>rw[hl] at hx;cases hx
  |some ms =>
   rw[hl] at hx;simp only[uR,zx9] at hx;exact js (fun n hn=>hx n (by simpa using hn)) _ (h s ms hl)
theorem RY{op:BinOp}{x y v:I}(p:Nat→Bool)(h:cO op x y=some v):v.only p=true:=by
 unfold cO at h
 (repeat' split at h) <;>first | (cases h;done) | (simp only[t7] at h;subst h;rfl)
theorem yO{p:Nat→Bool} : ∀ {xs:List I} {i:Nat} {x:I},I.bW p xs=true→xs[i]?=some x→x.only p=true
 | [],_,_,_,h=>by simp at h
 |a::xs,0,x,h,e=>by
  simp only[I.bW,zz4] at h;simp only[List.getElem?_cons_zero,t7] at e;exact e▸h.1
 |a::xs,i+1,x,h,e=>by
  simp only[I.bW,zz4] at h;exact yO (xs:=xs) h.2 (by simpa using e)
theorem Lq{L:eG}{A:ae}{g:aG}(h:eA L A)(hg:iF L g=true){v:I}(hv:bF A g.op=some v):∀ d,g.dst=some d→∀ ns,jo L d=some ns→v.only (fun n=>ns.contains n)=true:=by
 intro d hd ns hn;obtain ⟨dst,op,gd⟩:=g;simp only at hd hv;subst hd;simp only[iF,hn] at hg;cases op <;>simp only at hg <;>(try (cases hg;done)) <;>simp only[bF] at hv <;>(try (cases hv;done))
 case mv x=>simp only[t7] at hv;exact hv▸rZ h hg
 case nilC x =>
  have:=rZ h hg;generalize ab A x=u at hv this;cases u <;>simp only[mX] at hv <;>first | (cases hv;done) | (simp only[t7] at hv;exact hv▸this)
 case bin op x y=>exact RY _ hv
 case conv k x=>split at hv <;>first | (cases hv;done) | (simp only[t7] at hv;subst hv;rfl)
 case lenT x=>split at hv <;>first | (cases hv;done) | (simp only[t7] at hv;subst hv;rfl)
 case len x=>(repeat' split at hv) <;>first | (cases hv;done) | (simp only[t7] at hv;subst hv;rfl)
 case bs0 e=>simp only[t7] at hv;subst hv;rfl
 case bs e ps =>
  split at hv
  ·split at hv
   ·rename_i hc;simp only[t7] at hv;subst hv;simp only[I.only];exact ke _ _ hc.2
   ·cases hv
  ·cases hv
 case fa f off x =>
  have hx:=rZ h hg;split at hv
  ·rename_i fs he;rw[he] at hx;simp only[I.only] at hx;split at hv
   ·rename_i u hu;split at hv
    ·simp only[t7] at hv;subst hv;simp only[I.only];exact yO hx hu
    ·cases hv
   ·cases hv
  ·rename_i n q he;rw[he] at hx;simp only[I.only] at hx;split at hv
   ·split at hv
    ·simp only[t7] at hv;subst hv;simpa only[I.only] using hx
    ·cases hv
   ·cases hv
  ·cases hv
 case ia n esz x i =>
  have hx:=rZ h hg;split at hv
  case h_2=>cases hv
  split at hv
  case isFalse=>cases hv
  split at hv
  ·rename_i fs he;rw[he] at hx;simp only[I.only] at hx;split at hv
   ·simp only[zz1] at hv;obtain ⟨u,hu,rfl⟩:=hv;simp only[I.only];exact yO hx hu
   ·cases hv
  ·rename_i m q he;rw[he] at hx;simp only[I.only] at hx;split at hv
   ·split at hv
    ·simp only[t7] at hv;subst hv;simpa only[I.only] using hx
    ·cases hv
   ·cases hv
  ·cases hv
def sm(A:ae)(dst:Option Nat)(s:I)(B:ae):Prop:=(∀ t,dst≠some t→B.t t=A.t t)∧(s.only (fun _=>false)=true→eB A B)
def ov(A:ae)(dst:Option Nat)(s:I)(R:(ae→cS)→cS):Prop :=
 (∀ k,R k=.fail)∨(∃ B,(∀ k,R k=k B)∧sm A dst s B)∨∃ (p:Nat→Prop) (bp:Nat→ae),(∀ k,R k=.any p fun m=>k (bp m))∧∀ m,sm A dst s (bp m)
theorem rM{A B:ae}{dst:Option Nat}{v:I}{t:Nat}(ht:∀ k,B.t k=A.t k)(h:dst≠some t):(B.aS dst v).t t=A.t t:=by
 cases dst with
 |none=>exact ht t
 |some d =>
  have:t≠d:=fun e=>h (by rw[e]);simp only[ae.aS,ae.put,if_neg this];exact ht t
theorem Rv(A:ae)(dst:Option Nat)(esz bytes:Nat)(z s:I)(es ys:List I):ov A dst s (gL A dst esz bytes z es ys):=by
 cases dst with
 |none=>exact .inl fun _=>rfl
 |some d =>
  cases ho:A.o d with
  |some y=>exact .inl fun k=>by simp only[gL,ho]
  |none =>
   by_cases hc:(es.length+ys.length)*bytes≤140737488355328∧es.length+ys.length≤maxLen
   ·refine .inr (.inr ⟨_,fun m=>(A.aR d (.box (.agg (es++(ys++List.replicate m z))))).aS (some d) (.view d [] esz 0 (es.length+ys.length)),fun k=>by simp only[gL,ho];rw[if_pos hc],fun m=>⟨fun t ht=>rM (A:=A) (B:=A.aR d _) (fun _=>rfl) ht,fun _ n y hy =>?_⟩⟩);have:n≠d:=fun e=>by rw[e,ho] at hy;cases hy
    rw[iV];simp only[ae.aR,if_neg this];exact hy
   ·exact .inl fun k=>by simp only[gL,ho];rw[if_neg hc]
theorem Rx(A:ae)(dst:Option Nat)(esz bytes:Nat)(z s:I)(es ys:Option (List I)):ov A dst s (fj A dst esz bytes z s es ys):=by
 cases es with
 |none=>exact .inl fun _=>rfl
 |some es =>
  cases ys with
  |none=>exact .inl fun _=>rfl
  |some ys =>
   by_cases h0:ys=[]
   ·exact .inr (.inl ⟨A.aS dst s,fun k=>by simp only[fj,if_pos h0],fun t ht=>rM (A:=A) (fun _=>rfl) ht,fun _ n y hy=>by rw[iV];exact hy⟩)
   ·have gg:=fun s'=>Rv A dst esz bytes z s' es ys;cases s
    case nils=>simp only[ov,fj,if_neg h0];exact gg _
    case c0=>simp only[ov,fj,if_neg h0];exact gg _
    case view n p sz lo l =>
     cases ho:A.o n with
     |none=>exact .inl fun k=>by simp only[fj,if_neg h0,ho]
     |some y =>
      cases y with
      |box b =>
       cases hb:b.at p with
       |none=>exact .inl fun k=>by simp only[fj,if_neg h0,ho,hb]
       |some c =>
        cases c
        case agg fs =>
         by_cases h1:lo+l+ys.length≤fs.length
         ·by_cases h2:sz=esz∧I.cX ys=I.cX ((fs.drop (lo+l)).take ys.length)
          ·exact .inr (.inl ⟨(A.aR n (.box (iX b p (lo+l) fs ys))).aS dst (.view n p esz lo (l+ys.length)),fun k=>by simp only[fj,if_neg h0,ho,hb,if_pos h1];rw[if_pos h2],fun t ht=>rM (A:=A) (B:=A.aR n _) (fun _=>rfl) ht,fun h=>by simp[I.only] at h⟩)
          ·exact .inl fun k=>by simp only[fj,if_neg h0,ho,hb,if_pos h1];rw[if_neg h2]
         ·simp only[ov,fj,if_neg h0,ho,hb,if_neg h1];exact gg _
        all_goals exact .inl fun k=>by simp only[fj,if_neg h0,ho,hb]
      |_=>exact .inl fun k=>by simp only[fj,if_neg h0,ho]
    all_goals exact .inl fun k=>by simp only[fj,if_neg h0]
theorem AM(A:ae)(dst:Option Nat)(e esz bytes:Nat)(z:I)(s x:aM)(rest:List aG):ov A dst (ab A s) (bt A dst (.cV e esz bytes z s x) rest):=by
 generalize hs:ab A s=zO;cases zO
 case own n l =>
  cases hx:ab A x
  case slice sz ys =>
   cases ho:A.o n with
   |none=>exact .inl fun k=>by simp only[bt,hs,hx,ho]
   |some y =>
    cases y with
    |b5 T sz' es =>
     by_cases hc:yF e esz bytes l sz ys T sz' es
     ·exact .inr (.inl ⟨(A.aR n (.b5 e esz (es++ys))).aS dst (.own n (es.length+ys.length)),fun k=>by simp only[bt,hs,hx,ho];rw[if_pos hc],fun t ht=>rM (A:=A) (B:=A.aR n _) (fun _=>rfl) ht,fun h=>by simp[I.only] at h⟩)
     ·exact .inl fun k=>by simp only[bt,hs,hx,ho];rw[if_neg hc]
    |c5 T xs =>
     by_cases hc:yG e esz bytes l ys T xs z
     ·exact .inr (.inl ⟨(A.aR n (.c5 e (xs++rl ys))).aS dst (.own n (xs.length+ys.length)),fun k=>by simp only[bt,hs,hx,ho];rw[if_pos hc],fun t ht=>rM (A:=A) (B:=A.aR n _) (fun _=>rfl) ht,fun h=>by simp[I.only] at h⟩)
     ·exact .inl fun k=>by simp only[bt,hs,hx,ho];rw[if_neg hc]
    |_=>exact .inl fun k=>by simp only[bt,hs,hx,ho]
  all_goals exact .inl fun k=>by simp only[bt,hs,hx]
 all_goals (simp only[ov,bt,hs];exact Rx ..)
theorem yZ{A:ae}{d:Nat}{v:I}{n:Nat}{y:ah}{dst:Option Nat}{u:I}(h:dst≠some d):((A.put d v).aR n y).aS dst u=((A.aR n y).aS dst u).put d v:=by
 cases dst with
 |none=>rfl
 |some e =>
  have:e≠d:=fun he=>h (by rw[he]);simp only[ae.aS,ae.put,ae.aR,ae.mk.injEq,and_true]
  funext k
  by_cases h1:k=e <;>by_cases h2:k=d <;>simp_all
theorem aor{A:ae}{d:Nat}{v:I}{dst:Option Nat}{u:I}(h:dst≠some d):(A.put d v).aS dst u=(A.aS dst u).put d v:=by
 cases dst with
 |none=>rfl
 |some e =>
  have:e≠d:=fun he=>h (by rw[he]);simp only[ae.aS,ae.put,ae.mk.injEq,and_true]
  funext k
  by_cases h1:k=e <;>by_cases h2:k=d <;>simp_all
theorem Rw{A:ae}{d:Nat}{v:I}{dst:Option Nat}(h:dst≠some d)(esz bytes:Nat)(z:I)(es ys:List I)(k:ae→cS):gL (A.put d v) dst esz bytes z es ys k=gL A dst esz bytes z es ys fun B=>k (B.put d v):=by
 cases dst with
 |none=>rfl
 |some e =>
  simp only[gL];have:(A.put d v).o=A.o:=rfl;rw[this];cases A.o e with
  |some _=>rfl
  |none =>
   simp only;split
   ·simp only[yZ h]
   ·rfl
theorem Ry{A:ae}{d:Nat}{v:I}{dst:Option Nat}(h:dst≠some d)(esz bytes:Nat)(z s:I)(es ys:Option (List I))(k:ae→cS):fj (A.put d v) dst esz bytes z s es ys k=fj A dst esz bytes z s es ys fun B=>k (B.put d v):=by
 have ho:(A.put d v).o=A.o:=rfl;cases es with
 |none=>rfl
 |some es =>
  cases ys with
  |none=>rfl
  |some ys =>
   simp only[fj];split
   ·rw[aor h]
   ·cases s <;>simp only[Rw h,ho]
    rename_i n p sz lo l;cases A.o n with
    |none=>rfl
    |some y =>
     cases y with
     |box b =>
      simp only;cases b.at p with
      |none=>rfl
      |some c =>
       cases c <;>simp only[yZ h]
     |_=>rfl
theorem RB{A:ae}{d:Nat}{v:I}{dst:Option Nat}(h:dst≠some d){e esz bytes:Nat}{z:I}{s x:aM}(hag:ep A (A.put d v) (s.sl++x.sl))(rest rest':List aG)(k:ae→cS) :
  bt (A.put d v) dst (.cV e esz bytes z s x) rest k=bt A dst (.cV e esz bytes z s x) rest' fun B=>k (B.put d v):=by
 have ho:(A.put d v).o=A.o:=rfl;have hsrc:∀ y,eE (A.put d v) esz y=eE A esz y:=fun y=>by cases y <;>rfl
 simp only[bt,dp hag.l,dp hag.r,hsrc];cases ab A s <;>simp only[Ry h]
 rename_i n l;cases ab A x <;>simp only[ho]
 cases A.o n with
 |none=>rfl
 |some y=>cases y <;>simp only[yZ h]
theorem cj.Dk{L:eG}{f:FuncId}{avs:List I}{a1 a2:Option (List I)}{dst:Option Nat}{rest:List aG}{A:ae}(hi:eA L A)(hd:∀ d,dst=some d→jo L d=none)(h:cj P hs K (.call f avs a1 a2 dst rest A)) :
  br P Y false (fun B=>cj P hs K (aC rest B)∧eA L B) (.call f avs a1 a2 dst [] A):=by
 have no:∀ {v:I},∀ d,dst=some d→∀ ns,jo L d=some ns→v.only (fun n=>ns.contains n)=true:=fun d e ns hn=>by rw[hd d e] at hn;cases hn
 cases h with
 |flat r hc hf hw=>exact .flat r hc hf (.done ⟨hw,hi.put (fun _=>rfl) no⟩)
 |lead r hc hw=>exact .lead r hc (.done ⟨hw,hi.put (fun _=>rfl) no⟩)
 |bV ρ cargs post hc hg ha hb hw=>exact .bV false ρ [] cargs post rfl hc hg (by simp only[jN,zx2,Z8];exact ha) hb fun r os' hp=>.done ⟨hw r os' hp,hi.put (B:=ar _ (dN ρ os'++_)) (fun _=>rfl) no⟩
 |yC aD ρ os cargs post _ hc hg ha hb hw=>exact .bV aD ρ os cargs post rfl hc hg ha hb fun r os' hp=>.done ⟨hw r os' hp,hi.put (B:=ar _ (dN ρ os'++_)) (fun _=>rfl) no⟩
theorem cj.one{L:eG}{A:ae}{g:aG}{rest:List aG}(hi:eA L A)(ho:oQ g.op=true)(hL:iF L g=true)(h:cj P hs K (bt A g.dst g.op rest (aC rest))):br P Y false (fun B=>cj P hs K (aC rest B)∧eA L B) (bt A g.dst g.op [] (aC [])):=by
 have hval:=fun v (hv:bF A g.op=some v)=>Lq hi hL hv;obtain ⟨dst,op,gd⟩:=g;simp only at ho h hval ⊢;have pure:jz op=true→br P Y false (fun B=>cj P hs K (aC rest B)∧eA L B) (bt A dst op [] (aC [])):=by
  intro hsm;rw[xL hsm] at h ⊢;cases hv:bF A op with
  |none=>rw[hv] at h;cases h
  |some v=>rw[hv] at h;exact .done ⟨h,hi.put (fun _=>rfl) (hval v hv)⟩
 have unl:(∀ ns d,dst=some d→jo L d=some ns→iF L ⟨dst,op,gd⟩=false)→∀ d,dst=some d→jo L d=none:=fun h1 d hd=>by
  cases hn:jo L d with
  |none=>rfl
  |some ns=>rw[h1 ns d hd hn] at hL;cases hL
 cases op with
 |alloc z =>
  cases dst with
  |none=>simp only[bt] at h;cases h
  |some d =>
   simp only[bt] at h ⊢;split at h
   case h_2=>cases h
   refine .done ⟨h,hi.put (B:=A.aR d _) (dst:=some d) (fun _=>rfl) fun d' e ns hn =>?_⟩;simp only[t7] at e;subst e;simpa only[iF,hn,I.only] using hL
 |box x =>
  cases dst with
  |none=>simp only[bt] at h;cases h
  |some d =>
   simp only[bt] at h ⊢;split at h
   case h_2=>cases h
   split at h
   case isFalse=>cases h
   rename_i hv;rw[if_pos hv];refine .done ⟨h,hi.put (B:=A.aR d _) (dst:=some d) (fun _=>rfl) fun d' e ns hn =>?_⟩;simp only[t7] at e;subst e;simpa only[iF,hn,I.only] using hL
 |bA s x v =>
  cases dst with
  |some d=>simp only[bt] at h;cases h
  |none =>
   simp only[bt] at h ⊢;split at h
   case h_2=>cases h
   rename_i n p hx;split at h
   case h_2=>cases h
   rename_i b hb;split at h
   case h_2=>cases h
   rename_i old hold;split at h
   case isFalse=>cases h
   rename_i hok;simp only[if_pos hok];exact .done ⟨h,fun s ns hn=>hi s ns hn⟩
 |call f args=>exact cj.Dk hi (unl fun ns d e hn=>by subst e;simp only[iF,hn]) h
 |eH x args =>
  have hu:=unl fun ns d e hn=>by subst e;simp only[iF,hn]
  simp only[bt] at h ⊢;split at h
  ·exact cj.Dk hi hu h
  ·cases h
  ·cases h
 |cV e esz bytes z s x =>
  have hu:=unl fun ns d e hn=>by subst e;simp only[iF,hn]
  have tC:∀ B,sm A dst (ab A s) B→eA L B:=fun B hB t ns hn=>by
   rw[hB.1 t fun e=>by rw[hu t e] at hn;cases hn];exact hi t ns hn
  have hf:=AM A dst e esz bytes z s x;rcases hf rest with h1 | ⟨B,h1,h2⟩ | ⟨p,bp,h1,h2⟩
  ·rw[h1] at h;cases h
  ·rw[h1] at h;have:bt A dst (.cV e esz bytes z s x) [] (aC [])=aC [] B:=(show bt A dst (.cV e esz bytes z s x) [] (aC [])=bt A dst (.cV e esz bytes z s x) rest (aC []) from rfl).trans (h1 _);rw[this];exact .done ⟨h,tC B h2⟩
  ·rw[h1] at h;have:bt A dst (.cV e esz bytes z s x) [] (aC [])=.any p fun m=>aC [] (bp m):=(show bt A dst (.cV e esz bytes z s x) [] (aC [])=bt A dst (.cV e esz bytes z s x) rest (aC []) from rfl).trans (h1 _);rw[this];exact .any rfl fun m hm=>.done ⟨h.AH m hm,tC _ (h2 m)⟩
 |_=>first | exact pure rfl | cases ho
def gK(g:aG)(A:ae)(v:I):Prop:=(gO A g∧v=.undef)∨(pass A g∧bF A g.op=some v)
theorem cj.zE{A:ae}{g:aG}{rest:List aG}(hs':jz g.op=true)(h:cj P hs K (aC (g::rest) A)):∃ v,gK g A v∧cj P hs K (aC rest (A.aS g.dst v)):=by
 have step:pass A g→cj P hs K (bt A g.dst g.op rest (aC rest))→∃ v,gK g A v∧cj P hs K (aC rest (A.aS g.dst v)):=by
  intro hp h;rw[xL hs'] at h;cases hv:bF A g.op with
  |none=>rw[hv] at h;cases h
  |some v=>rw[hv] at h;exact ⟨v,.inr ⟨hp,hv⟩,h⟩
 simp only[aC] at h;split at h
 ·rename_i hg;exact step (by simp only[pass,hg]) h
 ·rename_i t b hg;split at h
  ·rename_i b' hb;split at h
   ·rename_i hbb;subst hbb;exact step (by simp only[pass,hg];exact hb) h
   ·rename_i hbb;exact ⟨_,.inl ⟨by simp only[gO,hg];exact .inl (by rw[hb,vA hbb]),rfl⟩,h⟩
  ·rename_i hb;exact ⟨_,.inl ⟨by simp only[gO,hg];exact .inr hb,rfl⟩,h⟩
  ·cases h
theorem sy{A:ae}{g:aG}{rest:List aG}(hn:gO A g):aC (g::rest) A=aC rest (A.aS g.dst .undef):=by
 simp only[aC];cases hg:g.guard with
 |none=>simp only[gO,hg] at hn
 |some tb =>
  obtain ⟨t,b⟩:=tb;simp only[gO,hg] at hn;rcases hn with hn | hn
  ·simp only[hn];rw[if_neg (by cases b <;>simp)]
  ·simp only[hn]
theorem gK.to{A:ae}{g:aG}{rest:List aG}{v:I}(hs':jz g.op=true)(h:gK g A v):aC (g::rest) A=aC rest (A.aS g.dst v):=by
 rcases h with ⟨hn,rfl⟩ | ⟨hp,hv⟩
 ·exact sy hn
 ·rw[oy hp,xL hs',hv];rfl
theorem ZS{A A':ae}{p:Nat→Bool}(ho:∀ n,p n=true→A'.o n=A.o n){x:I}(hx:x.only p=true):cC A' x=cC A x:=by
 cases x <;>simp only[cC]
 rename_i n q;rw[ho n (by simpa[I.only] using hx)]
mutual
theorem aaQ{A A':ae}{p:Nat→Bool}(ho:∀ n,p n=true→A'.o n=A.o n):∀ {x:I},x.only p=true→bl false A' x=bl false A x
 | .own n k,h=>by simp only[bl];rw[ho n (by simpa[I.only] using h)]
 | .func f caps,h=>by simp only[bl];rw[s9 ho (xs:=caps) (by simpa[I.only] using h)]
 | .agg fs,h=>by simp only[bl];rw[s9 ho (xs:=fs) (by simpa[I.only] using h)]
 | .undef,_ | .dg,_ | .bool _,_ | .int _ _,_ | .c8 _,_ | .nilp,_ | .dv,_ | .ea,_ | .raw _,_ | .nils _,_ | .c0 _,_ | .slice _ _,_ | .tuple _,_ | .ref _,_ | .iface _ _,_ | .ptr _ _,_ | .view _ _ _ _ _,_ | .mref _,_ | .dE _,_ | .c6 _ _,_=>by simp[bl]
theorem s9{A A':ae}{p:Nat→Bool}(ho:∀ n,p n=true→A'.o n=A.o n):∀ {xs:List I},I.bW p xs=true→b7 false A' xs=b7 false A xs
 | [],_=>rfl
 |x::xs,h=>by
  simp only[I.bW,zz4] at h;simp only[b7,aaQ ho h.1,s9 ho h.2]
end
theorem LD{p:Nat→Bool}{f:aM→I} : ∀ {xs:List aM},(∀ x∈xs,(f x).only p=true)→I.bW p (xs.map f)=true
 | [],_=>rfl
 |x::xs,h=>by
  simp only[zy2,I.bW,zz4];exact ⟨h x (by simp),LD fun y hy=>h y (by simp[hy])⟩
theorem amf{A A':ae}{p:Nat→Bool}(ho:∀ n,p n=true→A'.o n=A.o n){x:I}(hx:x.only p=true):gN A' x=gN A x:=by
 cases x with
 |mref n=>simp only[gN];rw[ho n (by simpa[I.only] using hx)]
 |raw v=>cases v <;>first | rfl | (rename_i o;cases o <;>rfl)
 |_=>rfl
theorem aog{A A':ae}{op:cd}{xs:List Nat}{p:Nat→Bool}(hm:nV op=some xs)(h:ep A A' op.df)(hx:∀ s∈xs,(A.t s).only p=true)(ho:∀ n,p n=true→A'.o n=A.o n):bF A' op=bF A op:=by
 have gY:op.gU=0→bF A' op=bF A op:=fun hc=>yY hc h;have dl:=fun {x:I} (hx:x.only p=true)=>ZS ho hx;unfold nV at hm;split at hm
 ·rename_i s x;simp only[t7] at hm;subst hm;have e:=h x (by simp[cd.df,aM.sl]);simp only[bF,ab,e,dl (hx x (by simp))]
 ·rename_i f off x;simp only[t7] at hm;subst hm;have e:=h x (by simp[cd.df,aM.sl]);have k:=hx x (by simp);simp only[bF,ab,e];generalize A.t x=u at k ⊢;cases u with
  |ptr n q=>simp only[dl (x:=.ptr n q) k]
  |ref c=>cases c <;>rfl
  |_=>rfl
 ·rename_i n esz x i;simp only[t7] at hm;subst hm;have e:=h x (by simp[cd.df,aM.sl]);have ei:=dp (x:=i) (fun m hm=>h m (by simp[cd.df,hm]));have k:=hx x (by simp);simp only[bF,ei];generalize ab A i=w;simp only[ab,e];generalize A.t x=u at k ⊢;cases u with
  |ptr n q=>simp only[dl (x:=.ptr n q) k]
  |ref c=>cases c <;>rfl
  |_=>rfl
 ·rename_i esz x i;simp only[t7] at hm;subst hm;have e:=h x (by simp[cd.df,aM.sl]);have ei:=dp (x:=i) (fun m hm=>h m (by simp[cd.df,hm]));have k:=hx x (by simp);simp only[bF,ei];generalize ab A i=w;simp only[ab,e];generalize A.t x=u at k ⊢;cases u with
  |own n l=>simp only[ho n (by simpa[I.only] using k)]
  |view n q=>simp only[dl (x:=.ptr n q) (by simpa[I.only] using k)]
  |_=>rfl
 ·rename_i x;simp only[t7] at hm;subst hm;have e:=h x (by simp[cd.df,aM.sl]);have k:=hx x (by simp);simp only[bF,ab,e];generalize A.t x=u at k ⊢;cases u with
  |own n l=>simp only[ho n (by simpa[I.only] using k)]
  |_=>rfl
 ·rename_i n esz x;simp only[t7] at hm;subst hm;have e:=h x (by simp[cd.df,aM.sl]);have k:=hx x (by simp);simp only[bF,ab,e];generalize A.t x=u at k ⊢;cases u with
  |ptr n q=>simp only[dl (x:=.ptr n q) k]
  |ref c=>cases c <;>rfl
  |_=>rfl
 ·rename_i esz x lo hi mx;simp only[t7] at hm;subst hm;have e:=h x (by simp[cd.df,aM.sl]);have e1:=pL (x:=lo) (fun m hm=>h m (by simp[cd.df,hm]));have e2:=pL (x:=hi) (fun m hm=>h m (by simp[cd.df,hm]));have e3:=pL (x:=mx) (fun m hm=>h m (by simp[cd.df,hm]));have k:=hx x (by simp);simp only[bF,e1,e2,e3];generalize lo.map (ab A)=w1;generalize hi.map (ab A)=w2;generalize mx.map (ab A)=w3;simp only[ab,e];generalize A.t x=u at k ⊢;cases u with
  |view n q=>simp only[dl (x:=.ptr n q) (by simpa[I.only] using k)]
  |_=>rfl
 ·rename_i x;simp only[t7] at hm;subst hm;have e:=h x (by simp[cd.df,aM.sl]);have k:=hx x (by simp);simp only[bF,ab,e];generalize A.t x=u at k ⊢;cases u with
  |view n q=>simp only[dl (x:=.ptr n q) (by simpa[I.only] using k)]
  |_=>rfl
 ·rename_i ty z ok x kk;simp only[t7] at hm;subst hm;have e:=h x (by simp[cd.df,aM.sl]);have ek:=dp (x:=kk) (fun m hm=>h m (by simp[cd.df,hm]));have k:=hx x (by simp);simp only[bF,ek];generalize ab A kk=w;simp only[ab,e,amf ho k]
 ·rename_i esz ps;split at hm
  case isFalse=>cases hm
  rename_i hall;simp only[t7] at hm;subst hm;have hev:ps.map (ab A')=ps.map (ab A):=mL h;have hon:I.bW p (ps.map (ab A))=true:=LD fun x hx'=>by
   have h1:=zx9.1 hall x hx';cases x with
   |c _=>cases h1
   |t s=>exact hx s (by simp only[ki,List.mem_flatMap];exact ⟨_,hx',by simp[aM.sl]⟩)
  simp only[bF,hev,s9 ho hon]
 ·rfl
 ·split at hm
  ·rename_i hc;exact gY hc.1
  ·cases hm
theorem AJ{L:eG}{A:ae}{g:aG}{p:Nat→Bool}(hi:eA L A)(h:sA L g p=true):∃ xs,nV g.op=some xs∧∀ s∈xs,(A.t s).only p=true:=by
 unfold sA at h;split at h
 case h_2=>cases h
 rename_i xs hm;refine ⟨xs,hm,fun s hs' =>?_⟩;have h1:=zx9.1 h s hs';split at h1
 case h_2=>cases h1
 rename_i ns hn;exact js (fun n h2=>zx9.1 h1 n (by simpa using h2)) _ (hi s ns hn)
theorem gK.yh{A A':ae}{g:aG}{v:I}{xs:List Nat}{p:Nat→Bool}(h:gK g A v)(hm:nV g.op=some xs)(ha:ep A A' g.df)(hx:∀ s∈xs,(A.t s).only p=true)(ho:∀ n,p n=true→A'.o n=A.o n):gK g A' v:=by
 rcases h with ⟨h,rfl⟩ | ⟨h,k⟩
 ·exact .inl ⟨qc ha h,rfl⟩
 ·exact .inr ⟨oc ha h,by rw[aog hm (aG.kG ha) hx ho];exact k⟩
theorem gK.tC{L:eG}{A:ae}{g:aG}{v:I}(hi:eA L A)(hg:iF L g=true)(h:gK g A v):eA L (A.aS g.dst v):=by
 rcases h with ⟨_,rfl⟩ | ⟨_,k⟩
 ·exact hi.put (fun _=>rfl) fun _ _ _ _=>rfl
 ·exact hi.put (fun _=>rfl) (Lq hi hg k)
theorem gK.cQ{A A':ae}{g:aG}{v:I}(h:gK g A v)(hu:eB A A')(ha:ep A A' g.df):gK g A' v:=by
 rcases h with ⟨h,rfl⟩ | ⟨h,k⟩
 ·exact .inl ⟨qc ha h,rfl⟩
 ·exact .inr ⟨oc ha h,L0 hu (aG.kG ha) k⟩
theorem KA{L:eG}{g h:aG}(hi:nQ hs L g h=true):jz g.op=true∧oR hs L g h=true∧(∀ d,g.dst=some d→d∉h.df)∧(∀ d,g.dst=some d→h.dst≠some d)∧(∀ d,h.dst=some d→d∉g.df):=by
 simp only[nQ,zz4] at hi;obtain ⟨h1,h2,h3,h4⟩:=hi;refine ⟨h1,h2,fun d hd =>?_,fun d hd =>?_,fun d hd =>?_⟩
 ·rw[hd] at h3;simp at h3;exact h3.1
 ·rw[hd] at h3;simp at h3;exact h3.2
 ·rw[hd] at h4;simpa using h4
theorem AR{aD:Bool}{A A':ae}{ρ:List (Nat×Nat)}{os:List (Nat×ah)}(hu:eB A A'):∀ {xs cs:List I},jF aD A ρ os xs cs→jF aD A' ρ os xs cs
 | [],[],_=>trivial
 |x::xs,c::cs,h=>⟨h.1.imp id fun h=>ED hu h,AR hu h.2⟩
 | [],_::_,h=>h.elim
 |_::_,[],h=>h.elim
theorem amm{A:ae}{d:Option Nat}{v:I}{ts:List (Nat×I)}{os:List (Nat×ah)}(h:A.aS d v=ar ts os):∃ ts2,A=ar ts2 os∧∀ X:List (Nat×ah),(ar ts2 X).aS d v=ar ts X:=by
 cases d with
 |none=>exact ⟨ts,h,fun _=>rfl⟩
 |some d =>
  have ht:∀ k,(A.aS (some d) v).t k=bQ ts k:=fun k=>by rw[h];rfl
  have ho:A.o=ak os:=by
   have:(A.aS (some d) v).o=ak os:=by rw[h];rfl
   rwa [iV] at this
  refine ⟨(d,A.t d)::ts,?_,fun X =>?_⟩
  ·cases A with
   |mk t o =>
    simp only[ar,ae.mk.injEq];refine ⟨funext fun k =>?_,ho⟩;have:=ht k;simp only[ae.aS,ae.put] at this;simp only[bQ];by_cases hk:k=d
    ·subst hk;simp
    ·rw[if_neg hk] at this;have hk':¬ d=k:=fun e=>hk e.symm;simp only[hk,if_false];exact this
  ·simp only[ae.aS,ae.put,ar,ae.mk.injEq,and_true]
   funext k
   have:=ht k;simp only[ae.aS,ae.put] at this;by_cases hk:k=d
   ·subst hk;simp at this ⊢;exact this
   ·have hk':¬ d=k:=fun e=>hk e.symm;simp only[bQ,hk,if_false]
theorem aoe{ρ:List (Nat×Nat)}{os0 os':List (Nat×ah)}{r:I}(hb:ee false ρ [] os0 r os'){n:Nat}{x:ah}(hx:ak os0 n=some x):ak (dN ρ os'++os0) n=some x:=by
 rw[ry];cases hp:pre ρ os' n with
 |none=>exact hx
 |some m =>
  obtain ⟨h1,h2⟩:=mg hp;have:=(hb.p7 m h1 (by simp[al,ak])).1;rw[h2,hx] at this;cases this
theorem cj.Ul{A B:ae}{j:aG}{v:I}{f:FuncId}{args:List aM}{dst:Option Nat}{rest:List aG}(hj:jz j.op=true)(hv:gK j A v)(hB:B=A.aS j.dst v)(hf:hs.contains f=false)(hag:ep A B (ki args))(hd:∀ d,j.dst=some d→dst≠some d)(hr:∀ d,dst=some d→d∉j.df)
  (h:cj P hs K (.call f (args.map (ab B)) (b7 true B (args.map (ab B))) (b7 false B (args.map (ab B))) dst rest B)):cj P hs K (.call f (args.map (ab A)) (b7 true A (args.map (ab A))) (b7 false A (args.map (ab A))) dst (j::rest) A):=by
 have eo:B.o=A.o:=by rw[hB,iV]
 have cQ:eB B A:=fun n x hx=>by rwa [←eo]
 have up':eB A B:=fun n x hx=>by rwa [eo]
 have eav:args.map (ab B)=args.map (ab A):=mL hag;rw[eav] at h;have cont:∀ r:I,cj P hs K (aC rest (B.aS dst r))→cj P hs K (aC (j::rest) (A.aS dst r)):=fun r hw=>by
  have h1:gK j (A.aS dst r) v:=hv.cQ (fun n x hx=>by rwa [iV]) (m4 hr);rw[h1.to hj,qk (fun d hd'=>fun e=>hd d e hd'),←hB];exact hw
 generalize e1:b7 true B (args.map (ab A))=a1 at h;generalize e2:b7 false B (args.map (ab A))=a2 at h;generalize hBm:B=B0 at h;cases h with
 |flat r hc hfl hw =>
  subst hBm;rw[lU cQ e1];exact .flat r hc hfl (cont r hw)
 |lead r hc hw =>
  subst hBm;rw[lU cQ e2];exact .lead r hc (cont r hw)
 |bV ρ cargs post hc hg ha hb hw =>
  rename_i ts os0;rw[hB] at hBm;obtain ⟨ts2,hA,hts⟩:=amm hBm;have hA':=hA;clear cont;subst hA;refine .bV ρ cargs post hc hg (AR (A:=ar ts os0) (A':=ar ts2 os0) (fun n x hx=>hx) ha) hb fun r os' hp =>?_;have h1:gK j ((ar ts2 (dN ρ os'++os0)).aS dst (r.aQ (bJ ρ))) v:=hv.cQ (fun n x hx=>by
   rw[iV];exact aoe (hb r os' hp) hx) (fun k hk=>by
    have:=m4 (A:=ar ts2 (dN ρ os'++os0)) (v:=r.aQ (bJ ρ)) hr k hk;rw[this];rfl)
  rw[h1.to hj,qk (fun d hd'=>fun e=>hd d e hd'),hts];exact hw r os' hp
 |yC aD ρ os cargs post hfs =>
  rw[hf] at hfs;cases hfs
theorem cj.swap{L:eG}{A:ae}{j g:aG}{rest:List aG}(hinv:eA L A)(hi:nQ hs L j g=true)(hw:cj P hs K (aC (j::g::rest) A)):cj P hs K (aC (g::j::rest) A):=by
 obtain ⟨hj,hl,i1,i2,i3⟩:=KA hi;obtain ⟨v,hv,hw⟩:=cj.zE hj hw;have ag:ep (A.aS j.dst v) A g.df:=(m4 i1).symm;have ag':ep A (A.aS j.dst v) g.df:=m4 i1;have cQ:eB (A.aS j.dst v) A:=fun n x hx=>by rwa [iV] at hx
 have up':∀ (d:Option Nat) (u:I),eB A (A.aS d u):=fun d u n x hx=>by rwa [iV]
 by_cases hsg:jz g.op=true
 ·obtain ⟨u,hu,hw⟩:=cj.zE hsg hw;rw[(hu.cQ cQ ag).to hsg,(hv.cQ (up' _ _) (m4 i3)).to hj,←qk i2];exact hw
 ·-- the guard
  have guard:(gO (A.aS j.dst v) g∧aC (g::rest) (A.aS j.dst v)=aC rest ((A.aS j.dst v).aS g.dst .undef))∨(pass (A.aS j.dst v) g∧aC (g::rest) (A.aS j.dst v)=bt (A.aS j.dst v) g.dst g.op rest (aC rest))∨aC (g::rest) (A.aS j.dst v)=.fail:=by
   cases hg:g.guard with
   |none=>exact .inr (.inl ⟨by simp only[pass,hg],by simp only[aC,hg]⟩)
   |some tb =>
    obtain ⟨t,b⟩:=tb;cases ht:(A.aS j.dst v).t t with
    |bool b' =>
     by_cases hbb:b'=b
     ·subst hbb;have hp:pass (A.aS j.dst v) g:=by simp only[pass,hg,ht]
      exact .inr (.inl ⟨hp,oy hp⟩)
     ·have hn:gO (A.aS j.dst v) g:=by simp only[gO,hg];exact .inl (by rw[ht,vA hbb])
      exact .inl ⟨hn,sy hn⟩
    |undef =>
     have hn:gO (A.aS j.dst v) g:=by simp only[gO,hg];exact .inr ht
     exact .inl ⟨hn,sy hn⟩
    |_=>exact .inr (.inr (by simp only[aC,hg,ht]))
  rcases guard with ⟨hn,he⟩ | ⟨hp,he⟩ | he
  ·rw[he] at hw;rw[sy (qc ag hn),(hv.cQ (up' _ _) (m4 i3)).to hj,←qk i2];exact hw
  ·rw[he] at hw;rw[oy (oc ag hp)];obtain ⟨dst,op,gd⟩:=g;simp only at hw hsg i2 i3 ⊢;cases op with
   |alloc z =>
    cases dst with
    |none=>simp only[bt] at hw;cases hw
    |some d =>
    simp only[bt] at hw ⊢;split at hw
    case h_2=>cases hw
    rename_i ho;rw[iV] at ho;simp only[ho];have h1:gK j ((A.aR d (.box z)).put d (.ptr d [])) v:=hv.cQ (fun n y hy=>by
     have:n≠d:=fun he=>by rw[he,ho] at hy;cases hy
     simp only[ae.put,ae.aR,this,if_false];exact hy) (fun k hk=>by
     have:k≠d:=fun he=>i3 d rfl (he▸hk);simp only[ae.put,ae.aR,this,if_false])
    rw[h1.to hj];have e:((A.aS j.dst v).aR d (.box z)).put d (.ptr d [])=((A.aR d (.box z)).put d (.ptr d [])).aS j.dst v:=by
     cases hgd:j.dst with
     |none=>rfl
     |some e =>
      have hne:e≠d:=fun he=>i2 e hgd (by rw[he]);simp only[ae.aS,ae.put,ae.aR,ae.mk.injEq,and_true]
      funext k
      by_cases h1:k=e <;>by_cases h2:k=d <;>simp_all
    rw[←e];exact hw
   |box x =>
    have ex:ab (A.aS j.dst v) x=ab A x:=dp (aG.kG ag');cases dst with
    |none=>simp only[bt] at hw;cases hw
    |some d =>
    simp only[bt] at hw ⊢;split at hw
    case h_2=>cases hw
    rename_i ho;rw[iV] at ho;simp only[ho];rw[ex] at hw;split at hw
    case isFalse=>cases hw
    rename_i hval;rw[if_pos hval];have h1:gK j ((A.aR d (.box (ab A x))).put d (.ptr d [])) v:=hv.cQ (fun n y hy=>by
     have:n≠d:=fun he=>by rw[he,ho] at hy;cases hy
     simp only[ae.put,ae.aR,this,if_false];exact hy) (fun k hk=>by
     have:k≠d:=fun he=>i3 d rfl (he▸hk);simp only[ae.put,ae.aR,this,if_false])
    rw[h1.to hj];have e:((A.aS j.dst v).aR d (.box (ab A x))).put d (.ptr d [])=((A.aR d (.box (ab A x))).put d (.ptr d [])).aS j.dst v:=by
     cases hgd:j.dst with
     |none=>rfl
     |some e =>
      have hne:e≠d:=fun he=>i2 e hgd (by rw[he]);simp only[ae.aS,ae.put,ae.aR,ae.mk.injEq,and_true]
      funext k
      by_cases h1:k=e <;>by_cases h2:k=d <;>simp_all
    rw[←e];exact hw
   |call f args =>
    simp only[bt] at hw ⊢;refine cj.Ul hj hv rfl (by simpa[oR,pV] using hl) (aG.kG ag') i2 i3 hw
   |bA s y u =>
    cases dst with
    |some d=>simp only[bt] at hw;cases hw
    |none =>
    have ey:ab (A.aS j.dst v) y=ab A y:=dp (aG.kG ag').l;have eu:ab (A.aS j.dst v) u=ab A u:=dp (aG.kG ag').r;simp only[bt] at hw ⊢;rw[ey,eu,iV] at hw;cases hx:ab A y <;>simp only[hx] at hw ⊢ <;>try (cases hw;done)
    rename_i n q;cases ho:A.o n with
    |none=>rw[ho] at hw;cases hw
    |some ob =>
    rw[ho] at hw;cases ob <;>simp only at hw ⊢ <;>try (cases hw;done)
    rename_i b;cases hb:b.at q with
    |none=>rw[hb] at hw;cases hw
    |some old =>
    rw[hb] at hw;simp only at hw ⊢;split at hw
    case isFalse=>cases hw
    rename_i hok;rw[if_pos hok];have h1:gK j (A.aR n (.box (b.dQ q (ab A u)))) v:=by
     have none0:nV j.op=some []→gK j (A.aR n (.box (b.dQ q (ab A u)))) v:=fun hm=>hv.yh (p:=fun _=>false) hm (fun _ _=>rfl) (fun s hs'=>by cases hs') (fun m hm=>by cases hm);cases y with
     |c y =>
      simp only[oR,pV,jz,Bool.false_or] at hl;split at hl
      ·rename_i hm;exact none0 hm
      ·cases hl
     |t y =>
      simp only[oR,pV,jz,Bool.false_or] at hl;split at hl
      ·rename_i hm;exact none0 hm
      ·split at hl
       case h_2=>cases hl
       rename_i ms hms;obtain ⟨xs,hm,hx2⟩:=AJ hinv hl;refine hv.yh hm (fun _ _=>rfl) hx2 fun m hm2 =>?_;have hn:=hinv y ms hms;simp only[ab] at hx;rw[hx] at hn;have:m≠n:=fun e=>by subst e;simp[I.only] at hn hm2;exact hm2 hn
       simp only[ae.aR,if_neg this]
    rw[h1.to hj];have e:(A.aS j.dst v).aR n (.box (b.dQ q (ab A u)))=(A.aR n (.box (b.dQ q (ab A u)))).aS j.dst v:=by cases j.dst <;>rfl
    rw[←e];exact hw
   |cV e esz bytes z s x =>
    have hag:ep A (A.aS j.dst v) (s.sl++x.sl):=aG.kG ag';have he2:bt (A.aS j.dst v) dst (.cV e esz bytes z s x) rest (aC rest)=bt A dst (.cV e esz bytes z s x) (j::rest) fun B=>aC rest (B.aS j.dst v):=by
     cases hjd:j.dst with
     |none=>rfl
     |some d =>
      rw[hjd] at hag;exact RB (fun e=>i2 d hjd e) hag rest (j::rest) (aC rest)
    rw[he2] at hw;have kA:∀ B,sm A dst (ab A s) B→aC (j::rest) B=aC rest (B.aS j.dst v):=fun B hB=>by
     have hagB:ep A B j.df:=fun k hk=>hB.1 k fun e=>i3 k e hk;have:gK j B v:=by
      simp only[oR,pV,jz,Bool.false_or,Bool.or_eq_true] at hl;rcases hl with hl | hl
      ·obtain ⟨xs,hm,hx2⟩:=AJ hinv hl;exact hv.yh hm hagB hx2 fun m hm2=>by cases hm2
      ·have:=rZ hinv hl;exact hv.cQ (hB.2 (by simpa using this)) hagB
     rw[this.to hj]
    rcases AM A dst e esz bytes z s x (j::rest) with h1 | ⟨B,h1,h2⟩ | ⟨p,bp,h1,h2⟩
    ·rw[h1] at hw;cases hw
    ·rw[h1] at hw ⊢;rw[kA B h2];exact hw
    ·rw[h1] at hw ⊢;exact .any fun m hm=>by rw[kA _ (h2 m)];exact hw.AH m hm
   |_=>first | exact absurd rfl hsg | (simp[oR,pV,jz] at hl)
  ·rw[he] at hw;cases hw
theorem cj.pB{L:eG}{g:aG} : ∀ {l:List aG} {r:List aG} {A:ae},eA L A→(∀ j∈l,nQ hs L j g=true∧iF L j=true)→cj P hs K (aC (l++g::r) A)→cj P hs K (aC (g::(l++r)) A)
 | [],r,A,_,_,h=>h
 |j::l,r,A,hinv,hi,h=>by
  have hj:=(KA (hi j (by simp)).1).1;obtain ⟨v,hv,h2⟩:=cj.zE (g:=j) (rest:=l++g::r) hj h;have h3:=cj.pB (l:=l) (r:=r) (hv.tC hinv (hi j (by simp)).2) (fun k hk=>hi k (by simp[hk])) h2;refine cj.swap hinv (hi j (by simp)).1 ?_;rw[hv.to hj];exact h3
end
def rE:List Nat→Bool
 | []=>true
 |a::l => !l.contains a&&rE l
def qI(hs:List FuncId)(L:eG)(gs:List aG)(cl:List Nat):List Nat→List Nat→Bool
 |_,[]=>true
 |before,i::σ=>(before.all fun j=>(cl.getD i 0).testBit j||nQ hs L (gs.getD j default) (gs.getD i default))&&qI hs L gs cl (i::before) σ
def uk(hs:List FuncId)(L:eG)(on:List (List Nat))(gs:List aG)(cl:List Nat)(σ:List Nat):Bool :=
 (Nat.beq σ.length gs.length&&(rE σ&&(σ.all (fun i=>decide (i<gs.length))&&((List.range gs.length).all (fun i=>σ.contains i)&&gs.all fun g=>oQ g.op&&iF L g))))&&(qI hs L gs cl [] σ&&(List.range gs.length).all fun i=>(on.getD i []).all (fun k=>decide (k<i))&&Nat.beq (cl.getD i 0) (oo cl (on.getD i [])))
theorem yx:∀ {l:List Nat},rE l=true→l.Nodup
 | [],_=>List.nodup_nil
 |a::l,h=>by
  simp only[rE,zz4,Bool.not_eq_true',List.contains_eq_mem,decide_eq_false_iff_not] at h;exact List.nodup_cons.2 ⟨h.1,yx h.2⟩
theorem vl{hs:List FuncId}{L:eG}{gs:List aG}{cl:List Nat} : ∀ {σ before:List Nat},qI hs L gs cl before σ=true→∀ s1 i s2,σ=s1++i::s2→∀ j,j∈before∨j∈s1→(cl.getD i 0).testBit j=true∨nQ hs L (gs.getD j default) (gs.getD i default)=true
 | [],_,_,s1,i,s2,e,_,_=>by cases s1 <;>cases e
 |a::σ,before,h,s1,i,s2,e,j,hj=>by
  simp only[qI,zz4,zx9,Bool.or_eq_true] at h;cases s1 with
  |nil =>
   simp only[zy5,List.cons.injEq] at e;obtain ⟨rfl,rfl⟩:=e;rcases hj with hj | hj
   ·exact h.1 j hj
   ·cases hj
  |cons b s1 =>
   simp only[zy0,List.cons.injEq] at e;obtain ⟨rfl,rfl⟩:=e;refine vl h.2 s1 i s2 rfl j ?_;rcases hj with hj | hj
   ·exact .inl (List.mem_cons_of_mem _ hj)
   ·rcases zw2.1 hj with hj | hj
    ·exact .inl (by rw[hj];exact List.mem_cons_self)
    ·exact .inr hj
def fg(σ:List Nat)(listed:Array Bool):List Nat:=σ.filter fun i => !listed.getD i true
def jP(gs:List aG)(σ:List Nat)(listed:Array Bool):List aG:=(fg σ listed).map fun i=>gs.getD i default
theorem Oe{σ:List Nat}{listed:Array Bool}{i:Nat}(hn:σ.Nodup)(hi:i∈σ)(hl:i<listed.size)(hu:listed.getD i true=false):∃ s1 s2,σ=s1++i::s2∧fg σ listed=(s1.filter fun j => !listed.getD j true)++i::(s2.filter fun j => !listed.getD j true) ∧
  fg σ (listed.setIfInBounds i true)=(s1.filter fun j => !listed.getD j true)++(s2.filter fun j => !listed.getD j true):=by
 obtain ⟨s1,s2,rfl⟩:=List.append_of_mem hi;have same:∀ j,j≠i→(listed.setIfInBounds i true).getD j true=listed.getD j true:=fun j hj=>getD_set_ne true (Ne.symm hj);have hit:(listed.setIfInBounds i true).getD i true=true:=by simp[hl]
 have hnd:=List.nodup_append.1 hn;have h1:∀ j∈s1,j≠i:=fun j hj=>hnd.2.2 j hj i List.mem_cons_self;have h2:∀ j∈s2,j≠i:=fun j hj e=>(List.nodup_cons.1 hnd.2.1).1 (e▸hj);refine ⟨s1,s2,rfl,?_,?_⟩
 ·simp only[fg,zu3,zx7,hu,Bool.not_false,if_true]
 ·simp only[fg,zu3,zx7,hit,zu5,zz8,if_false]
  congr 1
  ·exact List.filter_congr fun j hj=>by rw[same j (h1 j hj)]
  ·exact List.filter_congr fun j hj=>by rw[same j (h2 j hj)]
structure Ay (hs:List FuncId) (L:eG) (l:List Oper) (gs:List aG) (σ:List Nat):Prop where
 tY:σ.Nodup
 lt:∀ i∈σ,i<gs.length
 all:∀ i,i<gs.length→i∈σ
 ok:∀ g∈gs,oQ g.op=true∧iF L g=true
 len:σ.length=gs.length
 nw:∀ i o,l[i]?=some o→∀ k∈c9 o,k<i
 rj:∀ (S:Nat→Prop),(∀ i o,l[i]?=some o→S i→∀ k∈c9 o,S k)→∀ s1 i s2 o,σ=s1++i::s2→l[i]?=some o→(∀ k∈c9 o,S k)→∀ j∈s1,¬ S j→nQ hs L (gs.getD j default) (gs.getD i default)=true
theorem an4{hs:List FuncId}{L:eG}{l:List Oper}{gs:List aG}{cl σ:List Nat}(hlen:gs.length=l.length)(h:uk hs L (l.map c9) gs cl σ=true):Ay hs L l gs σ:=by
 simp only[uk,zz4,zx9,decide_eq_true_eq,zv2,List.contains_eq_mem] at h;obtain ⟨⟨h1,h2,h3,h4,h5⟩,h6,h7⟩:=h;have cm:∀ i o,l[i]?=some o→(∀ k∈c9 o,k<i)∧(∀ j,(cl.getD i 0).testBit j=true→j∈c9 o∨∃ k∈c9 o,(cl.getD k 0).testBit j=true):=by
  intro i o ho;have hi:i<l.length:=(zy6.1 ho).1;have h8:=h7 i (by omega);have hon:(l.map c9).getD i []=c9 o:=by simp[zz2,ho]
  rw[hon] at h8;have hb:=Nat.eq_of_beq_eq_true h8.2;exact ⟨h8.1,fun j hj=>uT (by rw[←hb];exact hj)⟩
 refine ⟨yx h2,h3,h4,h5,Nat.eq_of_beq_eq_true h1,fun i o ho=>(cm i o ho).1,?_⟩;intro S hS s1 i s2 o e ho hon j hj hnj;have key:∀ n i o,i≤n→l[i]?=some o→(∀ k∈c9 o,S k)→∀ j,(cl.getD i 0).testBit j=true→S j:=by
  intro n
  induction n with
  |zero =>
   intro i o hi ho hon j hj;obtain ⟨h8,h9⟩:=cm i o ho;rcases h9 j hj with h | ⟨k,hk,_⟩
   ·exact hon j h
   ·have:=h8 k hk;omega
  |succ n ih =>
   intro i o hi ho hon j hj;obtain ⟨h8,h9⟩:=cm i o ho;rcases h9 j hj with h | ⟨k,hk,hjk⟩
   ·exact hon j h
   ·have hki:=h8 k hk;have hkl:k<l.length:=Nat.lt_trans hki (zy6.1 ho).1;obtain ⟨ok,hok⟩:∃ ok,l[k]?=some ok:=⟨l[k],zy1 hkl⟩
    exact ih k ok (by omega) hok (hS k ok hok (hon k hk)) j hjk
 rcases vl h6 s1 i s2 e j (.inr hj) with h | h
 ·exact absurd (key i i o (zz9 _) ho hon j h) hnj
 ·exact h
section
variable {c:cT}
theorem xK{K:ae→Prop}{hs:List FuncId}{L:eG}{bI:Array Oper}{Q:Exit→Act→World→Prop}{o:Oper}{g:aG}{rest:List aG}{A:ae}{a:Act}{w:World}{Kw:Act→World→Prop}(hg:pC c.P c.n bI o=some g)(hi:eA L A)(ho:oQ g.op=true∧iF L g=true)(hwp:cj c.P hs K (aC (g::rest) A))(hs':cv c A a w)
  (hK:∀ B a' w',cj c.P hs K (aC rest B)→eA L B→cv c B a' w'→Kw a' w'):if Region.wanted o (yielded bI a.tmps) then o.wpIn c.bp 9 c.P a w Kw Q else (∀ f,o.about c.P w a.eval=some f→c.bp.fn f)∧Kw (a.put o.dst undef) w:=by
 obtain ⟨h1,h2,h3,h4⟩:=vI hg;have step:cj c.P hs K (bt A g.dst g.op rest (aC rest))→o.wpIn c.bp 9 c.P a w Kw Q:=fun h =>
  xM h1 h2.symm (by rw[h2];exact h3) (cj.one (Y:=c.Y) hi ho.1 ho.2 h) hs' (fun B a' w' hw hs2=>by
   cases hw with
   |done hk=>exact hK B a' w' hk.1 hk.2 hs2)
 simp only[aC] at hwp;rcases h4 with ⟨h5,h6⟩ | ⟨j,b,t,h5,h6,h7⟩
 ·rw[h6] at hwp;have hw:Region.wanted o (yielded bI a.tmps)=true:=by simp[Region.wanted,h5]
  rw[hw,if_pos rfl];exact step hwp
 ·rw[h7] at hwp;simp only at hwp;split at hwp
  ·rename_i b' hb';rw[xT hs' h5 h6 hb'];split at hwp
   ·rename_i hbb;subst hbb;simp only[BEq.rfl,if_true];exact step hwp
   ·rename_i hbb;have:(b'==b)=false:=by simpa using hbb
    rw[this];simp only[zz8,if_false];exact ⟨fun f _=>oG c f,hK _ _ _ hwp (hi.put (fun _=>rfl) fun _ _ _ _=>rfl) (by rw[h2];exact hs'.qj h3)⟩
  ·rename_i hb';rw[xU hs' h5 h6 hb'];simp only[zz8,if_false];exact ⟨fun f _=>oG c f,hK _ _ _ hwp (hi.put (fun _=>rfl) fun _ _ _ _=>rfl) (by rw[h2];exact hs'.qj h3)⟩
  ·cases hwp
theorem Rs{K:ae→Prop}{fs:List FuncId}{L:eG}{bI:Array Oper}{gs:List aG}{σ:List Nat}{Q:Exit→Act→World→Prop}(hQ:∀ B a w,K B→cv c B a w→Q .normal a w)(hgs:kr c.P c.n bI bI.toList=some gs)(hd:Ay fs L bI.toList gs σ) :
  ∀ (fuel:Nat) (listed:Array Bool) (A:ae) (a:Act) (w:World),listed.size=bI.size→(∀ i o,bI.toList[i]?=some o→listed.getD i false=true→∀ k∈c9 o,listed.getD k false=true)→(fg σ listed).length≤fuel →
   eA L A→cj c.P fs K (aC (jP gs σ listed) A)→cv c A a w→wpAnyIn c.bp 9 c.P .any bI Q fuel listed a w:=by
 obtain ⟨hlen,hat⟩:=ku hgs;have onOf_mem:∀ (o:Oper) (e:Edge),e∈o.after→Region.binds .any e=true→e.on∈c9 o:=fun o e he hb=>by
  simp only[c9,zw5,zv6];exact ⟨e,⟨by simpa using he,hb⟩,rfl⟩
 have of_onOf:∀ (o:Oper) (k:Nat),k∈c9 o→∃ e∈o.after,Region.binds .any e=true∧e.on=k:=fun o k hk=>by
  simp only[c9,zw5,zv6] at hk;obtain ⟨e,⟨h1,h2⟩,h3⟩:=hk;exact ⟨e,by simpa using h1,h2,h3⟩
 have hgl:gs.length=bI.size:=by rw[hlen,zv0]
 have last:∀ (listed:Array Bool) (A:ae) (a:Act) (w:World),listed.size=bI.size→Region.ready .any bI listed=[]→cj c.P fs K (aC (jP gs σ listed) A)→cv c A a w→Q .normal a w:=by
  intro listed A a w hsz hr hwp hs;have hnone:fg σ listed=[]:=by
   have all:∀ n,∀ i,i<n→i<bI.size→listed.getD i true=true:=by
    intro n
    induction n with
    |zero=>intro i hi;omega
    |succ n ih =>
     intro i hi his;cases hb:listed.getD i true with
     |true=>rfl
     |false =>
      exfalso
      have ho:bI[i]?=some bI[i]:=Array.getElem?_eq_getElem his;have:i∈Region.ready .any bI listed:=mem_ready.2 ⟨hb,bI[i],ho,fun e he hbd=>by
       have hlt:=hd.nw i bI[i] (by simp) e.on (onOf_mem _ e he hbd);have h1:=ih e.on (by omega) (by omega);have h2:e.on<listed.size:=by omega
       simpa[Array.getD_eq_getD_getElem?,h2] using h1⟩
      rw[hr] at this;cases this
   simp only[fg];refine List.filter_eq_nil_iff.2 fun i hi =>?_;have:=all (i+1) i (by omega) (by rw[←hgl];exact hd.lt i hi);simp only[this,zu5,zz8,not_false_eq_true]
  simp only[jP,hnone,zx2,aC] at hwp;cases hwp with
  |done hk=>exact hQ A a w hk hs
 intro fuel
 induction fuel with
 |zero =>
  intro listed A a w hsz hcl hcnt hinv hwp hs;have hnone:fg σ listed=[]:=zv5.1 (by omega);have hr:Region.ready .any bI listed=[]:=by
   refine List.eq_nil_iff_forall_not_mem.2 fun i hi =>?_;obtain ⟨h1,o,ho,_⟩:=mem_ready.1 hi;have:i∈fg σ listed:=by
    simp only[fg,zv6,h1,Bool.not_false,and_true];exact hd.all i (by rw[hgl];exact (zx6.1 ho).1)
   rw[hnone] at this;cases this
  exact ⟨hr,last listed A a w hsz hr hwp hs⟩
 |succ fuel ih =>
  intro listed A a w hsz hcl hcnt hinv hwp hs;refine ⟨fun hr=>last listed A a w hsz hr hwp hs,fun i hi =>?_⟩;obtain ⟨hun,o,ho,hall⟩:=mem_ready.1 hi;have hin:i<bI.size:=(zx6.1 ho).1;obtain ⟨s1,s2,hσ,e1,e2⟩:=Oe hd.tY (hd.all i (by omega)) (by omega) hun;have hol:bI.toList[i]?=some o:=by simpa using ho
  obtain ⟨g,hgi,hcg⟩:=hat i o hol;have hon:∀ k∈c9 o,listed.getD k false=true:=fun k hk=>by
   obtain ⟨e,h1,h2,h3⟩:=of_onOf o k hk;exact h3▸hall e h1 h2
  have hgd:gs.getD i default=g:=by simp[zz2,hgi]
  have hwp':cj c.P fs K (aC (g::jP gs σ (listed.setIfInBounds i true)) A):=by
   simp only[jP,e1,zx4,zy2,hgd] at hwp;simp only[jP,e2,zx4];refine cj.pB hinv (fun j hj =>?_) hwp;obtain ⟨k,hk,rfl⟩:=zw5.1 hj;obtain ⟨hk1,hk2⟩:=zv6.1 hk;have:=hd.rj (fun k=>listed.getD k false=true) hcl s1 i s2 o hσ hol hon k hk1 (by
    have hks:k<listed.size:=by
     have:=hd.lt k (by rw[hσ];exact List.mem_append_left _ hk1);omega
    simp[Array.getD_eq_getD_getElem?,hks] at hk2 ⊢;exact hk2)
   rw[hgd] at this;refine ⟨this,(hd.ok _ ?_).2⟩;have hkl:=hd.lt k (by rw[hσ];exact List.mem_append_left _ hk1);rw[zz2,zy1 hkl];exact zx8 _
  unfold wpOpIn;rw[ho];refine xK hcg hinv (hd.ok g (List.mem_of_getElem? hgi)) hwp' hs fun B a' w' hw hiB hs'=>ih _ B a' w' (by simpa using hsz) ?_ ?_ hiB hw hs'
  ·intro m om hom hm k hk;by_cases hmi:m=i
   ·subst hmi;rw[hol,t7] at hom;subst hom;exact getD_set_true (hon k hk)
   ·rw[getD_set_ne false (Ne.symm hmi)] at hm;exact getD_set_true (hcl m om hom hm k hk)
  ·have:(fg σ listed).length=(fg σ (listed.setIfInBounds i true)).length+1:=by
    rw[e1,e2];simp;omega
   omega
def lj(σ:List Nat)(gs:List aG):List aG:=σ.map fun i=>gs.getD i default
theorem J.aov{Q:Exit→ae→Prop}{A:ae}{on:List (List Nat)}{gs:List aG}(hs:List FuncId)(L:eG)(cl σ:List Nat)(hd:uk hs L on gs cl σ=true)(hi:eA L A)(h:∀ K:ae→Prop,(∀ B,Q .normal B→K B)→cj c.P hs K (aC (lj σ gs) A)):J c (.bT (some on) gs) Q A:=by
 intro code hc a w hs';cases code <;>simp only[fk] at hc <;>try (first | (cases hc;done) | ((repeat' split at hc) <;>cases hc;done))
 rename_i id bI draw;split at hc
 ·rename_i gs' hgs;split at hc
  case isFalse=>cases hc
  rename_i hok;simp only[t7,aN.bT.injEq] at hc;obtain ⟨he,rfl⟩:=hc;cases draw with
  |false=>cases he
  |true =>
   simp only[cond_true,t7] at he;subst he;simp only[zu5,Bool.false_or] at hok;have hp:=an4 (ku hgs).1 hd;refine wpIn_region_any hok (Rs (K:=Q .normal) (fun B a w hk hs=>⟨B,hk,hs⟩) hgs hp bI.size (Array.replicate bI.size false) A a _ (by simp) ?_ ?_ hi ?_ ?_)
   ·intro i o _ h
    exfalso
    simp only[Array.getD_eq_getD_getElem?,Array.getElem?_replicate] at h;split at h <;>simp at h
   ·refine zu1 (zu2 _ _) ?_;rw[hp.len,(ku hgs).1,zv0];exact zz9 _
   ·have hall:fg σ (Array.replicate bI.size false)=σ:=by
     simp only[fg];refine List.filter_eq_self.2 fun i hi =>?_;have h1:=hp.lt i hi;rw[(ku hgs).1,zv0] at h1;simp[h1]
    simp only[jP,hall];exact h _ fun _ hb=>hb
   ·obtain ⟨D,E,hs'⟩:=hs';exact ⟨D,E,hs'.grow (w' := { w with drawn:=w.drawn+1 }) ⟨rfl,rfl,rfl,zz9 _,fun _ _=>rfl⟩ (fun _ _ h=>h) (fun _ _ h _=>h) (fun b o h=>hs'.dm b o h)⟩
 ·cases hc
def mQ(ts:List (Nat×I)):eG→Prop
 | []=>True
 |(s,ns)::L=>(bQ ts s).only (fun n=>ns.contains n)=true∧mQ ts L
theorem eA.of{ts:List (Nat×I)}{os:List (Nat×ah)}{L:eG}(h:mQ ts L):eA L (ar ts os):=by
 intro s ns hn;simp only[ar]
 induction L with
 |nil=>cases hn
 |cons q L ih =>
  obtain ⟨s',ns'⟩:=q;simp only[mQ] at h;simp only[jo,List.find?_cons] at hn;split at hn
  ·rename_i e;simp only[zy7,t7] at hn;simp only[beq_iff_eq] at e;subst e hn;exact h.1
  ·exact ih h.2 hn
end
end Go.Abs
namespace Go.Abs
open Go Go.RowKit
open Enc (enc)
def vM(A:ae):I→Option I
 | .nils _ | .c0 _=>some (.int .i64 ((0:Nat):Int))
 | .view n p _ lo _=>match fA (eY p (A.o n)) with
  |some fs=>some (.int .i64 ((fs.length-lo:Nat):Int))
  |none=>none
 |_=>none
theorem amW(A:ae)(d:Option Nat)(rest:List aG)(x:aM):bU A d (.cap x) rest=cW (vM A (ab A x)) (dj d rest A):=by
 simp only[bU,bt,bF];cases ab A x <;>try rfl
 rename_i n p sz l0 k;simp only[vM,lO,gW];cases eY p (A.o n) with
 |none=>rfl
 |some c=>cases c <;>rfl
section
variable {α:Type} [Enc α] {P:Program} {Y:Value→List I→List (Nat×ah)→cR→Prop} {K:ae→Prop} {A:ae} {rest:List aG} {esz bytes:Nat}
theorem qv{n lo k:Nat}{xs:List α}(ho:A.o n=some (.box (.agg (xs.map enc))))(h:lo+k≤xs.length):eE A esz (.view n [] esz lo k)=some (((xs.drop lo).take k).map enc):=by
 have h1:cC A (.ptr n [])=some (.agg (xs.map enc)):=by simp only[cC,ho];rfl
 simp only[eE,h1,zy3];rw[if_pos ⟨h,trivial⟩,List.map_take,List.map_drop]
theorem OJ{xs ys:List α}(h:xs.length=ys.length):I.cX (xs.map enc)=I.cX (ys.map enc):=by
 rw[rV,rV,h]
theorem sC{d:Option Nat}{e:Nat}(z:I)(hs:Enc.sz α=esz){n l:Nat}{xs ys:List α}(hy:ys≠[])(ho:A.o n=some (.box (.agg (xs.map enc))))(hr:l+ys.length≤xs.length) :
  fR A d e esz bytes z (enc ys) rest (.view n [] esz 0 l)=aC rest ((A.aR n (.box (.agg ((xs.take l++(ys++xs.drop (l+ys.length))).map enc)))).aS d (.view n [] esz 0 (l+ys.length))):=by
 have h1:=qv (A:=A) (esz:=esz) (lo:=0) (k:=l) ho (by omega);have h2:(I.agg (xs.map (enc (α:=α)))).at []=some (.agg (xs.map enc)):=rfl;have h3:I.cX (ys.map (enc (α:=α)))=I.cX (((xs.map (enc (α:=α))).drop l).take ys.length):=by
  rw[←List.map_drop,←List.map_take];exact OJ (by rw[zy4,zy9];omega)
 simp only[fR,h1,qu A esz ys hs,fj];rw[if_neg (by simpa using hy)];simp only[ho,h2,zy3,zz3];rw[if_pos hr,if_pos ⟨rfl,by rw[zy3,zz3];exact h3⟩];simp only[iX,iw,zy3,zx4,List.map_take,List.map_drop]
end
theorem ao7{n:Nat}{p:List Nat}{sz k total i:Nat}(h:i≤k)(hk:k≤total):∃ y,iy n p sz 0 k total (some (.int .i64 i)) none none=some y:=by
 simp only[iy,iB];rw[if_pos ⟨by omega,by omega,by omega⟩];split <;>exact ⟨_,rfl⟩
theorem tL(k:Nat):bQ [] k=.dg:=rfl
def ir(L:List Nat):List (Nat×I)→List (Nat×I)
 | []=>[]
 |(s,v)::ts=>if L.contains s=true then (s,v)::ir L ts else ir L ts
theorem alL(L:List Nat):ir L []=[]:=rfl
theorem alK(L:List Nat)(s:Nat)(v:I)(ts:List (Nat×I)):ir L ((s,v)::ts)=if L.contains s=true then (s,v)::ir L ts else ir L ts:=rfl
theorem K9(L:List Nat)(t:Nat):∀ ts,bQ (ir L ts) t=.dg∨bQ (ir L ts) t=bQ ts t
 | []=>.inl rfl
 |(s,v)::ts=>by
  simp only[ir];have ih:=K9 L t ts;by_cases hs:L.contains s=true
  ·rw[if_pos hs];simp only[bQ];split
   ·exact .inr rfl
   ·exact ih
  ·rw[if_neg hs];simp only[bQ];split
   ·rename_i e;subst e
    left
    have:∀ ts,bQ (ir L ts) t=.dg:=by
     intro ts
     induction ts with
     |nil=>rfl
     |cons q ts ih2 =>
      obtain ⟨s',v'⟩:=q;simp only[ir];split
      ·rename_i h';simp only[bQ];have:t≠s':=fun e=>hs (e▸h');rw[if_neg this];exact ih2
      ·exact ih2
    exact this ts
   ·exact ih
theorem J.gf(L:List Nat){c:cT}{x:aN}{Q:Exit→ae→Prop}{ts:List (Nat×I)}{os:List (Nat×ah)}(h:J c x Q (ar (ir L ts) os)):J c x Q (ar ts os):=by
 refine J.sub ?_ h;rintro cc a w ⟨D,E,hs⟩;refine ⟨D,E,hs.sz,hs.eW,fun t =>?_,hs.dW,hs.dc,hs.dm,hs.bV,hs.c4,hs.dZ,hs.ff,hs.cQ,hs.fh,hs.fO⟩;simp only[ar];rcases K9 L t ts with e | e
 ·rw[e];simp[aY]
 ·rw[e];exact hs.en t
theorem yd:(∀ L,ir L []=[])∧(∀ L s v ts,ir L ((s,v)::ts)=if L.contains s=true then (s,v)::ir L ts else ir L ts)∧(∀ (a:Nat) l b,(a::l).contains b=(b==a||l.contains b))∧(∀ b:Nat,([]:List Nat).contains b=false)∧(∀ b,(false||b)=b)∧(∀ b,(true||b)=true)∧(∀ b,(b||true)=true)∧(∀ b,(b||false)=b)∧((false=true)=False) :=
 ⟨alL,alK,fun _ _ _=>List.contains_cons,fun _=>rfl,fun _=>rfl,fun _=>rfl,fun b=>by cases b <;>rfl,fun b=>by cases b <;>rfl,by simp⟩
end Go.Abs
namespace Go.Abs
open Go Go.RowKit
open Enc (enc)
def yk:Option ah→Option (List I×List I)
 |some (.cB ks vs)=>some (ks,vs)
 |_=>none
noncomputable def yu(A:ae)(n:Nat)(rest:List aG):Option (List I×List I)→cS
 |some (ks,vs)=>aC rest (A.aR n (.cB ks vs))
 |none=>.fail
noncomputable def yr(A:ae)(n:Nat)(ty:cU)(k v:I)(rest:List aG):Option ah→cS
 |some (.cB ks vs)=>yu A n rest (gH ty k v ks vs)
 |_=>.fail
noncomputable def yq(A:ae)(ty:cU)(k v:I)(rest:List aG):I→cS
 | .mref n=>yr A n ty k v rest (A.o n)
 |_=>.fail
noncomputable def yp(A:ae)(d:Nat)(rest:List aG):Option ah→cS
 |none=>aC rest ((A.aR d (.cB [] [])).put d (.mref d))
 |some _=>.fail
open Classical in
noncomputable def tV(A:ae)(d bytes:Nat)(z:I)(rest:List aG):I→cS
 | .int _ n=>if 0≤n∧n.toNat*bytes≤281474976710656∧n.toNat≤maxLen then aC rest ((A.aR d (.box (.agg (List.replicate n.toNat z)))).put d (.view d [] 1 0 n.toNat)) else .fail
 |_=>.fail
noncomputable def tU(A:ae)(d bytes:Nat)(z n:I)(rest:List aG):Option ah→cS
 |none=>tV A d bytes z rest n
 |some _=>.fail
noncomputable def zk(A:ae)(d:Nat)(rest:List aG):I→cS
 | .c6 ks vs=>aC rest ((A.aR d (.it ks vs (List.range ks.length) none)).put d (.dE d))
 |_=>.fail
noncomputable def uJ(A:ae)(d:Nat)(x:I)(rest:List aG):Option ah→cS
 |none=>zk A d rest x
 |some _=>.fail
def wo:Option ah→Option I
 |some (.it ks vs _ cur)=>pJ ks vs cur
 |_=>none
def wm(A:ae):I→Option I
 | .dE n=>wo (A.o n)
 |_=>none
open Classical in
noncomputable def qd(A:ae)(d:Option Nat)(n:Nat)(rest:List aG):Option ah→cS
 |some (.it ks vs left _)=>if left=[] then aC rest (A.aS d (.tuple [.bool false])) else
   .any (fun i=>i∈left) fun i=>match ks[i]?,vs[i]? with
    |some kk,some x=>aC rest ((A.aR n (.it ks vs (left.filter (· != i)) (some i))).aS d (.tuple [.bool true,kk,x]))
    |_,_=>.fail
 |_=>.fail
noncomputable def yA(A:ae)(d:Option Nat)(rest:List aG):I→cS
 | .dE n=>qd A d n rest (A.o n)
 |_=>.fail
section
variable (d:Option Nat) (rest:List aG) (A:ae)
theorem anh(x:aM):bU A d (.nilC x) rest=cW (mX (ab A x)) (dj d rest A):=rfl
theorem anl(neg:Bool)(x y:aM):bU A d (.ptrE neg x y) rest=cW (m3 neg (jm (ab A x)) (jm (ab A y))) (dj d rest A):=rfl
theorem ana(ty:cU)(z:I)(ok:Bool)(m k:aM):bU A d (.lk ty z ok m k) rest=cW (rr ty z ok (ab A k) (gN A (ab A m))) (dj d rest A):=rfl
theorem amh(n:Nat):gN A (.mref n)=yk (A.o n):=by
 simp only[gN];cases A.o n with
 |none=>rfl
 |some y=>cases y <;>rfl
theorem anf(ty:cU)(m k v:aM):bU A none (.hU ty m k v) rest=yq A ty (ab A k) (ab A v) rest (ab A m):=by
 simp only[bU,bt];cases ab A m <;>rfl
theorem anc(d:Nat):bU A (some d) .kb rest=yp A d rest (A.o d):=by
 simp only[bU,bt];cases A.o d <;>rfl
theorem ane(d e bytes:Nat)(z:I)(n:aM):bU A (some d) (.kc e bytes z n) rest=tU A d bytes z (ab A n) rest (A.o d):=by
 simp only[bU,bt];cases A.o d with
 |some _=>rfl
 |none=>simp only[tU];cases ab A n <;>rfl
theorem anm(d:Nat)(x:aM):bU A (some d) (.kJ x) rest=uJ A d (ab A x) rest (A.o d):=by
 simp only[bU,bt];cases A.o d with
 |some _=>rfl
 |none=>simp only[uJ];cases ab A x <;>rfl
theorem amZ(x:aM):bU A d (.ent x) rest=cW (wm A (ab A x)) (dj d rest A):=by
 simp only[bU,bt,bF];cases ab A x <;>rfl
theorem anj(x:aM):bU A d (.jO x) rest=yA A d rest (ab A x):=by
 simp only[bU,bt];cases ab A x <;>rfl
end
theorem eM :
  (∀ d rest A x,bU A d (.nilC x) rest=cW (mX (ab A x)) (dj d rest A))∧(∀ n p,mX (.ptr n p)=some (.ptr n p))∧(∀ x,mX (.ref x)=some (.ref x)) ∧
  (∀ d rest A neg x y,bU A d (.ptrE neg x y) rest=cW (m3 neg (jm (ab A x)) (jm (ab A y))) (dj d rest A))∧(jm .nilp=some true)∧(∀ n p,jm (.ptr n p)=some false)∧(∀ x,jm (.ref x)=some false) ∧
  (m3 false (some true) (some true)=some (.bool true))∧(m3 false (some false) (some true)=some (.bool false))∧(m3 true (some true) (some true)=some (.bool false))∧(m3 true (some false) (some true)=some (.bool true)) ∧
  (∀ d rest A ty z ok m k,bU A d (.lk ty z ok m k) rest=cW (rr ty z ok (ab A k) (gN A (ab A m))) (dj d rest A))∧(∀ A n,gN A (.mref n)=yk (A.o n))∧(∀ A ks vs,gN A (.c6 ks vs)=some (ks,vs))∧(∀ ks vs,yk (some (.cB ks vs))=some (ks,vs)) ∧
  (∀ ty z ok k ks vs,rr ty z ok k (some (ks,vs))=ru ok (gG ty z k ks vs))∧(∀ v b,ru false (some (v,b))=some v)∧(∀ v b,ru true (some (v,b))=some (.tuple [v,.bool b])) ∧
  (∀ rest A ty m k v,bU A none (.hU ty m k v) rest=yq A ty (ab A k) (ab A v) rest (ab A m))∧(∀ A ty k v rest n,yq A ty k v rest (.mref n)=yr A n ty k v rest (A.o n))∧(∀ A n ty k v rest ks vs,yr A n ty k v rest (some (.cB ks vs))=yu A n rest (gH ty k v ks vs)) ∧
  (∀ A n rest ks vs,yu A n rest (some (ks,vs))=aC rest (A.aR n (.cB ks vs))) ∧
  (∀ rest A d,bU A (some d) .kb rest=yp A d rest (A.o d))∧(∀ A d rest,yp A d rest none=aC rest ((A.aR d (.cB [] [])).put d (.mref d))) ∧
  (∀ rest A d e bytes z n,bU A (some d) (.kc e bytes z n) rest=tU A d bytes z (ab A n) rest (A.o d))∧(∀ A d bytes z n rest,tU A d bytes z n rest none=tV A d bytes z rest n) ∧
  (∀ rest A d x,bU A (some d) (.kJ x) rest=uJ A d (ab A x) rest (A.o d))∧(∀ A d x rest,uJ A d x rest none=zk A d rest x)∧(∀ A d rest ks vs,zk A d rest (.c6 ks vs)=aC rest ((A.aR d (.it ks vs (List.range ks.length) none)).put d (.dE d))) ∧
  (∀ d rest A x,bU A d (.ent x) rest=cW (wm A (ab A x)) (dj d rest A))∧(∀ A n,wm A (.dE n)=wo (A.o n))∧(∀ ks vs l cur,wo (some (.it ks vs l cur))=pJ ks vs cur) ∧
  (∀ d rest A x,bU A d (.jO x) rest=yA A d rest (ab A x))∧(∀ A d rest n,yA A d rest (.dE n)=qd A d n rest (A.o n)) :=
 ⟨anh,fun _ _=>rfl,fun _=>rfl,anl,rfl,fun _ _=>rfl,fun _=>rfl,rfl,rfl,rfl,rfl,ana,amh,fun _ _ _=>rfl,fun _ _=>rfl,fun _ _ _ _ _ _=>rfl,fun _ _=>rfl,fun _ _=>rfl,
  fun rest A ty m k v=>anf rest A ty m k v,fun _ _ _ _ _ _=>rfl,fun _ _ _ _ _ _ _ _=>rfl,fun _ _ _ _ _=>rfl,fun rest A d=>anc rest A d,fun _ _ _=>rfl,fun rest A d e bytes z n=>ane rest A d e bytes z n,fun _ _ _ _ _ _=>rfl,
  fun rest A d x=>anm rest A d x,fun _ _ _ _=>rfl,fun _ _ _ _ _=>rfl,amZ,fun _ _=>rfl,fun _ _ _ _=>rfl,anj,fun _ _ _ _=>rfl⟩
theorem cD:(∀ n p z lo k,ca none (.view n p z lo k)=true)∧(∀ n,ca none (.mref n)=true)∧(∀ n p,ca none (.ptr n p)=true)∧(∀ x,ca none (.ref x)=true)∧ca none .nilp=true∧ca none .dv=true∧ca none (.raw (.map none))=true∧(∀ ks vs,ca none (.c6 ks vs)=true)∧(∀ {α:Type} [Enc α] (l:List α),ca none (enc l)=true) :=
 ⟨fun _ _ _ _ _=>rfl,fun _=>rfl,fun _ _=>rfl,fun _=>rfl,rfl,rfl,rfl,fun _ _=>rfl,fun l=>by simp[kW,nF]⟩
theorem Lf{A:ae}{d bytes:Nat}{z:I}{rest:List aG}{n:Nat}(h1:n*bytes≤281474976710656)(h2:n≤maxLen):tV A d bytes z rest (.int .i64 n)=aC rest ((A.aR d (.box (.agg (List.replicate n z)))).put d (.view d [] 1 0 n)):=by
 simp only[tV,Int.toNat_natCast];rw[if_pos ⟨Int.natCast_nonneg n,h1,h2⟩]
section
variable {α:Type} [Enc α] [DecidableEq α] {ty:cU}
theorem wD(aA:∀ x y:α,cn ty (enc x) (enc y)=some (decide (x=y)))(k:α):∀ (ks:List α) (i:Nat),fm ty (enc k) (ks.map enc) i=some ((ks.findIdx? fun x=>decide (k=x)).map (· + i))
 | [],i=>rfl
 |x::ks,i=>by
  simp only[zy2,fm,aA,List.findIdx?_cons];by_cases h:k=x
  ·simp[h]
  ·simp only[h,decide_false,zz8,if_false];rw[wD aA k ks (i+1)];cases ks.findIdx? fun x=>decide (k=x) with
   |none=>rfl
   |some j=>simp;omega
theorem yg(aA:∀ x y:α,cn ty (enc x) (enc y)=some (decide (x=y)))(z:I)(k:α)(ks:List α)(vs:List I) :
  gG ty z (enc k) (ks.map enc) vs=match ks.findIdx? fun x=>decide (k=x) with
   |some i=>(vs[i]?).map fun v=>(v,true)
   |none=>some (z,false):=by
 simp only[gG,aA,Option.isSome_some,if_true,wD aA];cases ks.findIdx? fun x=>decide (k=x) <;>rfl
theorem Lg(aA:∀ x y:α,cn ty (enc x) (enc y)=some (decide (x=y)))(k:α)(v:I)(hv:v.cu=true)(ks:List α)(vs:List I) :
  gH ty (enc k) v (ks.map enc) vs=match ks.findIdx? fun x=>decide (k=x) with
   |some i=>some (ks.map enc,vs.set i v)
   |none=>some ((ks++[k]).map enc,vs++[v]):=by
 simp only[gH,aA,Option.isSome_some,hv,KS (dL k),and_self,if_true,wD aA];cases ks.findIdx? fun x=>decide (k=x) with
 |none=>simp
 |some i=>rfl
omit [Enc α] in
theorem EG{k:α}{ks:List α} : (ks.findIdx? fun x=>decide (k=x)).isSome=decide (k∈ks):=by
 induction ks with
 |nil=>rfl
 |cons x ks ih =>
  simp only[List.findIdx?_cons,zw2];by_cases h:k=x
  ·simp[h]
  ·simp only[h,decide_false,zz8,if_false,Option.isSome_map,ih,false_or]
theorem ama(aA:∀ x y:α,cn ty (enc x) (enc y)=some (decide (x=y)))(k:α)(ks:List α):gG ty (.bool false) (enc k) (ks.map enc) (List.replicate ks.length (.bool true))=some (.bool (decide (k∈ks)),decide (k∈ks)):=by
 rw[yg aA,←EG];cases h:ks.findIdx? fun x=>decide (k=x) with
 |none=>rfl
 |some i =>
  have:=(zv9.1 h).1;simp[this]
def nt{α:Type}[DecidableEq α](ks:List α)(k:α):List α:=if k∈ks then ks else ks++[k]
omit [Enc α] in
theorem aml{ks:List α}{k x:α} : x∈nt ks k↔x=k∨x∈ks:=by
 unfold nt;split
 ·rename_i h;exact ⟨.inr,fun h2=>h2.elim (fun e=>e▸h) id⟩
 ·simp[or_comm]
theorem amw(aA:∀ x y:α,cn ty (enc x) (enc y)=some (decide (x=y)))(k:α)(ks:List α):gH ty (enc k) (.bool true) (ks.map enc) (List.replicate ks.length (.bool true))=some ((nt ks k).map enc,List.replicate (nt ks k).length (.bool true)):=by
 rw[Lg aA k _ rfl];have hm:=EG (k:=k) (ks:=ks);cases h:ks.findIdx? fun x=>decide (k=x) with
 |none =>
  rw[h] at hm;have:k∉ks:=by simpa using hm.symm
  simp only[nt,if_neg this]
  congr 2
  rw[zz5,List.length_singleton,List.replicate_succ']
 |some i =>
  rw[h] at hm;have:k∈ks:=by simpa using hm.symm
  simp only[nt,if_pos this]
  congr 2
  have:=(zv9.1 h).1;exact List.ext_getElem (by simp) fun j h1 h2=>by
   simp only[List.getElem_set,List.getElem_replicate];split <;>rfl
end
section
variable {α:Type} [Enc α]
theorem AS{xs:List α}{i:Nat}(d:α)(h:i<xs.length):jG i [] (some (xs.map enc))=some (enc (xs.getD i d)):=by
 simp[jG,oA,h,I.at,zz2]
theorem OY{A:ae}{n i:Nat}{xs:List α}(v u:α){rest:List aG}(hA:Enc.gb α=false)(h:i<xs.length):dx A none n [i] (.agg (xs.map enc)) (enc v) rest (some (enc u))=aC rest (A.aR n (.box (.agg ((xs.set i v).map enc)))):=by
 rw[eF (dO v) (by rw[kW,hA];rfl) ((eL v).trans (eL u).symm)];have h2:(xs.map (enc (α:=α)))[i]?=some (enc (xs[i])):=by simp[h]
 simp only[I.dQ,h2,List.map_set]
end
theorem OZ{A:ae}{n i:Nat}{xs:List Bool}(h:i<xs.length)(v u:Bool)(rest:List aG):dx A none n [i] (.agg (xs.map enc)) (.bool v) rest (some (.bool u))=aC rest (A.aR n (.box (.agg ((xs.set i v).map enc)))):=OY v u rfl h
theorem mw{A:ae}{n i:Nat}{xs:List Int}(h:i<xs.length)(v u:Int)(rest:List aG):dx A none n [i] (.agg (xs.map enc)) (.int .i64 v) rest (some (.int .i64 u))=aC rest (A.aR n (.box (.agg ((xs.set i v).map enc)))):=OY v u rfl h
theorem sG{xs:List Bool}{i:Nat}(h:i<xs.length):jG i [] (some (xs.map enc))=some (.bool (xs.getD i false)):=AS false h
theorem fJ{xs:List Int}{i:Nat}(h:i<xs.length):jG i [] (some (xs.map enc))=some (.int .i64 (xs.getD i 0)):=AS 0 h
theorem nT{m sz lo l i:Nat}{fs:List I}(h:i<l):jn m [] sz lo l sz (i:Int) (some fs)=some (.ptr m [lo+i]):=by rw[yb h];rfl
theorem aaK{α:Type}[Enc α]{A:ae}{m n sz k:Nat}{xs:List α}(ho:A.o n=some (.box (.agg (xs.map enc))))(hs:Enc.sz α=sz)(hk:k=xs.length):dD A (m+1) (.view n [] sz 0 k)=some (enc xs):=by
 subst hk hs;have h1:cC A (.ptr n [])=some (.agg (xs.map enc)):=by simp only[cC,ho];rfl
 simp only[dD,I.bu,zz8,if_false,h1];have h2:((xs.map (enc (α:=α))).drop 0).take xs.length=xs.map enc:=by rw[List.drop_zero,zw1 (by simp)]
 rw[h2,if_pos (jZ xs),gB]
theorem gA:(∀ {α:Type} [Enc α] (x:α),(enc x).bu=true)∧(∀ n p z lo k,(I.view n p z lo k).bu=false)∧(∀ n,(I.mref n).bu=false)∧(∀ n p,(I.ptr n p).bu=false)∧(∀ n k,(I.own n k).bu=false) :=
 ⟨@dL,fun _ _ _ _ _=>rfl,fun _=>rfl,fun _ _=>rfl,fun _ _=>rfl⟩
end Go.Abs
namespace Go.Abs
open Go Go.RowKit
open Enc (enc)
theorem az.Rl{A:ae}{d n T z:Nat}(hd:A.t d=.nils z)(hn:A.o n=none)(hlt:n<1000000):az A ((A.aR n (.c5 T [])).put d (.own n 0)):=by
 rintro c a w ⟨D,E,h⟩;have aA:E n=none:=by have:=h.bV n;rw[hn] at this;exact this
 have hl:dV w D E w D (fun m=>if m=n then some (.rw none 0) else E m):=by
  have eD:∀ {m:Nat} {e:bZ},E m=some e→(if m=n then some (.rw none 0) else E m)=some e:=fun {m e} he=>by
   have:m≠n:=fun e=>by rw[e,aA] at he;cases he
   rw[if_neg this];exact he
  refine ⟨fun _ _ h=>h,fun _ _ _ _ h=>h,fun m b aU he=>eD he,fun m aI l he =>?_,fun m b he=>eD he,fun m b he=>eD he,fun _ _ _ _ h=>h⟩
  ·have:m≠n:=fun e=>by rw[e,aA] at he;cases he
   exact ⟨aI,l,by simp only[if_neg this];exact he,zz9 _,fun _=>rfl⟩
 refine ⟨D,fun m=>if m=n then some (.rw none 0) else E m,h.sz,h.eW,fun t =>?_,h.dW,h.dc,h.dm,fun m =>?_,fun m m' e e' b h1 h2 h3 h4 =>?_,fun m e hm =>?_,h.ff,h.cQ,h.fh,h.fO⟩
 ·simp only[ae.put,ae.aR];by_cases ht:t=d
  ·subst ht;simp only[if_true];have hv:=h.en t;rw[hd] at hv;obtain ⟨cs,q1,q2⟩:=hv;simp only[af] at q2;subst q2;refine ⟨[.slice none 0 0],by simpa[bR,I.isAgg] using q1,?_⟩;simp only[af,if_true];exact ⟨none,0,rfl,zz9 _,⟨_,_,_,rfl⟩,fun _=>trivial⟩
  ·simp only[if_neg ht];exact aY.bM hl (h.en t)
 ·simp only[ae.put,ae.aR];by_cases hm:m=n
  ·subst hm;simp only[if_true,de];exact ⟨none,by simp,by simp,trivial⟩
  ·simp only[if_neg hm];exact (h.bV m).bM hl (by simp only[if_neg hm]) fun _ _ _ _=>⟨rfl,fun _ ho=>ho⟩
 ·by_cases hm:m=n <;>by_cases hm':m'=n
  ·rw[hm,hm']
  ·simp only[if_pos hm,t7] at h1;subst h1;simp[bZ.aI] at h3
  ·simp only[if_pos hm',t7] at h2;subst h2;simp[bZ.aI] at h4
  ·simp only[if_neg hm] at h1;simp only[if_neg hm'] at h2;exact h.c4 m m' e e' b h1 h2 h3 h4
 ·have hmn:m≠n:=fun e=>by rw[e,h.kz (.inr hlt)] at hm;cases hm
  simp only[if_neg hmn];exact h.dZ m e hm
theorem az.AF{ts:List (Nat×I)}{os:List (Nat×ah)}(d n T z:Nat)(hd:bQ ts d=.nils z)(hn:ak os n=none){B:ae}(h:az (ar ((d,.own n 0)::ts) ((n,.c5 T [])::os)) B)(hlt:n<1000000:=by decide):az (ar ts os) B :=
 ((az.Rl (A:=ar ts os) (T:=T) hd hn hlt).trans (by rw[l8,tQ];exact az.refl _)).trans h
theorem az.Rm{A:ae}{m n T z:Nat}{p:List Nat}{b:I}(hm:A.o m=some (.box b))(hp:b.at p=some (.nils z))(hn:A.o n=none)(hlt:n<1000000):az A ((A.aR n (.c5 T [])).aR m (.box (b.dQ p (.own n 0)))):=by
 rintro c a w ⟨D,E,h⟩;have aA:E n=none:=by have:=h.bV n;rw[hn] at this;exact this
 have hmn:m≠n:=fun e=>by rw[e,hn] at hm;cases hm
 have hl:dV w D E w D (fun m=>if m=n then some (.rw none 0) else E m):=by
  have eD:∀ {m:Nat} {e:bZ},E m=some e→(if m=n then some (.rw none 0) else E m)=some e:=fun {m e} he=>by
   have:m≠n:=fun e=>by rw[e,aA] at he;cases he
   rw[if_neg this];exact he
  refine ⟨fun _ _ h=>h,fun _ _ _ _ h=>h,fun m b aU he=>eD he,fun m aI l he =>?_,fun m b he=>eD he,fun m b he=>eD he,fun _ _ _ _ h=>h⟩
  ·have:m≠n:=fun e=>by rw[e,aA] at he;cases he
   exact ⟨aI,l,by simp only[if_neg this];exact he,zz9 _,fun _=>rfl⟩
 refine ⟨D,fun m=>if m=n then some (.rw none 0) else E m,h.sz,h.eW,fun t=>aY.bM hl (h.en t),h.dW,h.dc,h.dm,fun k =>?_,fun m m' e e' b h1 h2 h3 h4 =>?_,fun m e hm =>?_,h.ff,h.cQ,h.fh,h.fO⟩
 ·simp only[ae.aR];by_cases hk:k=m
  ·subst hk;have ho:=h.bV k;rw[hm] at ho;obtain ⟨b',cs,T',h1,h2,h3,h4,h5⟩:=ho;obtain ⟨q1,q2⟩:=zd (y:=.own n 0) (af.bM hl _ _ h4) hp (fun ds hd=>by
    simp only[af] at hd;subst hd;simp only[af,if_true];exact ⟨none,0,rfl,zz9 _,⟨_,_,_,rfl⟩,fun _=>trivial⟩) rfl
   simp only[if_true,de];exact ⟨b',cs,T',by rw[q2];simp only[if_neg hmn];exact h1,h2,h3,q1,h5⟩
  ·simp only[if_neg hk];by_cases hkn:k=n
   ·subst hkn;simp only[if_true,de];exact ⟨none,by simp,by simp,trivial⟩
   ·simp only[if_neg hkn];exact (h.bV k).bM hl (by simp only[if_neg hkn]) fun _ _ _ _=>⟨rfl,fun _ ho=>ho⟩
 ·by_cases hm:m=n <;>by_cases hm':m'=n
  ·rw[hm,hm']
  ·simp only[if_pos hm,t7] at h1;subst h1;simp[bZ.aI] at h3
  ·simp only[if_pos hm',t7] at h2;subst h2;simp[bZ.aI] at h4
  ·simp only[if_neg hm] at h1;simp only[if_neg hm'] at h2;exact h.c4 m m' e e' b h1 h2 h3 h4
 ·have hmn:m≠n:=fun e=>by rw[e,h.kz (.inr hlt)] at hm;cases hm
  simp only[if_neg hmn];exact h.dZ m e hm
theorem az.Rn{ts:List (Nat×I)}{os:List (Nat×ah)}(m n T z:Nat)(p:List Nat)(b:I)(hm:ak os m=some (.box b))(hp:b.at p=some (.nils z))(hn:ak os n=none){B:ae}(h:az (ar ts ((m,.box (b.dQ p (.own n 0)))::(n,.c5 T [])::os)) B)(hlt:n<1000000:=by decide):az (ar ts os) B :=
 ((az.Rm (A:=ar ts os) (T:=T) hm hp hn hlt).trans (by rw[l8,l8];exact az.refl _)).trans h
theorem vq{A:ae}{d:Option Nat}{e bytes n l:Nat}{xs:List Int}{y:Int}{rest:List aG}(hl:l=xs.length)(h1:xs.length+1≤maxLen)(h2:(xs.length+1)*bytes≤140737488355328) :
  pw A d e 1 bytes (.int .i64 0) n l e xs rest (enc [y])=aC rest ((A.aR n (.c5 e (xs++[y]))).aS d (.own n (xs.length+1))):=by
 show pw A d e 1 bytes (.int .i64 0) n l e xs rest (.slice 1 [.int .i64 y])=_
 simp only[pw];rw[if_pos ⟨hl,rfl,rfl,rfl,rfl,by simp,h1,h2⟩];rfl
def fq(n k:Nat):I→I
 | .own n' k'=>if n'=n∧k'=k then .view n [] 1 0 k else .own n' k'
 |v=>v
def fW(n:Nat):I→I
 | .own n' k'=>if n'=n∧k'=0 then .nils 1 else .own n' k'
 |v=>v
def iI(f:I→I):ah→ah
 | .box v=>.box (f v)
 |y=>y
def mZ(n k:Nat)(v:I):Prop:=v=.own n k∨v.only (fun j=>j != n)=true
def anE(n k:Nat)(y:ah):Prop:=y=.box (.own n k)∨y.only (fun j=>j != n)=true
theorem qA{n k:Nat}{v:I}(h:v.only (fun j=>j != n)=true):fq n k v=v:=by
 cases v <;>try rfl
 rename_i n' k';simp only[I.only,bne_iff_ne,ne_eq] at h;simp only[fq,h,false_and,if_false]
theorem zP{n:Nat}{v:I}(h:v.only (fun j=>j != n)=true):fW n v=v:=by
 cases v <;>try rfl
 rename_i n' k';simp only[I.only,bne_iff_ne,ne_eq] at h;simp only[fW,h,false_and,if_false]
theorem nU(f:I→I)(hf:f .dg=.dg)(ts:List (Nat×I))(t:Nat):bQ (ts.map fun q=>(q.1,f q.2)) t=f (bQ ts t):=by
 induction ts with
 |nil=>exact hf.symm
 |cons q ts ih =>
  obtain ⟨k,v⟩:=q;simp only[zy2,bQ];split
  ·rfl
  ·exact ih
theorem rz(f:ah→ah)(os:List (Nat×ah))(t:Nat):ak (os.map fun q=>(q.1,f q.2)) t=(ak os t).map f:=by
 induction os with
 |nil=>rfl
 |cons q os ih =>
  obtain ⟨k,v⟩:=q;simp only[zy2,ak];split
  ·rfl
  ·exact ih
theorem de.dI{M:Nat→Prop}{w:World}{D:aV}{E E':a6}{p:Nat→Bool}(hp:∀ n,p n=true→E' n=E n){m:Nat}(aA:E' m=E m){y:ah}(hon:y.only p=true)(ho:de M w D E m (some y)):de M w D E' m (some y):=by
 cases y with
 |box x =>
  obtain ⟨b,cs,T,k1,k2,k3,k4,k5⟩:=ho;exact ⟨b,cs,T,aA.trans k1,k2,k3,af.dI hp _ _ (by simpa[ah.only] using hon) k4,k5⟩
 |b5 T sz es =>
  obtain ⟨aI,k1,k2,k3⟩:=ho;refine ⟨aI,aA.trans k1,k2,?_⟩;cases aI with
  |none=>exact k3
  |some bc =>
   obtain ⟨b,cap⟩:=bc;obtain ⟨cs,pre,rest,q1,q2,q3,q4,q5⟩:=k3;exact ⟨cs,pre,rest,q1,q2,q3,aL.dI hp _ _ (by simpa[ah.only] using hon) q4,q5⟩
 |c5 T xs =>
  obtain ⟨aI,k1,k2,k3⟩:=ho;exact ⟨aI,aA.trans k1,k2,k3⟩
 |dT x =>
  obtain ⟨b,k1,k2⟩:=ho;exact ⟨b,aA.trans k1,k2⟩
 |cB ks vs =>
  obtain ⟨b,es,ck,k1,k2,k3,k4,k5,k6,k7⟩:=ho;simp only[ah.only,zz4] at hon;exact ⟨b,es,ck,aA.trans k1,k2,k3,k4,aK.dI hp _ _ hon.1 k5,aK.dI hp _ _ hon.2 k6,k7⟩
 |it ks vs left cur =>
  obtain ⟨r,b,es,ck,si,se,la,k1,k2,k3,k4,k5,k6,k7⟩:=ho;simp only[ah.only,zz4] at hon;exact ⟨r,b,es,ck,si,se,la,aA.trans k1,k2,k3,k4,aK.dI hp _ _ hon.1 k5,aK.dI hp _ _ hon.2 k6,k7⟩
theorem qp(xs:List Int):(I.agg (xs.map enc)).aU=.ej (List.replicate xs.length .one):=by
 show cY.ej (I.cX _)=_
 congr 1
 induction xs with
 |nil=>rfl
 |cons x xs ih=>simp only[zy2,I.cX,ih,List.length_cons,List.replicate_succ];rfl
theorem ql{w:World}{D:aV}{E:a6} : ∀ {xs:List Int},(∀ x∈xs,IntKind.i64.min≤x∧x≤IntKind.i64.max)→aL w D E (xs.map enc) (xs.map (Value.int .i64))
 | [],_=>rfl
 |x::xs,h=>⟨[.int .i64 x],xs.map (Value.int .i64),rfl,⟨rfl,h x (by simp)⟩,ql fun y hy=>h y (by simp[hy])⟩
theorem az.Pa{ts:List (Nat×I)}{os:List (Nat×ah)}{n T:Nat}{B:ae}(hn:ak os n=some (.c5 T []))
  (h:az (ar (ts.map fun q=>(q.1,fW n q.2)) (os.map fun q=>(q.1,iI (fW n) q.2))) B):az (ar ts os) B:=by
 refine az.trans ?_ h;rintro c a w ⟨D,E,hs⟩;obtain ⟨aI,aA,-,hblk⟩:=hs.r2 (n:=n) (T:=T) (xs:=[]) hn;have hnone:aI=none:=by
  cases aI with
  |none=>rfl
  |some bc=>obtain ⟨b,cap⟩:=bc;obtain ⟨_,_,_,_,_,h,_⟩:=hblk;exact absurd rfl h
 subst hnone;have conv:∀ (v:I) (cs:List Value),af w D E v cs→af w D E (fW n v) cs:=fun v cs hr=>by
  cases v <;>try exact hr
  rename_i n' k';simp only[fW];split
  ·rename_i hh;obtain ⟨rfl,rfl⟩:=hh;obtain ⟨blk',l,q3,q4,q5,q6⟩:=hr;rw[aA] at q3;simp only[t7,bZ.rw.injEq,zv7] at q3;obtain ⟨rfl,rfl⟩:=q3;exact q6 rfl
  ·exact hr
 refine ⟨D,E,hs.sz,hs.eW,fun t =>?_,hs.dW,hs.dc,hs.dm,fun m =>?_,hs.c4,hs.dZ,hs.ff,hs.cQ,hs.fh,hs.fO⟩
 ·show aY w D E (bQ _ t) _
  rw[nU _ rfl];have:=hs.en t;simp only[ar] at this;revert this;generalize bQ ts t=v;intro hv;cases v <;>try exact hv
  rename_i n' k';obtain ⟨cs,q1,q2⟩:=hv;have:=conv _ _ q2
  revert this;simp only[fW];split
  ·intro this;exact ⟨cs,q1,this⟩
  ·intro this;exact ⟨cs,q1,this⟩
 ·show de _ w D E m (ak _ m)
  rw[rz];have:=hs.bV m;simp only[ar] at this;revert this;cases ak os m with
  |none=>exact id
  |some y =>
   cases y <;>try exact id
   rename_i x;rintro ⟨b,cs,T,k1,k2,k3,k4,k5⟩;refine ⟨b,cs,T,?_,k2,k3,conv _ _ k4,k5⟩;rw[k1];have:(fW n x).aU=x.aU:=by
    cases x <;>try rfl
    simp only[fW];split <;>rfl
   rw[this]
theorem J.zU{c:cT}{x:aN}{Q:Exit→ae→Prop}{ts:List (Nat×I)}{os:List (Nat×ah)}{n T:Nat}{xs:List Int}(hn:ak os n=some (.c5 T xs))(hne:xs≠[])(hlt:n<1000000)
  (ht:∀ t,mZ n xs.length (bQ ts t)) (ho:∀ m y,ak os m=some y→m≠n→anE n xs.length y)
  (h:∀ q:Nat,J c x Q (ar (ts.map fun p=>(p.1,fq n xs.length p.2)) ((n,.box (.agg ((xs++List.replicate q 0).map enc)))::os.map fun p=>(p.1,iI (fq n xs.length) p.2)))):J c x Q (ar ts os):=by
 rintro code hc a w ⟨D,E,hs⟩;obtain ⟨aI,aA,hr,hblk⟩:=hs.r2 (n:=n) hn;cases aI with
 |none=>exact absurd hblk hne
 |some bc =>
 obtain ⟨b,cap⟩:=bc;obtain ⟨cs,q,hM,hb,hcs,-,hcap,hmax,hD⟩:=hblk;have hp:∀ j,(fun j=>j != n) j=true→(fun j=>if j=n then some (bZ.aD b (.ej (List.replicate (xs.length+q) .one))) else E j) j=E j:=fun j hj=>by
  have:j≠n:=by simpa using hj
  simp only[if_neg this]
 have conv:∀ cs0,af w D E (.own n xs.length) cs0→af w D (fun j=>if j=n then some (bZ.aD b (.ej (List.replicate (xs.length+q) .one))) else E j) (.view n [] 1 0 xs.length) cs0:=fun cs0 hr=>by
  obtain ⟨blk',l,q3,q4,q5,q6⟩:=hr;rw[aA] at q3;simp only[t7,bZ.rw.injEq] at q3;obtain ⟨rfl,rfl⟩:=q3;have:=q6 rfl;refine ⟨b,_,0,List.replicate (xs.length+q) .one,if_pos rfl,rfl,rfl,?_,by rw[zv3];omega,by rw[zv3];omega,fun s hs =>?_⟩
  ·rw[this,zv3];simp only[Nat.zero_mul,Nat.add_zero,Nat.sub_zero,hcap]
  ·rw[List.eq_of_mem_replicate hs];rfl
 refine h q code hc a w ⟨D,fun j=>if j=n then some (.aD b (.ej (List.replicate (xs.length+q) .one))) else E j,hs.sz,hs.eW,fun t =>?_,hs.dW,hs.dc,hs.dm,fun m =>?_,fun m m' e e' b1 h1 h2 h3 h4 =>?_,fun m e hm =>?_,hs.ff,hs.cQ,hs.fh,hs.fO⟩
 ·show aY w D _ (bQ _ t) _
  rw[nU _ rfl];have hv:=hs.en t;simp only[ar] at hv;rcases ht t with h1 | h1
  ·rw[h1] at hv ⊢;simp only[fq,and_self,if_true];obtain ⟨cs0,q1,q2⟩:=hv;exact ⟨cs0,q1,conv _ q2⟩
  ·rw[qA h1];exact aY.dI hp h1 hv
 ·show de _ w D _ m (ak _ m)
  simp only[ak];by_cases hm:m=n
  ·subst hm;simp only[if_true];refine ⟨b,cs,T,?_,hM,hb,?_,hD⟩
   ·simp only[if_true];rw[qp,zz5,zv3]
   ·show aL w D _ _ _
    rw[hcs];refine ql fun y hy =>?_;rcases zx1.1 hy with hy | hy
    ·exact hr y hy
    ·rw[List.eq_of_mem_replicate hy];decide
  ·simp only[if_neg hm];rw[rz];have hob:=hs.bV m;simp only[ar] at hob;cases hy:ak os m with
   |none=>rw[hy] at hob;simp only[de,zu4] at hob ⊢;rw[if_neg hm];exact hob
   |some y =>
    rw[hy] at hob;rcases ho m y hy hm with rfl | h1
    ·obtain ⟨b1,cs1,T1,k1,k2,k3,k4,k5⟩:=hob;refine ⟨b1,cs1,T1,?_,k2,k3,?_,k5⟩
     ·simp only[if_neg hm];rw[k1];simp only[fq,and_self,if_true];rfl
     ·simp only[fq,and_self,if_true];exact conv _ k4
    ·have e:iI (fq n xs.length) y=y:=by
      cases y <;>try rfl
      simp only[ah.only] at h1;simp only[iI,qA h1]
     simp only[zy7,e];exact hob.dI hp (if_neg hm) h1
 ·have cut:∀ m e,(if m=n then some (bZ.aD b (.ej (List.replicate (xs.length+q) .one))) else E m)=some e→∃ e2,E m=some e2∧e2.aI=e.aI:=fun m e he=>by
   by_cases hm:m=n
   ·subst hm;rw[if_pos rfl] at he;cases he;exact ⟨_,aA,rfl⟩
   ·rw[if_neg hm] at he;exact ⟨e,he,rfl⟩
  obtain ⟨e2,k1,k2⟩:=cut m e h1;obtain ⟨e3,k3,k4⟩:=cut m' e' h2;exact hs.c4 m m' e2 e3 b1 k1 k3 (k2.trans h3) (k4.trans h4)
 ·have hmn:m≠n:=fun e=>by rw[e,hs.kz (.inr hlt)] at hm;cases hm
  simp only[if_neg hmn];exact hs.dZ m e hm
end Go.Abs
namespace Go.Abs
open Go Go.RowKit
def KV(n:Nat)(cl:List Nat)(i:Nat):Bool:=(List.range n).all fun j=>j==i||(cl.getD i 0).testBit j
def um(hs:List FuncId)(L:eG)(on:List (List Nat))(gs:List aG)(cl:List Nat)(σ:List Nat):Bool :=
 (Nat.beq σ.length gs.length&&(rE σ&&(σ.all (fun i=>decide (i<gs.length))&&((List.range gs.length).all (fun i=>σ.contains i)&&(List.range gs.length).all fun i=>oQ (gs.getD i default).op&&(iF L (gs.getD i default)||(KV gs.length cl i&&σ.getLast?==some i))))))&&(qI hs L gs cl [] σ&&(List.range gs.length).all fun i=>(on.getD i []).all (fun k=>decide (k<i))&&Nat.beq (cl.getD i 0) (oo cl (on.getD i [])))
structure Az (hs:List FuncId) (L:eG) (l:List Oper) (gs:List aG) (σ:List Nat):Prop where
 tY:σ.Nodup
 lt:∀ i∈σ,i<gs.length
 all:∀ i,i<gs.length→i∈σ
 ok:∀ i,i<gs.length→oQ (gs.getD i default).op=true
 tD:∀ i o,l[i]?=some o→iF L (gs.getD i default)=true∨(σ.getLast?=some i∧∀ (S:Nat→Prop),(∀ i o,l[i]?=some o→S i→∀ k∈c9 o,S k)→(∀ k∈c9 o,S k)→∀ j,j<gs.length→j≠i→S j)
 len:σ.length=gs.length
 nw:∀ i o,l[i]?=some o→∀ k∈c9 o,k<i
 rj:∀ (S:Nat→Prop),(∀ i o,l[i]?=some o→S i→∀ k∈c9 o,S k)→∀ s1 i s2 o,σ=s1++i::s2→l[i]?=some o→(∀ k∈c9 o,S k)→∀ j∈s1,¬ S j→nQ hs L (gs.getD j default) (gs.getD i default)=true
theorem an3{hs:List FuncId}{L:eG}{l:List Oper}{gs:List aG}{cl σ:List Nat}(hlen:gs.length=l.length)(h:um hs L (l.map c9) gs cl σ=true):Az hs L l gs σ:=by
 simp only[um,zz4,zx9,decide_eq_true_eq,zv2,List.contains_eq_mem] at h;obtain ⟨⟨h1,h2,h3,h4,h5⟩,h6,h7⟩:=h;have cm:∀ i o,l[i]?=some o→(∀ k∈c9 o,k<i)∧(∀ j,(cl.getD i 0).testBit j=true→j∈c9 o∨∃ k∈c9 o,(cl.getD k 0).testBit j=true):=by
  intro i o ho;have hi:i<l.length:=(zy6.1 ho).1;have h8:=h7 i (by omega);have hon:(l.map c9).getD i []=c9 o:=by simp[zz2,ho]
  rw[hon] at h8;have hb:=Nat.eq_of_beq_eq_true h8.2;exact ⟨h8.1,fun j hj=>uT (by rw[←hb];exact hj)⟩
 have keyS:∀ (S:Nat→Prop),(∀ i o,l[i]?=some o→S i→∀ k∈c9 o,S k)→∀ n i o,i≤n→l[i]?=some o→(∀ k∈c9 o,S k)→∀ j,(cl.getD i 0).testBit j=true→S j:=by
  intro S hS n
  induction n with
  |zero =>
   intro i o hi ho hon j hj;obtain ⟨h8,h9⟩:=cm i o ho;rcases h9 j hj with h | ⟨k,hk,_⟩
   ·exact hon j h
   ·have:=h8 k hk;omega
  |succ n ih =>
   intro i o hi ho hon j hj;obtain ⟨h8,h9⟩:=cm i o ho;rcases h9 j hj with h | ⟨k,hk,hjk⟩
   ·exact hon j h
   ·have hki:=h8 k hk;have hkl:k<l.length:=Nat.lt_trans hki (zy6.1 ho).1;obtain ⟨ok,hok⟩:∃ ok,l[k]?=some ok:=⟨l[k],zy1 hkl⟩
    exact ih k ok (by omega) hok (hS k ok hok (hon k hk)) j hjk
 refine ⟨yx h2,h3,h4,fun i hi=>(h5 i hi).1,fun i o ho =>?_,Nat.eq_of_beq_eq_true h1,fun i o ho=>(cm i o ho).1,?_⟩
 ·have hi:i<gs.length:=by rw[hlen];exact (zy6.1 ho).1
  have h5o:=(h5 i hi).2;rw[Bool.or_eq_true] at h5o;rcases h5o with h | h
  ·exact .inl h
  ·rw[zz4] at h;obtain ⟨h,hla⟩:=h;refine .inr ⟨by simpa using hla,fun S hS hon j hj hji =>?_⟩;simp only[KV,zx9,zv2,Bool.or_eq_true,beq_iff_eq] at h;rcases h j hj with e | e
   ·exact absurd e hji
   ·exact keyS S hS i i o (zz9 _) ho hon j e
 intro S hS s1 i s2 o e ho hon j hj hnj;have key:=keyS S hS;rcases vl h6 s1 i s2 e j (.inr hj) with h | h
 ·exact absurd (key i i o (zz9 _) ho hon j h) hnj
 ·exact h
section
variable {c:cT}
theorem Rt{K:ae→Prop}{fs:List FuncId}{L:eG}{bI:Array Oper}{gs:List aG}{σ:List Nat}{Q:Exit→Act→World→Prop}(hQ:∀ B a w,K B→cv c B a w→Q .normal a w)(hgs:kr c.P c.n bI bI.toList=some gs)(hd:Az fs L bI.toList gs σ) :
  ∀ (fuel:Nat) (listed:Array Bool) (A:ae) (a:Act) (w:World),listed.size=bI.size→(∀ i o,bI.toList[i]?=some o→listed.getD i false=true→∀ k∈c9 o,listed.getD k false=true)→(fg σ listed).length≤fuel →
   (fg σ listed=[]∨eA L A)→cj c.P fs K (aC (jP gs σ listed) A)→cv c A a w→wpAnyIn c.bp 9 c.P .any bI Q fuel listed a w:=by
 obtain ⟨hlen,hat⟩:=ku hgs;have onOf_mem:∀ (o:Oper) (e:Edge),e∈o.after→Region.binds .any e=true→e.on∈c9 o:=fun o e he hb=>by
  simp only[c9,zw5,zv6];exact ⟨e,⟨by simpa using he,hb⟩,rfl⟩
 have of_onOf:∀ (o:Oper) (k:Nat),k∈c9 o→∃ e∈o.after,Region.binds .any e=true∧e.on=k:=fun o k hk=>by
  simp only[c9,zw5,zv6] at hk;obtain ⟨e,⟨h1,h2⟩,h3⟩:=hk;exact ⟨e,by simpa using h1,h2,h3⟩
 have hgl:gs.length=bI.size:=by rw[hlen,zv0]
 have last:∀ (listed:Array Bool) (A:ae) (a:Act) (w:World),listed.size=bI.size→Region.ready .any bI listed=[]→cj c.P fs K (aC (jP gs σ listed) A)→cv c A a w→Q .normal a w:=by
  intro listed A a w hsz hr hwp hs;have hnone:fg σ listed=[]:=by
   have all:∀ n,∀ i,i<n→i<bI.size→listed.getD i true=true:=by
    intro n
    induction n with
    |zero=>intro i hi;omega
    |succ n ih =>
     intro i hi his;cases hb:listed.getD i true with
     |true=>rfl
     |false =>
      exfalso
      have ho:bI[i]?=some bI[i]:=Array.getElem?_eq_getElem his;have:i∈Region.ready .any bI listed:=mem_ready.2 ⟨hb,bI[i],ho,fun e he hbd=>by
       have hlt:=hd.nw i bI[i] (by simp) e.on (onOf_mem _ e he hbd);have h1:=ih e.on (by omega) (by omega);have h2:e.on<listed.size:=by omega
       simpa[Array.getD_eq_getD_getElem?,h2] using h1⟩
      rw[hr] at this;cases this
   simp only[fg];refine List.filter_eq_nil_iff.2 fun i hi =>?_;have:=all (i+1) i (by omega) (by rw[←hgl];exact hd.lt i hi);simp only[this,zu5,zz8,not_false_eq_true]
  simp only[jP,hnone,zx2,aC] at hwp;cases hwp with
  |done hk=>exact hQ A a w hk hs
 intro fuel
 induction fuel with
 |zero =>
  intro listed A a w hsz hcl hcnt hinv hwp hs;have hnone:fg σ listed=[]:=zv5.1 (by omega);have hr:Region.ready .any bI listed=[]:=by
   refine List.eq_nil_iff_forall_not_mem.2 fun i hi =>?_;obtain ⟨h1,o,ho,_⟩:=mem_ready.1 hi;have:i∈fg σ listed:=by
    simp only[fg,zv6,h1,Bool.not_false,and_true];exact hd.all i (by rw[hgl];exact (zx6.1 ho).1)
   rw[hnone] at this;cases this
  exact ⟨hr,last listed A a w hsz hr hwp hs⟩
 |succ fuel ih =>
  intro listed A a w hsz hcl hcnt hinv hwp hs;refine ⟨fun hr=>last listed A a w hsz hr hwp hs,fun i hi =>?_⟩;obtain ⟨hun,o,ho,hall⟩:=mem_ready.1 hi;have hin:i<bI.size:=(zx6.1 ho).1;obtain ⟨s1,s2,hσ,e1,e2⟩:=Oe hd.tY (hd.all i (by omega)) (by omega) hun;have hinv:eA L A:=by
   rcases hinv with h | h
   ·rw[e1] at h;simp at h
   ·exact h
  have hol:bI.toList[i]?=some o:=by simpa using ho
  obtain ⟨g,hgi,hcg⟩:=hat i o hol;have hon:∀ k∈c9 o,listed.getD k false=true:=fun k hk=>by
   obtain ⟨e,h1,h2,h3⟩:=of_onOf o k hk;exact h3▸hall e h1 h2
  have hgd:gs.getD i default=g:=by simp[zz2,hgi]
  have hwp':cj c.P fs K (aC (g::jP gs σ (listed.setIfInBounds i true)) A):=by
   simp only[jP,e1,zx4,zy2,hgd] at hwp;simp only[jP,e2,zx4];refine cj.pB hinv (fun j hj =>?_) hwp;obtain ⟨k,hk,rfl⟩:=zw5.1 hj;obtain ⟨hk1,hk2⟩:=zv6.1 hk;have:=hd.rj (fun k=>listed.getD k false=true) hcl s1 i s2 o hσ hol hon k hk1 (by
    have hks:k<listed.size:=by
     have:=hd.lt k (by rw[hσ];exact List.mem_append_left _ hk1);omega
    simp[Array.getD_eq_getD_getElem?,hks] at hk2 ⊢;exact hk2)
   rw[hgd] at this;have hkl:=hd.lt k (by rw[hσ];exact List.mem_append_left _ hk1);have hks:k<bI.size:=by omega
   refine ⟨this,?_⟩;rcases hd.tD k bI[k] (by simp) with h | h
   ·exact h
   ·exfalso
    have h9:=h.1;rw[hσ,List.getLast?_append] at h9;have hne:(i::s2).getLast?=some k:=by
     cases h10:(i::s2).getLast? with
     |none=>simp at h10
     |some q=>rw[h10] at h9;simpa using h9
    have hk2:k∈i::s2:=List.mem_of_getLast? hne;have hnd:=hd.tY;rw[hσ] at hnd;exact (List.nodup_append.1 hnd).2.2 k hk1 k hk2 rfl
  unfold wpOpIn;rw[ho];have hgm:g∈gs:=List.mem_of_getElem? hgi;have hokg:oQ g.op=true:=by
   have:=hd.ok i (by omega)
   rwa [hgd] at this
  have hcl':∀ m om,bI.toList[m]?=some om→(listed.setIfInBounds i true).getD m false=true→∀ k∈c9 om,(listed.setIfInBounds i true).getD k false=true:=by
   intro m om hom hm k hk;by_cases hmi:m=i
   ·subst hmi;rw[hol,t7] at hom;subst hom;exact getD_set_true (hon k hk)
   ·rw[getD_set_ne false (Ne.symm hmi)] at hm;exact getD_set_true (hcl m om hom hm k hk)
  have hfu:(fg σ (listed.setIfInBounds i true)).length≤fuel:=by
   have:(fg σ listed).length=(fg σ (listed.setIfInBounds i true)).length+1:=by
    rw[e1,e2];simp;omega
   omega
  rcases hd.tD i o hol with hlb | ⟨hla,hlb⟩
  ·rw[hgd] at hlb;exact xK hcg hinv ⟨hokg,hlb⟩ hwp' hs fun B a' w' hw hiB hs'=>ih _ B a' w' (by simpa using hsz) hcl' hfu (.inr hiB) hw hs'
  ·have hnil:fg σ (listed.setIfInBounds i true)=[]:=by
    simp only[fg];refine List.filter_eq_nil_iff.2 fun j hj =>?_;have hjl:=hd.lt j hj;by_cases hji:j=i
    ·subst hji;have:j<listed.size:=by omega
     simp[this]
    ·have h5:=hlb (fun k=>listed.getD k false=true) hcl hon j hjl hji;have hjs:j<listed.size:=by omega
     have h6:(listed.setIfInBounds i true).getD j true=listed.getD j true:=getD_set_ne true (Ne.symm hji);rw[h6];simp[Array.getD_eq_getD_getElem?,hjs] at h5 ⊢;exact h5
   have hin0:eA [] A:=fun s ns h=>by cases h
   exact xK (L:=[]) hcg hin0 ⟨hokg,by simp[iF,jo];cases g.dst <;>rfl⟩ hwp' hs fun B a' w' hw hiB hs'=>ih _ B a' w' (by simpa using hsz) hcl' hfu (.inl hnil) hw hs'
theorem J.aow{Q:Exit→ae→Prop}{A:ae}{on:List (List Nat)}{gs:List aG}(hs:List FuncId)(L:eG)(cl σ:List Nat)(hd:um hs L on gs cl σ=true)(hi:eA L A)(h:∀ K:ae→Prop,(∀ B,Q .normal B→K B)→cj c.P hs K (aC (lj σ gs) A)):J c (.bT (some on) gs) Q A:=by
 intro code hc a w hs';cases code <;>simp only[fk] at hc <;>try (first | (cases hc;done) | ((repeat' split at hc) <;>cases hc;done))
 rename_i id bI draw;split at hc
 ·rename_i gs' hgs;split at hc
  case isFalse=>cases hc
  rename_i hok;simp only[t7,aN.bT.injEq] at hc;obtain ⟨he,rfl⟩:=hc;cases draw with
  |false=>cases he
  |true =>
   simp only[cond_true,t7] at he;subst he;simp only[zu5,Bool.false_or] at hok;have hp:=an3 (ku hgs).1 hd;refine wpIn_region_any hok (Rt (K:=Q .normal) (fun B a w hk hs=>⟨B,hk,hs⟩) hgs hp bI.size (Array.replicate bI.size false) A a _ (by simp) ?_ ?_ (.inr hi) ?_ ?_)
   ·intro i o _ h
    exfalso
    simp only[Array.getD_eq_getD_getElem?,Array.getElem?_replicate] at h;split at h <;>simp at h
   ·refine zu1 (zu2 _ _) ?_;rw[hp.len,(ku hgs).1,zv0];exact zz9 _
   ·have hall:fg σ (Array.replicate bI.size false)=σ:=by
     simp only[fg];refine List.filter_eq_self.2 fun i hi =>?_;have h1:=hp.lt i hi;rw[(ku hgs).1,zv0] at h1;simp[h1]
    simp only[jP,hall];exact h _ fun _ hb=>hb
   ·obtain ⟨D,E,hs'⟩:=hs';exact ⟨D,E,hs'.grow (w' := { w with drawn:=w.drawn+1 }) ⟨rfl,rfl,rfl,zz9 _,fun _ _=>rfl⟩ (fun _ _ h=>h) (fun _ _ h _=>h) (fun b o h=>hs'.dm b o h)⟩
 ·cases hc
end
end Go.Abs
namespace Go.Abs
open Go Go.RowKit
open Enc (enc)
def yc:Option Nat→Code
 |none=>.ret
 |some id=>.exit id
def Ep:Option Nat→Exit
 |none=>.ret
 |some id=>.exit id
def qD(o:Obj)(A:ae)(os:List (Nat×ah)):Prop:=∀ n x,ak (dP o os) n=some x→A.o n=some x∧x.only (al (dP o os))=true∧x.eZ=true
def aoP(o:Obj)(In:List (Nat×ah)→Prop)(Ix:Option Nat→List (Nat×ah)→Prop):Exit→ae→Prop
 | .normal,A=>∃ os,qD o A os∧In os
 | .ret,A=>∃ os,qD o A os∧Ix none os
 | .exit id,A=>∃ os,qD o A os∧Ix (some id) os
 |_,_=>False
def Q4(P:Program)(nn:Nat)(x y:aN)(ps:List Nat)(tsR:List (Nat×I))(N:Nat)(item:Nat→List I)(aj:Nat→List (Nat×ah)→Prop)(Ix:Option Nat→List (Nat×ah)→Prop):Prop :=
 ∀ k osb,k<N→aj k osb→∀ (w:World) (D:aV) (E:a6) (l:Nat) (o1 o2:Obj),
  J ⟨P,w,D,nn,dG E,E,iR,some l⟩ x (au (fun B=>B.o 1999999=some (.dT o1)∧J ⟨P,w,D,nn,dG E,E,iR,some l⟩ y (aoP o2 (aj (k+1)) Ix) (B.aR 1999999 (.dT o2))) (fun _ _=>False)) (ar (rN ps (item k) tsR) (dP o1 osb))
section
variable {c:cT} {Q:Exit→ae→Prop}
theorem alo{o:Obj}{A:ae}{os:List (Nat×ah)}(h:qD o A os)(o':Obj):∀ n x,ak (dP o' os) n=some x→(A.aR 1999999 (.dT o')).o n=some x∧x.only (al (dP o' os))=true∧x.eZ=true:=fun n x hx=>by
 have e:al (dP o' os)=al (dP o os):=by funext m;rw[lY,lY]
 rw[e];by_cases hn:n=1999999
 ·subst hn;rw[pY,if_pos rfl,t7] at hx;subst hx;exact ⟨by simp[ae.aR],rfl,rfl⟩
 ·rw[pY,if_neg hn] at hx;obtain ⟨h1,h2⟩:=h n x (by rw[pY,if_neg hn];exact hx);exact ⟨by simp only[ae.aR,if_neg hn];exact h1,h2⟩
theorem J.lq{f:aM}{ps:List Nat}{x y:aN}{ts tsR:List (Nat×I)}{os0 osb0:List (Nat×ah)}{ρ:List (Nat×Nat)}{g:FuncId}{caps:List I}{N:Nat}{item:Nat→List I}
  (aj:Nat→List (Nat×ah)→Prop) (Ix:Option Nat→List (Nat×ah)→Prop) (hr:c.kI=none) (hn6:c.n≤1000000)
  (hf:ab (ar ts os0) f=.func g caps) (hcl:I.b6 caps=true) (hcb:il c.P g=true) (hit:vi c.P g caps N item) (hlen:∀ k,(item k).length=ps.length)
  (hfree:ak os0 999999=none) (h19:al osb0 1999999=false) (hρ:bJ ρ 1999999=999999)
  (hgv:∀ o,fX ρ (dP o osb0) ((999999,.dT o)::os0)) (hts:ni ρ (al osb0) ts tsR)
  (hI:∀ k os,aj k os→fH osb0 os) (hIx:∀ e os,Ix e os→fH osb0 os) (h0:aj 0 osb0)
  (hround:Q4 c.P c.n x y ps tsR N item aj Ix)
  (hdone:∀ os,aj N os→Q .normal (ar ts (dN ρ os++os0))) (hexit:∀ e os,Ix e os→Q (Ep e) (ar ts (dN ρ os++os0))) :
  J c (.lq f ps x y) Q (ar ts os0):=by
 intro code hc a w hs;cases code <;>simp only[fk] at hc <;>try (first | (cases hc;done) | ((repeat' split at hc) <;>cases hc;done))
 rename_i cf cps cx cy;split at hc
 case h_2=>cases hc
 rename_i f' x' y' hcf hcx hcy;split at hc
 case isFalse=>cases hc
 rename_i hpn;simp only[t7,aN.lq.injEq] at hc;obtain ⟨rfl,rfl,rfl,rfl⟩:=hc;obtain ⟨D,E,hs⟩:=hs;have hF:c.bp=Fence.wide:=by unfold cT.bp;rw[hr]
 have hE0:c.dB 999999=none:=hs.kz (.inr (by decide));have hval:∃ vs:List Value,a.eval cf=.func (.func g) #[] vs.toArray∧aK w D E caps vs:=by
  have hv:=cg hs hcf;rw[hf] at hv;obtain ⟨cs,q1,q2⟩:=hv;simp only[af] at q2;obtain ⟨vs,q3,q4⟩:=q2;exact ⟨vs,by simpa[bR,I.isAgg,q3] using q1.symm,q4⟩
 obtain ⟨vs,hval,hvs⟩:=hval;rw[hF];refine wpIn_rangeFunc fun fn hfn =>?_;obtain ⟨rec,hrec⟩:∃ rec:LoopState→Option Code→Loop,rec=fun bA pe => { state:=bA,pending:=pe,fn,tmps:=a.tmps,params:=cps,assign:=cx,body:=cy,defers:=w.heap.size } :=⟨_,rfl⟩
 obtain ⟨E1,hs1,hE1,hup⟩:=hs.enter hfree hE0 (o:=.loop (rec .ready none)) rfl;obtain ⟨W1,hW1⟩:∃ W1,(w.alloc (.deferred (some []))).alloc (.loop (rec .ready none))=W1:=⟨_,rfl⟩
 rw[hW1] at hs1 hup;obtain ⟨l,hl⟩:∃ l,l=w.heap.size+1:=⟨_,rfl⟩
 rw[←hl] at hE1;obtain ⟨yv,hyv⟩:∃ yv:Value,yv=.func (.yield l) #[] #[]:=⟨_,rfl⟩
 obtain ⟨a1,ha1⟩:∃ a1:Act,a1 = { a with defers := { target:=.collected w.heap.size,args := #[] } :: a.defers } :=⟨_,rfl⟩
 rw[←ha1] at hs1;refine ⟨l,[{ target:=.collected w.heap.size,args := #[] }],W1,{ target:=.fn (.func g) vs.toArray,args := #[yv] },W1,g,#[yv]++vs.toArray,W1,?_,?_,?_,?_,fun _=>by decide,?_⟩
 ·rw[←hW1,hrec,hl];exact run_enterLoop_outer _ _ _ _ _
 ·simp only[resolve,hval,hyv];simp[go_sem]
 ·intro f' _;trivial
 ·simp only[invoke,zo hcb]
 ·-- the iterator's own bargain
  have hG0:=hI 0 osb0 h0;obtain ⟨I',hI'⟩:∃ I':Nat→List (Nat×ah)→Prop,I'=fun k os=>∃ osb,os=dP (.loop (rec .ready none)) osb∧aj k osb:=⟨_,rfl⟩
  obtain ⟨Ix',hIx'⟩:∃ Ix':List (Nat×ah)→Prop,Ix'=fun os=>∃ e osb,os=dP (.loop (rec .done (some (yc e)))) osb∧Ix e osb:=⟨_,rfl⟩
  obtain ⟨os1,hos1⟩:∃ os1,os1=dP (.loop (rec .ready none)) osb0:=⟨_,rfl⟩
  obtain ⟨Y,hY⟩:∃ Y:Value→List I→List (Nat×ah)→cR→Prop,Y=fun v args os post=>v=yv∧∃ k,args=item k∧k<N∧I' k os∧∀ r os2,(r=.bool true∧I' (k+1) os2)∨(r=.bool false∧Ix' os2)→post r os2:=⟨_,rfl⟩
  have kA:∀ k os',I' k os'→fH os1 os':=fun k os' h=>by
   rw[hI'] at h;obtain ⟨osb,rfl,h⟩:=h;rw[hos1];exact (hI k osb h).dP _ _
  have goodx:∀ os',Ix' os'→fH os1 os':=fun os' h=>by
   rw[hIx'] at h;obtain ⟨e,osb,rfl,h⟩:=h;rw[hos1];exact (hIx e osb h).dP _ _
  have hctr:=hit Y yv I' Ix' os1 (by rw[hyv];rfl) (fun k os' post hk h1 h2=>by rw[hY];exact ⟨rfl,k,rfl,hk,h1,h2⟩) kA goodx (by rw[hI'];exact ⟨osb0,hos1,h0⟩);have hgv1:fX ρ os1 ((999999,.dT (.loop (rec .ready none)))::os0):=by rw[hos1];exact hgv _
  obtain ⟨A0,hA0⟩:∃ A0:ae,A0=ar ts ((999999,.dT (.loop (rec .ready none)))::os0):=⟨_,rfl⟩
  have hand:qG (Calls c.P g) (fun w D E=>∀ n,po ⟨c.P,w,D,n,dG E,E,Y,none⟩) (.raw yv::caps) os1 (fun r os'=>r=.tuple []∧(I' N os'∨Ix' os')):=fun w D E vs hy hlive hheld hv=>by
   refine (hctr.2 w D E vs hy hlive hheld hv).mono fun e w' ⟨v,he,D',E',r,os',q⟩=>⟨v,D',E',r,os',he,q⟩
  have hshare:=hs1.o5;obtain ⟨Dh,hDh⟩:∃ Dh,Dh=oX (ar ts ((999999,.dT (.loop (rec .ready none)))::os0)) D E1:=⟨_,rfl⟩
  rw[←hDh] at hshare;have hsh:=hshare.1;obtain ⟨Eh,hEh⟩:∃ Eh,Eh=aA ρ os1 E1:=⟨_,rfl⟩
  have isrec:al os1 1999999=true:=by rw[hos1,lY];simp
  have hEl:Eh 1999999=some (.op l):=by rw[hEh];simp only[aA,isrec,if_true,hρ];exact hE1
  have EhIn:∀ n e,Eh n=some e→al os1 n=true:=fun n e h=>by
   rw[hEh] at h;simp only[aA] at h;split at h
   ·assumption
   ·cases h
  have hyok:∀ n,po ⟨c.P,W1,Dh,n,dG Eh,Eh,Y,none⟩:=by
   intro n v' args os' post' hYv w2 D2 E2 vs2 hsince hlive hheld hrvs;rw[hY] at hYv;obtain ⟨rfl,k,rfl,hkN,hIk,hpost⟩:=hYv;have hIk0:=hIk;rw[hI'] at hIk;obtain ⟨osb,rfl,hIk⟩:=hIk;have gk:=kA k _ hIk0;have gkb:=hI k osb hIk;have in2:∀ m,al os1 m=true→E2 m≠none:=fun m hm=>by
    rw[←gk.same m] at hm;cases hx:ak (dP (.loop (rec .ready none)) osb) m with
    |none=>simp[al,hx] at hm
    |some x=>have:=hheld.bV m;rw[hx] at this;exact ua this
   have same2:∀ m e,Eh m=some e→e.eZ=true→E2 m=some e:=fun m e he hfx=>by
    rcases hsince.dZ m e he with h | ⟨e',h,hle⟩
    ·exact absurd h (in2 m (EhIn m e he))
    ·rw[hle.eq hfx] at h;exact h
   have hEl2:E2 1999999=some (.op l):=same2 _ _ hEl rfl;have hob:=hheld.bV 1999999;rw[pY,if_pos rfl] at hob;obtain ⟨b,j1,_,j3,_,_⟩:=hob;rw[hEl2] at j1;cases j1;have hsz:vs2.toArray.size=cps.size:=by have:=zx hrvs;rw[hlen] at this;simpa using this
   have hyr:=run_yield (P:=c.P) (args:=vs2.toArray) j3 (by rw[hrec];exact hsz);rw[hrec] at hyr;refine ⟨l,hyv,fn,_,cx,cy,hyr,roundIn_of_wpIn trivial ?_⟩;clear hyr
   -- the round's own frame
   obtain ⟨cr,hcr⟩:∃ cr:cT,cr=⟨c.P,w2,D2,c.n,dG E2,E2,iR,some l⟩:=⟨_,rfl⟩
   have hFr:cr.bp=Fence.wide.inRound l:=by rw[hcr];rfl
   have hlat:dV W1 Dh Eh w2 D2 E2:=by
    refine ⟨hsince.cQ,hsince.fO.cell,fun m b aU he=>same2 m _ he rfl,fun m aI l he =>?_,fun m b he=>same2 m _ he rfl,fun m b he=>same2 m _ he rfl,hsince.fO.jM⟩;rcases hsince.dZ m _ he with h | ⟨e',h,hle⟩
    ·exact absurd h (in2 m (EhIn m _ he))
    ·rcases hle with rfl | ⟨_,_,blk',l',e,rfl,k1,k2⟩
     ·exact ⟨aI,l,h,zz9 _,fun _=>rfl⟩
     ·cases e;exact ⟨blk',l',h,k1,k2⟩
   have hslots:ni ρ (al os1) ts tsR:=by
    have:∀ tsR:List (Nat×I),ni ρ (al osb0) ts tsR→ni ρ (al os1) ts tsR:=by
     intro tsR
     induction tsR with
     |nil=>exact fun h=>h
     |cons q r ih =>
      intro h;obtain ⟨h1,h2,h3⟩:=h;exact ⟨h1,js (fun n hn=>by rw[hos1,lY,hn];simp) _ h2,ih h3⟩
    exact this tsR hts
   have hsr:aW cr (ar tsR (dP (.loop (rec .ready none)) osb)) { tmps:=a.tmps,defers:=[] } w2 D2 E2:=by
    rw[hcr];refine ⟨hs.sz,⟨[],rfl,.nil,fun _ h=>by simp at h⟩,fun t =>?_,fY.refl _ _,fun _ _ h _=>h,hlive,fun m=>(hheld.bV m).mV fun e b he hb=>.inr ⟨m,e,he,hb⟩,hheld.c4,fun _ e h=>.inr ⟨e,h,.refl e⟩,fun m hm =>?_,fun _ _ h=>h,(fun _ _ _ _ h=>h.elim),.refl _ _⟩
    ·rcases OM hslots t with h | ⟨h1,h2⟩
     ·simp only[ar];rw[h];simp[aY]
     ·have h3:=hsh.en t;rw[ha1] at h3;simp only[ar] at h3 ⊢;rw[h1] at h3;have h4:=(aY.aQ (w:=W1) (D:=Dh) (p:=al os1) (ρ:=bJ ρ) (E:=Eh) (E':=E1) (fun n hn=>by rw[hEh];simp only[aA,hn,if_true]) h2).1 h3;exact aY.bM hlat h4
    ·have hmi:al os1 m=true:=by
      rw[←gk.same m];have:=hheld.bV m;cases hx:ak (dP (.loop (rec .ready none)) osb) m with
      |none=>rw[hx] at this;exact absurd this hm
      |some x=>simp[al,hx]
     have:=gk.oI m hmi;exact ⟨zu1 hn6 this,this⟩
   have hsp:=aW.L1 cps.toList vs2 (item k) tsR _ hsr (fun p hp=>by rw[hcr];have:=zx9.1 hpn p hp;simpa using this) hrvs (by have:=hsz;simpa using this.symm);have htm:(cps.zip vs2.toArray).foldl (fun t (q:Tmp×Value)=>t.setIfInBounds q.1 q.2) a.tmps=(cps.toList.zip vs2).foldl (fun t q=>t.setIfInBounds q.1 q.2) a.tmps:=by
    rw[←Array.foldl_toList];simp
   have hx:=hround k osb hkN hIk w2 D2 E2 l (.loop (rec .ready none)) (.loop { rec .ready none with state:=.busy });rw[←hcr] at hx;have hx1:=hx cx (by rw[hcr];exact hcx) _ w2 ⟨D2,E2,hsp⟩;rw[hFr] at hx1;simp only[←htm] at hx1;rw[hcr] at hx1;refine wpIn_mono hx1 ?_;rintro e ax wx ⟨B,hq,hsx⟩;rw[←hcr] at hq hsx;cases e <;>simp only[au] at hq <;>try exact hq.elim
   simp only[Exit.then];obtain ⟨hB1,hB2⟩:=hq;obtain ⟨Dx,Ex,hsx⟩:=hsx;have hElx:Ex 1999999=some (.op l):=by
    have ho:=hsx.bV 1999999;rw[hB1] at ho;rcases hsx.EJ (n:=1999999) (by rw[hcr];exact hEl2) rfl with h | h
    ·exact absurd h (ua ho)
    ·exact h
   have hLx:wx.heap[l]?=some (.loop (rec .ready none)):=by
    have ho:=hsx.bV 1999999;rw[hB1] at ho;obtain ⟨b,k1,_,k3,_⟩:=ho;rw[hElx] at k1;cases k1;exact k3
   refine ⟨_,run_beginRound hLx (by rw[hrec]),?_⟩;have hsb:=hsx.zB (o':=.loop { rec .ready none with state:=.busy }) hB1 hElx rfl;have hy1:=hB2 cy (by rw[hcr];exact hcy) _ _ ⟨Dx,Ex,hsb⟩;rw[hFr] at hy1;rw[hcr] at hy1;refine wpIn_mono hy1 ?_;rintro e a3 w3 ⟨A3,hq3,D3,E3,hs3⟩;rw[←hcr] at hs3
   -- the end of the round
   have bl:∀ (os:List (Nat×ah)) (jump:Option Code),qD (.loop { rec .ready none with state:=.busy }) A3 os→(post' (.bool jump.isNone) (dP (.loop (rec (if jump.isNone then .ready else .done) jump)) os)) →
     ∃ v w',(Instr.endRound l jump).run c.P w3=.ok v w'∧(fun e w'=>∃ v D' E' r os',e=Ending.returned v∧post' r os'∧aY w' D' E' r v∧lA (fun b=>w2.heap.size≤b∨dG E2 b) w' D' E' (ak os') ∧
      fY (fun b=>w2.heap.size≤b∨dG E2 b) w2 w'∧(∀ b o,D2 b o→D' b o)∧(∀ b o,D' b o→b<w'.heap.size)∧(∀ b o,D' b o→b<w2.heap.size→¬ dG E2 b→D2 b o) ∧
      (∀ n e,E2 n=some e→al os' n=true→∃ e',E' n=some e'∧e.le e')∧iK w2 D2 w') (.returned v) w':=fun os jump hbk hp=>by
    have hA3:A3.o 1999999=some (.dT (.loop { rec .ready none with state:=.busy })):=(hbk 1999999 _ (by rw[pY,if_pos rfl])).1;have hEl3:E3 1999999=some (.op l):=by
     have ho:=hs3.bV 1999999;rw[hA3] at ho;rcases hs3.EJ (n:=1999999) (by rw[hcr];exact hEl2) rfl with h | h
     ·exact absurd h (ua ho)
     ·exact h
    have hL3:w3.heap[l]?=some (.loop { rec .ready none with state:=.busy }):=by
     have ho:=hs3.bV 1999999;rw[hA3] at ho;obtain ⟨b,k1,_,k3,_⟩:=ho;rw[hEl3] at k1;cases k1;exact k3
    have hend:=run_endRound (P:=c.P) jump hL3;have erec:({ rec .ready none with state:=if jump.isNone then LoopState.ready else .done,pending:=jump } : Loop)=rec (if jump.isNone then .ready else .done) jump:=by rw[hrec]
    have hend':(Instr.endRound l jump).run c.P w3=.ok (.bool jump.isNone) (w3.putObj l (.loop (rec (if jump.isNone then .ready else .done) jump))):=by
     rw[hend];rw[hrec]
    have hs4:=hs3.zB (o':=.loop (rec (if jump.isNone then .ready else .done) jump)) hA3 hEl3 rfl;rw[hcr] at hs4;obtain ⟨D',E',_,_,_,q1,q2,q3,q4,q5,q6⟩:=hs4.KZ (alo hbk _);exact ⟨_,_,hend',_,D',E',.bool jump.isNone,_,rfl,hp,⟨[.bool jump.isNone],by simp[bR,I.isAgg],by simp[af]⟩,q1,q2,q3,q4,q5,q6⟩
   cases e with
   |normal =>
    obtain ⟨os,hbk,hin⟩:=hq3;exact bl os none hbk (hpost _ _ (.inl ⟨rfl,by rw[hI'];exact ⟨os,rfl,hin⟩⟩))
   |ret =>
    obtain ⟨os,hbk,hin⟩:=hq3;exact bl os (some .ret) hbk (hpost _ _ (.inr ⟨rfl,by rw[hIx'];exact ⟨none,os,rfl,hin⟩⟩))
   |exit id =>
    obtain ⟨os,hbk,hin⟩:=hq3;exact bl os (some (.exit id)) hbk (hpost _ _ (.inr ⟨rfl,by rw[hIx'];exact ⟨some id,os,rfl,hin⟩⟩))
   |goto t=>exact hq3.elim
   |panic ch=>exact hq3.elim
   |outgrown=>exact hq3.elim
  -- the call
  have hargs:gn (aY W1 D E1) (.raw yv::caps) (yv::vs):=by
   exact .cons ⟨[yv],by simp[bR,I.isAgg],by rw[hyv];exact ⟨rfl,rfl⟩⟩ (zt (hup caps vs hvs))
  have hus:=hand.use (ρ:=ρ) hs1 false (fun h=>h.mono) ⟨(fun h=>by cases h),fun _=>by rw[←hDh,←hEh];exact hyok⟩ hgv1 (vv _ (by simp[I.b6,I.bu,hcl]))
   (fun r os' hp=>by
    have gg:fH os1 os':=by
     rcases hp.2 with h | h
     ·exact kA _ _ h
     ·exact goodx _ h
    refine ⟨fun m x hx=>⟨(gg.ok m x hx).1,(gg.ok m x hx).2,fun h=>by cases h⟩,fun m m' h1 h2=>hgv1.inj m m' (by rw[←gg.same];exact h1) (by rw[←gg.same];exact h2),fun m hm=>by rw[gg.same];exact hm,fun m h1 h2=>(by rw[gg.same,h2] at h1;cases h1),(by rw[hp.1];simp[I.only,I.bW]),fun h=>by cases h⟩) hargs
  have ecl : #[yv]++vs.toArray=(yv::vs).toArray:=by simp
  rw[ecl];refine CallsIn.mono (callsIn_wide.2 hus) ?_;rintro e w3 ⟨v,r,os',D2,E2,rfl,hp,hs2,_,hE2⟩;have key:∀ (o3:Obj) (osb:List (Nat×ah)),os'=dP o3 osb→pT o3=true→E2 999999=some (.op l)∧w3.heap[l]?=some o3∧∀ o4,pT o4=true→cv c (ar ts (dN ρ osb++os0)) a1 (w3.putObj l o4):=fun o3 osb he h3=>by
   subst he;have hn2:E2 999999=some (.op l):=by
    obtain ⟨e',h1,h2⟩:=hE2 1999999 (.op l) (by rw[←hEh];exact hEl) (by rw[lY];simp);rw[hρ] at h1;rw[h1,h2.eq rfl]
   have eos:dN ρ (dP o3 osb)=(999999,.dT o3)::dN ρ osb:=by simp only[dP,dN,zy2,hρ,ah.aQ]
   rw[eos] at hs2;have ha:(ar ts ((999999,ah.dT o3)::dN ρ osb++(999999,.dT (.loop (rec .ready none)))::os0)).o 999999=some (.dT o3):=by simp[ar,ak]
   have hgb:∀ m,al osb m=true→bJ ρ m≠999999:=fun m hm e=>by
    have h5:al (dP o3 osb) m=true:=by rw[lY,hm];simp
    have g5:fH os1 (dP o3 osb):=by
     rcases hp.2 with h | h
     ·exact kA _ _ h
     ·exact goodx _ h
    have h6:=hgv1.inj m 1999999 (by rw[←g5.same];exact h5) isrec (by rw[hρ];exact e);subst h6;have h7:fH osb0 osb:=by
     rcases hp.2 with h | h
     ·rw[hI'] at h;obtain ⟨osb',h8,h9⟩:=h;simp only[dP,List.cons.injEq] at h8;rw[h8.2];exact hI _ _ h9
     ·rw[hIx'] at h;obtain ⟨e,osb',h8,h9⟩:=h;simp only[dP,List.cons.injEq] at h8;rw[h8.2];exact hIx _ _ h9
    rw[h7.same,h19] at hm;cases hm
   refine ⟨hn2,?_,fun o4 h4 =>?_⟩
   ·have ho:=hs2.bV 999999;rw[ha] at ho;obtain ⟨b,k1,_,k3,_⟩:=ho;rw[hn2] at k1;cases k1;exact k3
   ·have h5:=(hs2.zB (o':=o4) ha hn2 h4).Z9 hn2;have hst:(⟨((ar ts ((999999,ah.dT o3)::dN ρ osb++(999999,.dT (.loop (rec .ready none)))::os0)).aR 999999 (.dT o4)).t,fun m=>if m=999999 then none else
      ((ar ts ((999999,ah.dT o3)::dN ρ osb++(999999,.dT (.loop (rec .ready none)))::os0)).aR 999999 (.dT o4)).o m⟩:ae)=ar ts (dN ρ osb++os0):=by
     simp only[ar,ae.aR]
     congr 1
     funext m
     by_cases hm:m=999999
     ·subst hm;simp only[if_true,ry];cases hq:pre ρ osb 999999 with
      |none=>exact hfree.symm
      |some k=>exact absurd (mg hq).2 (hgb k (mg hq).1)
     ·simp only[if_neg hm,zy0,ak,ry]
    rw[hst] at h5;exact ⟨D2,_,h5⟩
  rcases hp.2 with h | h
  ·rw[hI'] at h;obtain ⟨osb,he,hin⟩:=h;obtain ⟨k1,k2,k3⟩:=key _ osb he rfl;refine ⟨none,_,(by have:=run_endLoop (P:=c.P) k2 (by rw[hrec];simp);rw[hrec] at this;exact this),_,hdone osb hin,?_⟩;have:=k3 (.loop { rec .ready none with state:=.exhausted }) rfl;rw[ha1] at this;rw[hrec] at this;exact this
  ·rw[hIx'] at h;obtain ⟨e,osb,he,hin⟩:=h;obtain ⟨k1,k2,k3⟩:=key _ osb he rfl;refine ⟨some (yc e),_,(by have:=run_endLoop (P:=c.P) k2 (by rw[hrec];simp);rw[hrec] at this;exact this),?_⟩;have:=k3 (.loop { rec .done (some (yc e)) with state:=.exhausted }) rfl;rw[ha1] at this;rw[hrec] at this;have hq:K3 c Q (Ep e) { a with defers := { target:=.collected w.heap.size,args := #[] } :: a.defers } _:=⟨_,hexit e osb hin,this⟩
   cases e with
   |none=>exact wpIn_ret hq
   |some id=>exact wpIn_exit hq
end
mutual
theorem mh{ρ:Nat→Nat}(h:∀ n,ρ n=n):∀ x:I,x.aQ ρ=x
 | .agg fs | .tuple fs=>by simp only[I.aQ];rw[m6 h fs]
 | .slice _ es=>by simp only[I.aQ];rw[m6 h es]
 | .ref x=>by simp only[I.aQ];rw[mh h x]
 | .func _ caps=>by simp only[I.aQ];rw[m6 h caps]
 | .iface _ v=>by simp only[I.aQ];rw[mh h v]
 | .ptr _ _ | .own _ _ | .view _ _ _ _ _ | .mref _ | .dE _=>by simp only[I.aQ,h]
 | .c6 ks vs=>by simp only[I.aQ];rw[m6 h ks,m6 h vs]
 | .bool _ | .int _ _ | .c8 _ | .nilp | .dv | .ea | .raw _ | .nils _ | .c0 _ | .undef | .dg=>by simp only[I.aQ]
theorem m6{ρ:Nat→Nat}(h:∀ n,ρ n=n):∀ xs:List I,I.cZ ρ xs=xs
 | []=>rfl
 |x::xs=>by simp only[I.cZ];rw[mh h x,m6 h xs]
end
theorem ah.mh{ρ:Nat→Nat}(h:∀ n,ρ n=n):∀ x:ah,x.aQ ρ=x
 | .box x=>by simp only[ah.aQ,Abs.mh h]
 | .b5 _ _ es=>by simp only[ah.aQ,m6 h]
 | .dT _=>rfl
 | .c5 _ _=>rfl
 | .cB _ _=>by simp only[ah.aQ,m6 h]
 | .it _ _ _ _=>by simp only[ah.aQ,m6 h]
theorem uD(os:List (Nat×ah)):dN [] os=os:=by
 simp only[dN];have:(fun q:Nat×ah=>(bJ [] q.1,q.2.aQ (bJ [])))=id:=by
  funext q
  rw[ah.mh (ρ:=bJ []) (fun n=>rfl)];rfl
 rw[this,List.map_id]
theorem kE(a b:List (Nat×ah))(n:Nat):ak (a++b) n=match ak a n with
  |some x=>some x
  |none=>ak b n:=by
 induction a with
 |nil=>rfl
 |cons q a ih =>
  obtain ⟨k,v⟩:=q;simp only[zy0,ak];split
  ·rfl
  ·exact ih
theorem fH.none{os os':List (Nat×ah)}(h:fH os os'){n:Nat}(hn:n<1000000):ak os' n=none:=by
 cases hx:ak os' n with
 |none=>rfl
 |some x =>
  have h1:al os' n=true:=by simp[al,hx]
  rw[h.same] at h1;exact absurd (h.oI n h1) (by omega)
theorem az.cN{ts ts':List (Nat×I)}{os os':List (Nat×ah)}(h1:aO ts ts')(h2:∀ n,ak os n=ak os' n):az (ar ts os) (ar ts' os'):=by
 have e:ar ts os=ar ts os':=by
  simp only[ar];congr 1;funext n;exact h2 n
 rw[e];rintro c a w ⟨D,E,hs⟩;refine ⟨D,E,hs.sz,hs.eW,fun t =>?_,hs.dW,hs.dc,hs.dm,hs.bV,hs.c4,hs.dZ,hs.ff,hs.cQ,hs.fh,hs.fO⟩;rcases zM h1 t with h | h
 ·simp only[ar];rw[h];simp[aY]
 ·have:=hs.en t;simp only[ar] at *;rw[h];exact this
theorem AT{os osk os2 ow:List (Nat×ah)}{ts:List (Nat×I)}(h1:fH os osk)(h2:fH os os2)(how:∀ m,al ow m=true→m<1000000):ar ts (dN [] os2++(ow++osk))=ar ts (ow++os2):=by
 simp only[ar,uD]
 congr 1
 funext n
 simp only[kE];cases hw:ak ow n with
 |none =>
  simp only;cases h3:ak os2 n with
  |some x=>rfl
  |none =>
   simp only;cases h4:ak osk n with
   |none=>rfl
   |some x =>
    have h5:al osk n=true:=by simp[al,h4]
    rw[h1.same,←h2.same] at h5;simp[al,h3] at h5
 |some x =>
  simp only;rw[h2.none (how n (by simp[al,hw]))]
theorem fX.kA{os osk ow:List (Nat×ah)}(h1:fH os osk)(how:∀ m,al ow m=true→m<1000000):fX [] osk (ow++osk):=by
 refine ⟨fun m x hx =>?_,fun m m' _ _ h=>h⟩;have hm:al osk m=true:=by simp[al,hx]
 have hg:=h1.oI m (by rw[←h1.same];exact hm);obtain ⟨k1,k2⟩:=h1.ok m x hx;refine ⟨?_,k1,k2⟩;rw[ah.mh (ρ:=bJ []) (fun n=>rfl)];simp only[bJ,kE];cases hw:ak ow m with
 |none=>exact hx
 |some y=>have:=how m (by simp[al,hw]);omega
theorem ee.kA{os osk os2 os0:List (Nat×ah)}{r:I}(h1:fH os osk)(h2:fH os os2)(hr:r.bu=true):ee false [] osk os0 r os2:=by
 refine ⟨fun m x hx=>⟨(h2.ok m x hx).1,(h2.ok m x hx).2,fun h=>by cases h⟩,fun m m' _ _ h=>h,fun m hm=>by rw[h2.same,←h1.same];exact hm,fun m h3 h4 =>?_,kd _ r hr,fun h=>by cases h⟩;rw[h2.same,←h1.same,h4] at h3;cases h3
theorem br.Pl{P:Program}{Y:Value→List I→List (Nat×ah)→cR→Prop}{K:ae→Prop}{v:Value}{vs:List I}{dst:Option Nat}{rest:List aG}{ts:List (Nat×I)}{os osk ow:List (Nat×ah)}{In Ix:List (Nat×ah)→Prop}
  (hY:Y v vs osk (fun r os2=>(r=.bool true∧In os2)∨(r=.bool false∧Ix os2))) (hk:fH os osk) (hi:∀ os',In os'→fH os os') (hx:∀ os',Ix os'→fH os os') (hcl:I.b6 vs=true) (how:∀ m,al ow m=true→m<1000000)
  (h1:∀ os2,In os2→br P Y false K (aC rest ((ar ts (ow++os2)).aS dst (.bool true)))) (h2:∀ os2,Ix os2→br P Y false K (aC rest ((ar ts (ow++os2)).aS dst (.bool false)))) :
  br P Y false K (.pE v vs dst rest (ar ts (ow++osk))):=by
 refine .zV osk vs _ rfl hY (fX.kA hk how) (vv vs hcl) ?_ ?_
 ·rintro r os' (⟨rfl,h⟩ | ⟨rfl,h⟩)
  ·exact ee.kA hk (hi _ h) rfl
  ·exact ee.kA hk (hx _ h) rfl
 ·rintro r os' (⟨rfl,h⟩ | ⟨rfl,h⟩)
  ·rw[AT hk (hi _ h) how];exact h1 os' h
  ·rw[AT hk (hx _ h) how];exact h2 os' h
theorem Dm(A:ae)(d:Option Nat)(args:List I)(rest:List aG)(v:Value):sM A d args rest (.raw v)=.pE v args d rest A:=rfl
def jW(w:World):aV:=fun b _=>b<w.heap.size
structure fI (P:Program) (t:TypeId) (α:Type) [Enc α]:Prop where
 cells:P.cellsOf t=Enc.sz α
 LW:0<Enc.sz α
 mc:∀ {H:Type} {enc0:TypeId×Value→H} {w:World} {fuel:Nat} {cs:List Value} {x:DataW H×List MemPlace},DataW.trod enc0 P w 0 (fun _=>true) true fuel t cs=some x→∃ a:α,af w (jW w) dB (enc a) cs
theorem anQ{P:Program}{t:TypeId}(ht:P.underlying t=some (.int .i64))(hc:P.cellsOf t=1):fI P t Int :=
 ⟨hc,by decide,fun h=>by
  obtain ⟨n,rfl,_,hw⟩:=DataW.trod_int ht h;refine ⟨n,?_⟩;rw[ga,af];simp only[Lit.wf,zz4,decide_eq_true_eq] at hw;exact ⟨rfl,hw.1,hw.2⟩⟩
theorem DB{α:Type}[Enc α]{w:World}{D:aV}(c:Nat):∀ (n:Nat) (cs:List Value),cs.length=n*c→(∀ i,i<n→∃ a:α,af w D dB (enc a) ((cs.drop (i*c)).take c))→∃ l:List α,l.length=n∧aL w D dB (l.map enc) cs
 |0,cs,hl,_=>⟨[],rfl,by simp only[Nat.zero_mul,zv5] at hl;subst hl;simp[aL]⟩
 |n+1,cs,hl,h=>by
  obtain ⟨a,ha⟩:=h 0 (by omega);simp only[Nat.zero_mul,List.drop_zero] at ha;obtain ⟨l,h1,h2⟩:=DB c n (cs.drop c) (by rw[zy9,hl,Nat.succ_mul];omega) (fun i hi=>by
   obtain ⟨b,hb⟩:=h (i+1) (by omega);refine ⟨b,?_⟩;rw[List.drop_drop]
   rwa [Nat.succ_mul,Nat.add_comm] at hb)
  refine ⟨a::l,by simp[h1],?_⟩;simp only[zy2,aL];exact ⟨cs.take c,cs.drop c,(zy8 c cs).symm,ha,h2⟩
theorem apF{H:Type}{enc0:TypeId×Value→H}{P:Program}{w:World}{base:Nat}{spare:Nat→Bool}{held:Bool}{fuel n:Nat}{t e:TypeId}{cs:List Value}{x:DataW H×List MemPlace}(ht:P.underlying t=some (.array n e))(h:DataW.trod enc0 P w base spare held fuel t cs=some x) :
  ∃ (xs:List (DataW H×List MemPlace)) (m:Nat),cs.length=P.cellsOf t∧xs.length=n∧∀ (i:Nat),i<n→DataW.trod enc0 P w base spare held m e ((cs.drop (i*P.cellsOf e)).take (P.cellsOf e))=xs[i]?:=by
 cases fuel with
 |zero=>simp[DataW.trod] at h
 |succ m =>
  unfold DataW.trod at h;rw[ht] at h;split at h <;>simp_all
  obtain ⟨hl,xs,hp,hd⟩:=h;exact ⟨xs,by simpa using mapM_some_length hp,m,fun i hi=>mapM_some_get hp i i (by simp[hi])⟩
theorem yS{P:Program}{t e:TypeId}{n:Nat}{α:Type}[Enc α](ht:P.underlying t=some (.array n e))(he:fI P e α)(hc:P.cellsOf t=n*Enc.sz α)(hn:0<n):fI P t (bG n α) :=
 ⟨hc,Nat.mul_pos hn he.LW,fun {H enc0 w fuel cs x} h=>by
  obtain ⟨xs,m,hl,hx,hp⟩:=apF ht h;obtain ⟨l,h1,h2⟩:=DB (α:=α) (w:=w) (D:=jW w) (Enc.sz α) n cs (by rw[hl,hc]) (fun i hi=>by
   have h3:=hp i hi;rw[he.cells,zy1 (by omega)] at h3;exact he.mc h3)
  refine ⟨⟨l,h1⟩,?_⟩
  show af w (jW w) dB (.agg (l.map enc)) cs
  simp only[af];exact h2⟩
theorem Rh(a:Addr)(i j:Nat):(a.add i).add j=a.add (i+j):=by
 unfold Addr.add;by_cases hi:i=0 <;>by_cases hj:j=0 <;>simp[hi,hj,Nat.add_assoc]
theorem LG{P:Program}{t e:TypeId}{α:Type}[Enc α](ht:P.underlying t=some (.slice e))(he:fI P e α)(hc:P.cellsOf t=1):fI P t (List α) :=
 ⟨hc,by rw[qS];exact Nat.one_pos,fun {H enc0 w fuel cs x} h=>by
  rcases DataW.trod_slice ht h with ⟨rfl,_⟩ | ⟨a,len,cap,elems,rest,n,_,rfl,_,hb,hl,hm,hlen,hel,_⟩
  ·refine ⟨[],?_⟩;simp only[gB,zx2];rw[af];exact ⟨none,0,rfl,zz9 _,by decide,.inl rfl,by simp⟩
  ·have key:∀ k,k≤len→∃ (l:List α) (cs':List Value),l.length=k∧aL w (jW w) dB (l.map enc) cs'∧cs'.length=k*Enc.sz α∧∀ j v,cs'[j]?=some v→w.cell? (a.add j)=some v:=by
    intro k
    induction k with
    |zero=>exact fun _=>⟨[],[],rfl,by simp[aL],by simp,by simp⟩
    |succ k ih =>
     intro hk;obtain ⟨l,cs',h1,h2,h3,h4⟩:=ih (by omega);have h5:=hel k (by omega);have h6:k<elems.length:=by omega
     rw[zy1 h6] at h5;obtain ⟨ce,h7,h8⟩:=Option.bind_eq_some_iff.1 h5;obtain ⟨y,hy⟩:=he.mc h8;rw[he.cells] at h7;obtain ⟨_,h9,h10⟩:=World.cells?_some h7;refine ⟨l++[y],cs'++ce,by simp[h1],?_,by rw[zz5,h3,h9,Nat.succ_mul],fun j v hj =>?_⟩
     ·rw[zx4];refine kH _ _ _ _ h2 ?_;simp only[zy2,zx2,aL];exact ⟨ce,[],by simp,hy,rfl⟩
     ·rcases Nat.lt_or_ge j cs'.length with hlt | hge
      ·rw[zx0 hlt] at hj;exact h4 j v hj
      ·rw[zw0 hge] at hj;have hlt:j-cs'.length<Enc.sz α:=by
        have:=(zy6.1 hj).1;omega
       have:=h10 (j-cs'.length) hlt;rw[Rh,←h3,Nat.add_sub_cancel' hge] at this;rw[this];exact hj
   obtain ⟨l,cs',h1,h2,h3,h4⟩:=key len (zz9 _);refine ⟨l,?_⟩;simp only[gB,af,zy3];refine ⟨some a,cap,by rw[h1],by omega,hm,?_,Rq l⟩;by_cases hz:len=0
   ·left;have:l=[]:=zv5.1 (by omega);rw[this];rfl
   right
   have hpos:0<cs'.length:=by rw[h3];exact Nat.mul_pos (Nat.pos_of_ne_zero hz) he.LW
   have h0:=h4 0 cs'[0] (zy1 hpos);have hsp:a.spot=none:=by
    simp only[Addr.add,if_true] at h0;unfold World.cell? at h0;split at h0
    ·split at h0
     ·cases h0
     ·rename_i hs;cases hh:a.spot <;>simp_all
    ·cases h0
   have ha:∀ j,a.add j=⟨a.block,a.off+j,none⟩:=fun j=>by
    unfold Addr.add;split
    ·rename_i hj;subst hj;cases a;simp_all
    ·rfl
   refine ⟨a.block,a.off,cs',by cases a;simp_all,fun j v hj =>?_,h2⟩;have h5:=h4 j v hj;rw[ha] at h5;refine ⟨h5,?_⟩
   show (⟨a.block,a.off+j,none⟩:Addr).block<_
   exact World.block_lt_of_cell? w _ h5⟩
end Go.Abs
namespace Go.Abs
open Go Go.RowKit Go.ChangeShapes
open Enc (enc)
def pU(P:Program)(t:TypeId)(l:List (TypeId×Nat)):Bool:=match P.underlying t with
 |some (.struct fs)=>fs.toList.map (fun f=>(f.type,f.offset))==l
 |_=>false
def KM(P:Program)(t:TypeId)(n:Nat)(e:TypeId):Bool:=match P.underlying t with
 |some (.array n' e')=>n'==n&&e'==e
 |_=>false
theorem x7{P:Program}{t:TypeId}{n:Nat}{e:TypeId}(h:KM P t n e=true):P.underlying t=some (.array n e):=by
 unfold KM at h;split at h
 ·rename_i n' e' ht;simp only[zz4,beq_iff_eq] at h;rw[ht,h.1,h.2]
 ·cases h
theorem alH{P:Program}{t:TypeId}{l:List (TypeId×Nat)}(h:pU P t l=true):∃ fs,P.underlying t=some (.struct fs)∧fs.toList.map (fun f=>(f.type,f.offset))=l:=by
 unfold pU at h;split at h
 ·rename_i fs ht;exact ⟨fs,ht,by simpa using h⟩
 ·cases h
theorem zL{H:Type}{enc0:TypeId×Value→H}{P:Program}{w:World}{fuel:Nat}{t:TypeId}{l:List (TypeId×Nat)}{cs:List Value}{x:DataW H×List MemPlace}(ht:pU P t l=true)(h:DataW.trod enc0 P w 0 (fun _=>true) true fuel t cs=some x) :
  cs.length=P.cellsOf t∧∃ m:Nat,∀ (i:Nat) (u:TypeId) (o:Nat),l[i]?=some (u,o)→∃ y,DataW.trod enc0 P w 0 (fun _=>true) true m u ((cs.drop o).take (P.cellsOf u))=some y:=by
 obtain ⟨fs,h1,h2⟩:=alH ht;obtain ⟨xs,m,_,_,h3,h4,h5⟩:=DataW.trod_struct h1 h;refine ⟨h3,m,fun i u o hi =>?_⟩;rw[←h2] at hi;simp only[zw6,zz1,Prod.mk.injEq] at hi;obtain ⟨f,hf,rfl,rfl⟩:=hi;have hf':fs[i]?=some f:=by simpa using hf
 have h6:=h5 i f hf';have hlt:i<fs.size:=(zx6.1 hf').1;rw[zy1 (by omega)] at h6;exact ⟨_,h6⟩
section
variable {P:Program} {t:TypeId} {α β γ:Type} [Enc α] [Enc β] [Enc γ] {H:Type} {enc0:TypeId×Value→H} {w:World} {fuel:Nat} {cs:List Value} {x:DataW H×List MemPlace}
theorem LH{u0 u1:TypeId}(ht:pU P t [(u0,0),(u1,Enc.sz α)]=true)(h0:fI P u0 α)(h1:fI P u1 β)(hc:P.cellsOf t=Enc.sz α+Enc.sz β)(h:DataW.trod enc0 P w 0 (fun _=>true) true fuel t cs=some x) :
  ∃ (a:α) (b:β),af w (jW w) dB (.agg [enc a,enc b]) cs:=by
 obtain ⟨hl,m,hf⟩:=zL ht h;obtain ⟨y0,k0⟩:=hf 0 u0 0 rfl;obtain ⟨y1,k1⟩:=hf 1 u1 (Enc.sz α) rfl;obtain ⟨a,ha⟩:=h0.mc k0;obtain ⟨b,hb⟩:=h1.mc k1;rw[h0.cells,List.drop_zero] at ha;rw[h1.cells,zw1 (by rw[zy9];omega)] at hb;refine ⟨a,b,?_⟩;simp only[af,aL];exact ⟨_,_,(zy8 (Enc.sz α) cs).symm,ha,cs.drop (Enc.sz α),[],by simp,hb,rfl⟩
theorem LI{u0 u1 u2:TypeId}(ht:pU P t [(u0,0),(u1,Enc.sz α),(u2,Enc.sz α+Enc.sz β)]=true)(h0:fI P u0 α)(h1:fI P u1 β)(h2:fI P u2 γ)(hc:P.cellsOf t=Enc.sz α+Enc.sz β+Enc.sz γ)(h:DataW.trod enc0 P w 0 (fun _=>true) true fuel t cs=some x) :
  ∃ (a:α) (b:β) (c:γ),af w (jW w) dB (.agg [enc a,enc b,enc c]) cs:=by
 obtain ⟨hl,m,hf⟩:=zL ht h;obtain ⟨y0,k0⟩:=hf 0 u0 0 rfl;obtain ⟨y1,k1⟩:=hf 1 u1 (Enc.sz α) rfl;obtain ⟨y2,k2⟩:=hf 2 u2 (Enc.sz α+Enc.sz β) rfl;obtain ⟨a,ha⟩:=h0.mc k0;obtain ⟨b,hb⟩:=h1.mc k1;obtain ⟨c,hcc⟩:=h2.mc k2;rw[h0.cells,List.drop_zero] at ha;rw[h1.cells] at hb;rw[h2.cells,zw1 (by rw[zy9];omega)] at hcc;refine ⟨a,b,c,?_⟩;simp only[af,aL];refine ⟨_,_,(zy8 (Enc.sz α) cs).symm,ha,(cs.drop (Enc.sz α)).take (Enc.sz β),(cs.drop (Enc.sz α)).drop (Enc.sz β),(zy8 _ _).symm,hb,(cs.drop (Enc.sz α)).drop (Enc.sz β),[],by simp,?_,rfl⟩;rw[List.drop_drop];exact hcc
theorem LF{base:Nat}{v:Value}{d:DataW H}{p:List MemPlace}(ho:fI P t α)(hA:Enc.gb α=true)(hst:(match P.underlying t with | some (.struct _) | some (.array _ _)=>true | _=>false)=true)(hv:Value.okWide P w .any base t v)
  (h:DataW.Trod enc0 P w 0 (fun _=>true) true t v d p):∃ (a:α) (cs:List Value),bR (enc a) v cs∧af w (jW w) dB (enc a) cs:=by
 obtain ⟨fuel,h⟩:=h;have hagg:∃ cs,v=.agg cs:=by
  unfold Value.okWide at hv;split at hst
  ·rename_i fs ht;rw[ht] at hv;obtain ⟨cs,h1,_⟩:=hv;exact ⟨cs,h1⟩
  ·rename_i n e ht;rw[ht] at hv;obtain ⟨cs,h1,_⟩:=hv;exact ⟨cs,h1⟩
  ·cases hst
 obtain ⟨cs,rfl⟩:=hagg;have e:(Value.agg cs).cells.toList=cs.toList:=rfl;rw[e] at h;obtain ⟨a,ha⟩:=ho.mc h;exact ⟨a,cs.toList,by simp[bR,Enc.agg,hA],ha⟩
theorem anP{base:Nat}{v:Value}{d:DataW H}{p:List MemPlace}(ho:fI P t α)(hA:Enc.gb α=false)(hst:(match P.underlying t with | some (.slice _) | some (.int _) | some .bool=>true | _=>false)=true)(hv:Value.okWide P w .any base t v)
  (h:DataW.Trod enc0 P w 0 (fun _=>true) true t v d p):∃ (a:α) (cs:List Value),bR (enc a) v cs∧af w (jW w) dB (enc a) cs:=by
 obtain ⟨fuel,h⟩:=h;have hone:v.cells.toList=[v]:=by
  unfold Value.okWide at hv;split at hst
  ·rename_i e ht;rw[ht] at hv;simp only[Cell.okWide,ht] at hv;cases v <;>simp_all[Cell.ok,Value.cells]
  ·rename_i e ht;rw[ht] at hv;simp only[Cell.okWide,ht] at hv;cases v <;>simp_all[Cell.ok,Value.cells]
  ·rename_i ht;rw[ht] at hv;simp only[Cell.okWide,ht] at hv;cases v <;>simp_all[Cell.ok,Value.cells]
  ·cases hst
 rw[hone] at h;obtain ⟨a,ha⟩:=ho.mc h;exact ⟨a,[v],by simp[bR,Enc.agg,hA],ha⟩
end
theorem aod{H:Type}{enc0:TypeId×Value→H}{P:Program}{f:Func}{s:ChangeSpec}{apart kz handsOn again:Bool}{W W':World}{args:Array Value}{v:Value}{ds gs:List (DataW H)}{before pa pv:List MemPlace}
  (hW:DataW.Whole enc0 P f.params.toList s.vars apart W args.toList ds gs before)
  (hres:∀ (b:Nat) (sp:Nat→Bool) (hd:Bool),DataW.TrodAll enc0 P W' b sp hd f.resultTypes.toList (v.resultList f.resultTypes.size) (s.fn H (ds++gs)).results [])
  (hargs:∀ sp:Nat→Bool,(∀ p∈before,sp p.block=true)→DataW.TrodAll enc0 P W' 0 sp true f.params.toList args.toList (s.fn H (ds++gs)).args pa)
  (hvars:∀ sp:Nat→Bool,(∀ p∈before,sp p.block=true)→DataW.TrodVars enc0 P W' sp s.vars (s.fn H (ds++gs)).vars pv)
  (hps:before=pa++pv) (hb:Below W.heap.size W W')
  (hok:∀ (j:Nat) (t:TypeId) (r:Value),f.resultTypes[j]?=some t→(v.resultList f.resultTypes.size)[j]?=some r→Value.okWide P W' .any 0 t r) :
  s.post enc0 P f apart kz handsOn again W args v W':=by
 have hlt:∀ p∈before,p.block<W.heap.size:=fun p hp=>by simpa using hW.lt p hp
 have hold:∀ p∈before,(fun b=>decide (b<W.heap.size)) p.block=true:=fun p hp=>by simpa using hlt p hp
 refine ⟨ds,gs,before,[],pa,pv,hW,hres _ _ _,hargs _ hold,hvars _ hold,World.keptBut_mono (fun p hp=>⟨hp,?_⟩) (hb.frame (· ∈ before)),fun _ =>?_⟩
 ·rw[hps,zx1] at hp;exact Or.inr hp
 ·obtain ⟨_,_,_,_,_,hz,hn⟩:=hW;refine ⟨hok,_,_,([]++pa)++pv,⟨[]++pa,pv,trodAll_append (hargs _ (fun _ _=>rfl)) (hres _ _ _),hvars _ (fun _ _=>rfl),rfl,?_,?_⟩,?_⟩
  ·intro b off hp;have hp':MemPlace.cell b off∈before:=by rw[hps];simpa using hp
   rw[hb.frozen (p:=⟨b,off,none⟩) (hlt _ hp')];exact hz b off hp'
  ·intro ha;have:=hn ha;rw[hps] at this;simpa using this
  ·intro p hp _;rw[hps];simpa using hp
theorem al1{P:Program}{f:FuncId}{fn:Func}{s:ChangeSpec}{H:Type}{enc0:TypeId×Value→H}{W:World}{ds gs:List (DataW H)}{before:List MemPlace}{xs:List I}{tb:TypeId}{v0 v1 v2:Value}{t0 t1 t2:TypeId}{d0 d1 d2:DataW H}{p0 p1 p2:List MemPlace}{again handsOn kz:Bool}
  (hl:laidOutB P=true) (hpar:fn.params.toList=[t0,t1,t2]) (hds:ds=[d0,d1,d2]) (hgs:gs=[]) (hbef:before=p0++p1++p2)
  (hvars:s.vars=[]) (hfn:s.fn H [d0,d1,d2] = { results:=[.lit (.bool true)],args:=[d0,d1,d2] }) (hres:fn.resultTypes = #[tb]) (htb:P.underlying tb=some .bool)
  (hW:DataW.Whole enc0 P fn.params.toList s.vars false W #[v0,v1,v2].toList ds gs before)
  (h0:DataW.Trod enc0 P W 0 (fun _=>true) true t0 v0 d0 p0) (h1:DataW.Trod enc0 P W 0 (fun _=>true) true t1 v1 d1 p1) (h2:DataW.Trod enc0 P W 0 (fun _=>true) true t2 v2 d2 p2)
  (hr:∀ t∈[t0,t1,t2],P.readableRec t=true∧t<P.types.size)
  (hctr:aw P f xs (enc true)) (hv:aK W (jW W) dB xs [v0,v1,v2]) :
  Calls P f #[v0,v1,v2] W fun e W'=>∃ v,e=.returned v∧s.post enc0 P fn false kz handsOn again W #[v0,v1,v2] v W':=by
 subst hds hgs;refine (hctr.2 W (jW W) [v0,v1,v2] (fun _ _ h=>h) hv).mono fun e W' ⟨v,D',he,hrv,hb,_,_⟩=>⟨v,he,?_⟩
 have hvb:v=.bool true:=mq hrv;subst hvb;have hlt:∀ x∈before,x.block<W.heap.size:=fun x hx=>by simpa using hW.lt x hx
 rw[hbef] at hlt;refine aod (pa:=p0++(p1++p2)) (pv:=[]) hW (fun _ _ _ =>?_) (fun sp hsp =>?_) (fun _ _ =>?_) (by rw[hbef];simp) hb ?_
 ·simp only[zx5,hfn,hres];exact trodAll_mk1 (shut_bool htb true)
 ·simp only[zx5,hfn,hpar];rw[hbef] at hsp;have bA:∀ {t:TypeId} {v:Value} {d:DataW H} {p:List MemPlace},t∈[t0,t1,t2]→DataW.Trod enc0 P W 0 (fun _=>true) true t v d p→(∀ x∈p,x∈p0++p1++p2)→DataW.Trod enc0 P W' 0 sp true t v d p:=fun ht h hp =>
   WideElems.Trod_stays hl (hr _ ht).1 (hr _ ht).2 h (fun x hx=>hb.same (hlt x (hp x hx))) (fun x hx=>hsp x (hp x hx))
  exact trodAll_mk3 (bA (by simp) h0 fun x hx=>by simp[hx]) (bA (by simp) h1 fun x hx=>by simp[hx]) (bA (by simp) h2 fun x hx=>by simp[hx])
 ·simp only[zx5,hfn,hvars];rfl
 ·intro j t r hj hv';rw[hres] at hj hv'
  match j,hj,hv' with
  |0,hj,hv' =>
   simp[Value.resultList] at hj hv';subst hj;subst hv';simp[Value.okWide,htb,Cell.okWide,Cell.ok]
def Ax(P:Program)(u:TypeId)(n:Nat)(S:I→Prop):Prop:=P.cellsOf u=n ∧
 ∀ {H:Type} {enc0:TypeId×Value→H} {w:World} {fuel:Nat} {cs:List Value} {x:DataW H×List MemPlace},DataW.trod enc0 P w 0 (fun _=>true) true fuel u cs=some x→∃ v,S v∧af w (jW w) dB v cs
theorem fI.bI{P:Program}{u:TypeId}{α:Type}[Enc α](h:fI P u α):Ax P u (Enc.sz α) fun v=>∃ a:α,v=enc a :=
 ⟨h.cells,fun hx=>by obtain ⟨a,ha⟩:=h.mc hx;exact ⟨enc a,⟨a,rfl⟩,ha⟩⟩
def rF(P:Program):Nat→List (TypeId×Nat)→List (Nat×(I→Prop))→Prop
 |_,[],[]=>True
 |o,(u,off)::l,(n,S)::Ss=>off=o∧Ax P u n S∧rF P (o+n) l Ss
 |_,_,_=>False
def pt:List (Nat×(I→Prop))→List I→Prop
 | [],[]=>True
 |(_,S)::Ss,v::vs=>S v∧pt Ss vs
 |_,_=>False
theorem lE{n:Nat}{S:I→Prop}{Ss:List (Nat×(I→Prop))} : ∀ {vs:List I},pt ((n,S)::Ss) vs→∃ v vs',vs=v::vs'∧S v∧pt Ss vs'
 | [],h=>h.elim
 |v::vs,h=>⟨v,vs,rfl,h.1,h.2⟩
theorem Ro:∀ {vs:List I},pt [] vs→vs=[]
 | [],_=>rfl
 |_::_,h=>h.elim
def r0:List (Nat×(I→Prop))→Nat
 | []=>0
 |(n,_)::Ss=>n+r0 Ss
theorem Ew{P:Program}{H:Type}{enc0:TypeId×Value→H}{w:World}{m:Nat}{cs:List Value} : ∀ (l:List (TypeId×Nat)) (Ss:List (Nat×(I→Prop))) (o:Nat),rF P o l Ss→cs.length=o+r0 Ss →
  (∀ (i:Nat) (u:TypeId) (off:Nat),l[i]?=some (u,off)→∃ y,DataW.trod enc0 P w 0 (fun _=>true) true m u ((cs.drop off).take (P.cellsOf u))=some y)→∃ vs,pt Ss vs∧aL w (jW w) dB vs (cs.drop o)
 | [],[],o,_,hl,_=>⟨[],trivial,by simp only[aL];exact zw3 (by simp only[r0] at hl;omega)⟩
 |(u,off)::l,(n,S)::Ss,o,h,hl,hf=>by
  obtain ⟨rfl,h2,h3⟩:=h;obtain ⟨y,hy⟩:=hf 0 u off rfl;obtain ⟨v,hv1,hv2⟩:=h2.2 hy;obtain ⟨vs,k1,k2⟩:=Ew l Ss (off+n) h3 (by simp only[r0] at hl;omega) fun i u' o' hi=>hf (i+1) u' o' hi;refine ⟨v::vs,⟨hv1,k1⟩,?_⟩;simp only[aL];rw[h2.1] at hv2;exact ⟨_,(cs.drop off).drop n,(zy8 n _).symm,hv2,by rw[List.drop_drop];exact k2⟩
 | [],_::_,_,h,_,_=>h.elim
 |_::_,[],_,h,_,_=>by simp[rF] at h
theorem anR{P:Program}{t:TypeId}{H:Type}{enc0:TypeId×Value→H}{w:World}{fuel:Nat}{cs:List Value}{x:DataW H×List MemPlace}(l:List (TypeId×Nat))(Ss:List (Nat×(I→Prop)))(ht:pU P t l=true)(hok:rF P 0 l Ss)(hc:P.cellsOf t=r0 Ss)(h:DataW.trod enc0 P w 0 (fun _=>true) true fuel t cs=some x) :
  ∃ vs,pt Ss vs∧af w (jW w) dB (.agg vs) cs:=by
 obtain ⟨hl,m,hf⟩:=zL ht h;obtain ⟨vs,k1,k2⟩:=Ew l Ss 0 hok (by rw[hl,hc];omega) hf;exact ⟨vs,k1,by simpa only[af,List.drop_zero] using k2⟩
end Go.Abs
namespace Go.Abs.C
open Go Go.Abs
abbrev o(a:Nat)(x:cd):aG:=⟨some a,x,none⟩
abbrev bn(a:Nat)(x:cd)(k:Nat):aG:=⟨some a,x,some (k,true)⟩
abbrev on(a:Nat)(x:cd)(k:Nat):aG:=⟨some a,x,some (k,false)⟩
abbrev p(x:cd):aG:=⟨none,x,none⟩
abbrev aj(n:Int):aM:=.c (.int .i64 n)
abbrev T:aM:=.c (.bool true)
abbrev bp:aM:=.c (.bool false)
abbrev m(a b:Nat):aG:=⟨some a,.mv (.t b),none⟩
abbrev cw(a b k:Nat):aG:=⟨some a,.mv (.t b),some (k,true)⟩
abbrev ew(a b k:Nat):aG:=⟨some a,.mv (.t b),some (k,false)⟩
abbrev aT(a:Nat)(n:Int):aG:=⟨some a,.mv (.c (.int .i64 n)),none⟩
abbrev l(a b:Nat):aG:=⟨some a,.ld none (.t b),none⟩
abbrev cP(a b k:Nat):aG:=⟨some a,.ld none (.t b),some (k,true)⟩
abbrev eU(a b k:Nat):aG:=⟨some a,.ld none (.t b),some (k,false)⟩
abbrev L(a s b:Nat):aG:=⟨some a,.ld (some s) (.t b),none⟩
abbrev f(a b c d:Nat):aG:=⟨some a,.fa b c (.t d),none⟩
abbrev cF(a b c d k:Nat):aG:=⟨some a,.fa b c (.t d),some (k,true)⟩
abbrev fn(a b c d k:Nat):aG:=⟨some a,.fa b c (.t d),some (k,false)⟩
abbrev ad(a b:Nat)(n:Int):aG:=⟨some a,.bin .add (.t b) (.c (.int .i64 n)),none⟩
abbrev lt(a b c:Nat):aG:=⟨some a,.bin .lss (.t b) (.t c),none⟩
abbrev and(a b c:Nat):aG:=⟨some a,.pick (.t b) (.t c) (.c (.bool false)),none⟩
abbrev or(a b c:Nat):aG:=⟨some a,.pick (.t b) (.c (.bool true)) (.t c),none⟩
abbrev no(a b:Nat):aG:=⟨some a,.un .not (.t b),none⟩
abbrev b(a c:Nat):aG:=⟨some a,.box (.t c),none⟩
abbrev s(x y:aN):aN:=.seq x y
abbrev r(g:List aG):aN:=.bT none g
abbrev bD(P:Program)(f:Func)(c:aN):Prop:=f.body.bind (fk P f.ntmps)=some c
abbrev bE(P:Program)(f:Func)(r:List bd):Prop:=je P f.results.toList=some r
abbrev bB(P:Program)(n:FuncId):Prop:=il P n=true
theorem e{α:Type}{a b:α}(h:a=b):a=b:=h
end Go.Abs.C
namespace Go.Proofs.YtcldiigclhgafaaGreat
open Go Go.Abs Go.Abs.C
def akp:=[b 3 0,b 5 2,o 6 (.mv bp)]
def akq:=[L 16 7 3,m 17 1,f 18 0 0 5,L 19 2 18,f 20 1 2 5,l 21 20,o 22 (.call 48 [.t 16,.t 17,.t 19,.t 21]),m 15 22,o 23 (.ext (.t 15) 0),o 24 (.ext (.t 15) 1),m 7 23,m 8 24]
def akr:=[L 26 7 3,m 27 1,f 28 0 0 5,L 29 2 28,f 30 1 2 5,l 31 30,o 32 (.call 49 [.t 26,.t 27,.t 29,.t 31]),m 25 32,o 33 (.ext (.t 25) 0),o 34 (.ext (.t 25) 1),m 9 33,m 10 34]
def aks:=[L 36 7 3,m 37 1,f 38 1 2 5,l 39 38,f 40 2 3 5,l 41 40,o 42 (.call 50 [.t 36,.t 37,.t 39,.t 41]),m 35 42,o 43 (.ext (.t 35) 0),o 44 (.ext (.t 35) 1),m 11 43,m 12 44]
def akt:=[L 46 7 3,m 47 1,f 48 1 2 5,l 49 48,f 50 2 3 5,l 51 50,o 52 (.bld [.int .i64 0,.int .i64 0] [(0,(.t 49)),(1,(.t 51))]),o 53 (.call 51 [.t 46,.t 47,.t 52]),m 45 53,o 54 (.ext (.t 45) 0),o 55 (.ext (.t 45) 1),m 13 54,m 14 55]
def aku:=[m 56 7,m 57 9,o 58 (.call 20 [.t 56,.t 57]),m 59 58,cw 60 8 59,cw 61 10 59,bn 62 (.bin .eql (.t 60) (.t 61)) 59,and 63 59 62,m 64 63,cw 65 11 64,cw 66 13 64,bn 67 (.call 20 [.t 65,.t 66]) 64,and 68 64 67,m 69 68,cw 70 12 69,cw 71 14 69,bn 72 (.bin .eql (.t 70) (.t 71)) 69,and 73 69 72,m 74 73,bn 75 (.call 22 []) 74,and 76 74 75,m 6 76]
def C0:aN:=(s (r akp) (s (r akq) (s (r akr) (s (r aks) (s (r akt) (s (r aku) .ret))))))
def NZ:List bd:=[.tmp 6]
theorem Wh:bD Tryz.prog Tryz.f9 C0:=e (by kernel_rfl)
theorem YC:bE Tryz.prog Tryz.f9 NZ:=e (by kernel_rfl)
theorem Ud:bB Tryz.prog 9:=e (by kernel_rfl)
def adI:=[b 4 0,o 8 (.mv (.c (.nils 1))),aT 9 0]
def adJ:=[L 13 7 4,o 14 (.call 66 [.t 13]),m 10 14]
def adL:=[m 15 10,o 16 (.bin .neq (.t 15) (aj 0))]
def adM:=[m 17 10,o 8 (.mv (.c (.nils 1))),m 9 17]
def adN:=[m 18 1,m 19 2,o 20 (.bld [.int .i64 0,.int .i64 0] [(0,(.t 19)),(1,(aj 9999))]),o 21 (.bs 28 2 [.t 20]),m 22 3,o 23 (.bs 3 1 [.t 22]),o 24 (.call 67 [.t 18,.t 21,.t 23]),m 11 24]
def adO:=[m 25 11,o 26 (.bin .neq (.t 25) (aj 0))]
def adP:=[m 27 11,o 8 (.mv (.c (.nils 1))),m 9 27]
def adQ:=[m 28 1,m 29 3,o 30 (.call 68 [.t 28,.t 29]),o 31 (.nilC (.t 30)),f 32 0 0 31,l 33 32,m 34 2,o 35 (.lk (.i .i64) (.nilp) false (.t 33) (.t 34)),m 12 35]
def adR:=[m 36 12,o 37 (.ptrE false (.t 36) (.c (.nilp)))]
def adS:=[o 8 (.mv (.c (.nils 1))),aT 9 42]
def adK:=[L 38 7 4,m 39 12,o 40 (.call 69 [.t 38,.t 39]),m 8 40,aT 9 0]
def BE:aN:=(s (r adI) (s (s (r adJ) (s (r adL) (.cond (.t 16) (s (r adM) .ret) .skip))) (s (s (r adN) (s (r adO) (.cond (.t 26) (s (r adP) .ret) .skip))) (s (r adQ) (s (s (r adR) (.cond (.t 37) (s (r adS) .ret) .skip)) (s (r adK) .ret))))))
def Mz:List bd:=[.tmp 8,.tmp 9]
theorem UX:bD Tryz.prog Tryz.f14 BE:=e (by kernel_rfl)
theorem Xi:bE Tryz.prog Tryz.f14 Mz:=e (by kernel_rfl)
theorem SS:bB Tryz.prog 14:=e (by kernel_rfl)
def aeq:=[b 3 0,o 6 (.mv (.c (.nils 1))),aT 7 0]
def aer:=[L 10 7 3,o 11 (.call 66 [.t 10]),m 8 11]
def aes:=[m 12 8,o 13 (.bin .neq (.t 12) (aj 0))]
def aet:=[m 14 8,o 6 (.mv (.c (.nils 1))),m 7 14]
def aeu:=[m 15 1,m 16 2,o 17 (.bs 3 1 [.t 16]),o 18 (.call 67 [.t 15,(.c (.nils 2)),.t 17]),m 9 18]
def aev:=[m 19 9,o 20 (.bin .neq (.t 19) (aj 0))]
def aew:=[m 21 9,o 6 (.mv (.c (.nils 1))),m 7 21]
def aex:=[m 22 1,m 23 2,o 24 (.call 68 [.t 22,.t 23]),o 25 (.mk 73 [.t 3]),o 26 (.call 72 [.t 24,.t 25]),m 6 26,aT 7 0]
def BT:aN:=(s (r aeq) (s (s (r aer) (s (r aes) (.cond (.t 13) (s (r aet) .ret) .skip))) (s (s (r aeu) (s (r aev) (.cond (.t 20) (s (r aew) .ret) .skip))) (s (r aex) .ret))))
def MP:List bd:=[.tmp 6,.tmp 7]
theorem Vc:bD Tryz.prog Tryz.f16 BT:=e (by kernel_rfl)
theorem Xx:bE Tryz.prog Tryz.f16 MP:=e (by kernel_rfl)
theorem S7:bB Tryz.prog 16:=e (by kernel_rfl)
def aft:=[b 4 0,o 8 (.mv (.c (.nils 2))),aT 9 0]
def afu:=[L 17 7 4,m 18 1,m 19 2,m 20 3,o 21 (.call 14 [.t 17,.t 18,.t 19,.t 20]),m 16 21,o 22 (.ext (.t 16) 0),o 23 (.ext (.t 16) 1),m 10 22,m 11 23]
def afy:=[m 24 11,o 25 (.bin .neq (.t 24) (aj 0))]
def afz:=[m 26 11,o 8 (.mv (.c (.nils 2))),m 9 26]
def afA:=[m 27 1,m 28 3,o 29 (.call 68 [.t 27,.t 28]),o 30 (.nilC (.t 29)),f 31 0 0 30,l 32 31,m 33 2,o 34 (.lk (.i .i64) (.nilp) false (.t 32) (.t 33)),m 12 34]
def afB:=[o 13 (.mv (.c (.nils 2)))]
def afC:=[m 35 1,o 36 (.len (.t 35)),aT 37 0]
def afD:=[lt 38 37 36]
def afE:=[m 39 37,o 40 (.is 17 (.t 35) (.t 37)),L 41 17 40,o 15 (.alloc (.agg [.agg [.int .i64 0,.int .i64 0],.int .i64 0,.int .i64 0,.int .i64 0,.int .i64 0,.int .i64 0,.int .i64 0,.int .i64 0,.agg [.int .i64 0,.int .i64 0,.int .i64 0,.int .i64 0,.int .i64 0,.int .i64 0],.agg [.int .i64 0,.int .i64 0]])),m 14 39,p (.bA (some 17) (.t 15) (.t 41))]
def afF:=[L 42 7 4,m 43 12,m 44 1,m 45 14,o 46 (.call 78 [.t 44,.t 45]),m 47 3,o 48 (.call 68 [.t 46,.t 47]),o 49 (.nilC (.t 48)),f 50 0 0 49,l 51 50,m 52 2,o 53 (.lk (.i .i64) (.nilp) false (.t 51) (.t 52)),o 54 (.call 77 [.t 42,.t 43,.t 53]),no 55 54]
def Zj:=some [[],[],[],[],[2,3],[],[4,5,4],[6],[7],[8],[],[9,10],[0,1,11,6],[12]]
def afv:=[m 56 13,f 57 0 0 15,L 58 2 57,o 59 (.bs 65 2 [.t 58]),o 60 (.cV 65 2 16 (.agg [.int .i64 0,.int .i64 0]) (.t 56) (.t 59)),m 13 60]
def afw:=[ad 61 37 1,m 37 61]
def afx:=[m 62 13,m 8 62,aT 9 0]
def Ce:aN:=(s (r aft) (s (s (r afu) (s (r afy) (.cond (.t 25) (s (r afz) .ret) .skip))) (s (r afA) (s (r afB) (s (s (r afC) (.block 0 (.loop (s (r afD) (s (.cond (.t 38) .skip (.exit 0)) (s (.block 1 (s (r afE) (s (.bT Zj afF) (.cond (.t 55) (r afv) .skip)))) (r afw))))))) (s (r afx) .ret))))))
def M9:List bd:=[.tmp 8,.tmp 9]
theorem Vv:bD Tryz.prog Tryz.f18 Ce:=e (by kernel_rfl)
theorem XQ:bE Tryz.prog Tryz.f18 M9:=e (by kernel_rfl)
theorem Tq:bB Tryz.prog 18:=e (by kernel_rfl)
def Jb:=[o 4 (.mv bp)]
def Jc:=[m 6 0,o 7 (.len (.t 6)),m 8 1,o 9 (.len (.t 8)),o 10 (.bin .neq (.t 7) (.t 9))]
def Jd:=[o 4 (.mv bp)]
def Je:=[aT 5 0]
def Jf:=[m 11 5,m 12 0,o 13 (.len (.t 12)),lt 14 11 13]
def Jg:=[m 17 0,m 18 5,o 19 (.is 1 (.t 17) (.t 18)),l 20 19,m 21 1,m 22 5,o 23 (.is 1 (.t 21) (.t 22)),l 24 23,o 25 (.bin .neq (.t 20) (.t 24))]
def Zt:=some [[],[],[0,1],[2],[],[],[4,5],[6],[3,7]]
def Jh:=[o 4 (.mv bp)]
def Ji:=[m 15 5,ad 16 15 1,m 5 16]
def Jj:=[o 4 (.mv T)]
def Cn:aN:=(s (r Jb) (s (s (r Jc) (.cond (.t 10) (s (r Jd) .ret) .skip)) (s (s (r Je) (.block 0 (.loop (s (s (r Jf) (.cond (.t 14) .skip (.exit 0))) (s (.block 1 (s (.bT Zt Jg) (.cond (.t 25) (s (r Jh) .ret) .skip))) (r Ji)))))) (s (r Jj) .ret))))
def Nj:List bd:=[.tmp 4]
theorem VE:bD Tryz.prog Tryz.f20 Cn:=e (by kernel_rfl)
theorem XZ:bE Tryz.prog Tryz.f20 Nj:=e (by kernel_rfl)
theorem Ty:bB Tryz.prog 20:=e (by kernel_rfl)
def agn:=[o 4 (.mv bp)]
def ago:=[m 6 0,o 7 (.len (.t 6)),m 8 1,o 9 (.len (.t 8)),o 10 (.bin .neq (.t 7) (.t 9))]
def agp:=[o 4 (.mv bp)]
def agq:=[aT 5 0]
def agr:=[m 11 5,m 12 0,o 13 (.len (.t 12)),lt 14 11 13]
def ags:=[m 17 0,m 18 5,o 19 (.is 2 (.t 17) (.t 18)),L 20 2 19,m 21 1,m 22 5,o 23 (.is 2 (.t 21) (.t 22)),L 24 2 23,o 25 (.eqv (.bA [(.i .i64),(.i .i64)]) true (.t 20) (.t 24))]
def Zw:=some [[],[],[0,1],[2],[],[],[4,5],[6],[3,7]]
def agt:=[o 4 (.mv bp)]
def agu:=[m 15 5,ad 16 15 1,m 5 16]
def agv:=[o 4 (.mv T)]
def Cq:aN:=(s (r agn) (s (s (r ago) (.cond (.t 10) (s (r agp) .ret) .skip)) (s (s (r agq) (.block 0 (.loop (s (s (r agr) (.cond (.t 14) .skip (.exit 0))) (s (.block 1 (s (.bT Zw ags) (.cond (.t 25) (s (r agt) .ret) .skip))) (r agu)))))) (s (r agv) .ret))))
def Nn:List bd:=[.tmp 4]
theorem VH:bD Tryz.prog Tryz.f21 Cq:=e (by kernel_rfl)
theorem X2:bE Tryz.prog Tryz.f21 Nn:=e (by kernel_rfl)
theorem TB:bB Tryz.prog 21:=e (by kernel_rfl)
def agw:=[o 0 (.mv bp)]
def agx:=[o 18 (.call 81 []),m 1 18]
def agA:=[o 19 (.call 82 []),o 2 (.alloc (.agg [.agg [.int .i64 0,.int .i64 0,.int .i64 0,.int .i64 0,.int .i64 0],.int .i64 0,.nils 7])),p (.bA (some 7) (.t 2) (.t 19))]
def agB:=[m 21 1,o 22 (.call 27 [.t 21,(aj 10),(aj 6),(aj 7)]),m 20 22,o 23 (.ext (.t 20) 0),o 24 (.ext (.t 20) 1),m 3 23,m 4 24]
def agC:=[L 26 7 2,m 27 1,o 28 (.call 14 [.t 26,.t 27,(aj 20),(aj 9)]),m 25 28,o 29 (.ext (.t 25) 0),o 30 (.ext (.t 25) 1),m 5 29,m 6 30]
def agD:=[L 32 7 2,m 33 1,o 34 (.call 14 [.t 32,.t 33,(aj 20),(aj 14)]),m 31 34,o 35 (.ext (.t 31) 0),o 36 (.ext (.t 31) 1),m 7 35,m 8 36]
def agE:=[L 38 7 2,m 39 1,o 40 (.call 16 [.t 38,.t 39,(aj 11)]),m 37 40,o 41 (.ext (.t 37) 0),o 42 (.ext (.t 37) 1),m 9 41,m 10 42]
def agF:=[m 44 1,o 45 (.call 28 [.t 44,(aj 2),(aj 3),(aj 7),(aj 7)]),m 43 45,o 46 (.ext (.t 43) 0),o 47 (.ext (.t 43) 1),m 11 46,m 12 47]
def agG:=[m 49 1,o 50 (.call 26 [.t 49,(aj 12),(aj 12)]),m 48 50,o 51 (.ext (.t 48) 0),o 52 (.ext (.t 48) 1),m 13 51,m 14 52]
def agH:=[L 54 7 2,m 55 1,o 56 (.call 18 [.t 54,.t 55,(aj 20),(aj 9)]),m 53 56,o 57 (.ext (.t 53) 0),o 58 (.ext (.t 53) 1),m 15 57,m 16 58]
def agy:=[m 59 4,o 60 (.bin .eql (.t 59) (aj 0)),m 61 60,cw 62 6 61,bn 63 (.bin .eql (.t 62) (aj 0)) 61,and 64 61 63,m 65 64,cw 66 8 65,bn 67 (.bin .eql (.t 66) (aj 0)) 65,and 68 65 67,m 69 68,cw 70 10 69,bn 71 (.bin .eql (.t 70) (aj 0)) 69,and 72 69 71,m 73 72,cw 74 12 73,bn 75 (.bin .eql (.t 74) (aj 0)) 73,and 76 73 75,m 77 76,cw 78 14 77,bn 79 (.bin .eql (.t 78) (aj 0)) 77,and 80 77 79,m 81 80,cw 82 16 81,bn 83 (.bin .eql (.t 82) (aj 0)) 81,and 84 81 83,m 17 84]
def agz:=[m 85 17,m 86 85,cw 87 3 86,bn 88 (.bin .eql (.t 87) (aj 2)) 86,and 89 86 88,m 90 89,cw 91 5 90,bn 92 (.bs 3 1 [(aj 3)]) 90,bn 93 (.call 20 [.t 91,.t 92]) 90,and 94 90 93,m 95 94,cw 96 7 95,bn 97 (.bs 3 1 [(aj 1),(aj 2),(aj 3)]) 95,bn 98 (.call 20 [.t 96,.t 97]) 95,and 99 95 98,m 100 99,cw 101 9 100,bn 102 (.bs 3 1 [(aj 11)]) 100,bn 103 (.call 20 [.t 101,.t 102]) 100,and 104 100 103,m 105 104,cw 106 11 105,bn 107 (.bin .eql (.t 106) (aj 1)) 105,and 108 105 107,m 109 108,cw 110 13 109,bn 111 (.bs 3 1 [(aj 11),(aj 20)]) 109,bn 112 (.call 20 [.t 110,.t 111]) 109,and 113 109 112,m 114 113,cw 115 15 114,bn 116 (.bld [.int .i64 0,.int .i64 0] [(1,(aj 2))]) 114,bn 117 (.bld [.int .i64 0,.int .i64 0] [(1,(aj 5))]) 114,bn 118 (.bs 65 2 [.t 116,.t 117]) 114,bn 119 (.call 21 [.t 115,.t 118]) 114,and 120 114 119,m 0 120]
def Cv:aN:=(s (r agw) (s (r agx) (s (r agA) (s (r agB) (s (r agC) (s (r agD) (s (r agE) (s (r agF) (s (r agG) (s (r agH) (s (r agy) (s (r agz) .ret))))))))))))
def Nt:List bd:=[.tmp 0]
theorem VM:bD Tryz.prog Tryz.f22 Cv:=e (by kernel_rfl)
theorem X7:bE Tryz.prog Tryz.f22 Nt:=e (by kernel_rfl)
theorem TG:bB Tryz.prog 22:=e (by kernel_rfl)
def agI:=[o 6 (.mv (.c (.nils 1))),aT 7 0]
def agJ:=[m 11 0,m 12 1,m 13 2,o 14 (.bs 3 1 [.t 12,.t 13]),o 15 (.call 67 [.t 11,(.c (.nils 2)),.t 14]),m 8 15]
def agK:=[m 16 8,o 17 (.bin .neq (.t 16) (aj 0))]
def agL:=[m 18 8,o 6 (.mv (.c (.nils 1))),m 7 18]
def agM:=[m 20 0,m 21 1,m 22 2,o 23 (.call 88 [.t 20,.t 21,.t 22]),m 19 23,o 24 (.ext (.t 19) 0),o 25 (.ext (.t 19) 1),m 9 24,m 10 25]
def agN:=[m 26 9,o 27 (.call 72 [.t 26,(.c (.func 89 []))]),m 6 27,aT 7 0]
def Cw:aN:=(s (r agI) (s (s (r agJ) (s (r agK) (.cond (.t 17) (s (r agL) .ret) .skip))) (s (r agM) (s (r agN) .ret))))
def Nu:List bd:=[.tmp 6,.tmp 7]
theorem VN:bD Tryz.prog Tryz.f26 Cw:=e (by kernel_rfl)
theorem X8:bE Tryz.prog Tryz.f26 Nu:=e (by kernel_rfl)
theorem TH:bB Tryz.prog 26:=e (by kernel_rfl)
def agO:=[aT 8 0,aT 9 0]
def agP:=[m 14 0,m 15 1,o 16 (.bld [.int .i64 0,.int .i64 0] [(0,(.t 15)),(1,(aj 9999))]),o 17 (.bs 28 2 [.t 16]),m 18 2,m 19 3,o 20 (.bs 3 1 [.t 18,.t 19]),o 21 (.call 67 [.t 14,.t 17,.t 20]),m 10 21]
def agR:=[m 22 10,o 23 (.bin .neq (.t 22) (aj 0))]
def agS:=[m 24 10,aT 8 0,m 9 24]
def agT:=[m 26 0,m 27 2,m 28 3,o 29 (.call 88 [.t 26,.t 27,.t 28]),m 25 29,o 30 (.ext (.t 25) 0),o 31 (.ext (.t 25) 1),m 11 30,m 12 31]
def agU:=[m 32 11,o 33 (.nilC (.t 32)),f 34 0 0 33,l 35 34,m 36 1,o 37 (.lk (.i .i64) (.nilp) false (.t 35) (.t 36)),m 13 37]
def agV:=[m 39 13,o 40 (.ptrE false (.t 39) (.c (.nilp))),m 38 40]
def agW:=[aT 8 0,aT 9 42]
def agX:=[m 42 13,o 43 (.call 90 [.t 42]),m 41 43]
def agY:=[aT 8 0,aT 9 0]
def agQ:=[m 44 13,o 45 (.nilC (.t 44)),f 46 0 0 45,f 47 3 3 46,l 48 47,m 8 48,aT 9 0]
def Cx:aN:=(s (r agO) (s (s (r agP) (s (r agR) (.cond (.t 23) (s (r agS) .ret) .skip))) (s (r agT) (s (r agU) (s (.block 0 (s (r agV) (.cond (.t 38) (s (r agW) .ret) (s (r agX) (.cond (.t 41) (s (r agY) .ret) .skip))))) (s (r agQ) .ret))))))
def Nv:List bd:=[.tmp 8,.tmp 9]
theorem VO:bD Tryz.prog Tryz.f27 Cx:=e (by kernel_rfl)
theorem X9:bE Tryz.prog Tryz.f27 Nv:=e (by kernel_rfl)
theorem TI:bB Tryz.prog 27:=e (by kernel_rfl)
def agZ:=[b 6 1,b 7 2,aT 10 0,aT 11 0]
def ag0:=[m 15 0,l 16 6,o 17 (.bld [.int .i64 0,.int .i64 0] [(0,(.t 16)),(1,(aj 99))]),l 18 7,o 19 (.bld [.int .i64 0,.int .i64 0] [(0,(.t 18)),(1,(aj 9))]),o 20 (.bs 28 2 [.t 17,.t 19]),m 21 3,m 22 4,o 23 (.bs 3 1 [.t 21,.t 22]),o 24 (.call 67 [.t 15,.t 20,.t 23]),m 12 24]
def ag1:=[m 25 12,o 26 (.bin .neq (.t 25) (aj 0))]
def ag2:=[m 27 12,aT 10 0,m 11 27]
def ag3:=[m 29 0,m 30 3,m 31 4,o 32 (.call 88 [.t 29,.t 30,.t 31]),m 28 32,o 33 (.ext (.t 28) 0),o 34 (.ext (.t 28) 1),m 13 33,m 14 34]
def ag4:=[m 35 13,o 36 (.mk 91 [.t 6,.t 7]),o 37 (.call 72 [.t 35,.t 36]),o 38 (.len (.t 37)),m 10 38,aT 11 0]
def Cy:aN:=(s (r agZ) (s (s (r ag0) (s (r ag1) (.cond (.t 26) (s (r ag2) .ret) .skip))) (s (r ag3) (s (r ag4) .ret))))
def Nw:List bd:=[.tmp 10,.tmp 11]
theorem VP:bD Tryz.prog Tryz.f28 Cy:=e (by kernel_rfl)
theorem Ya:bE Tryz.prog Tryz.f28 Nw:=e (by kernel_rfl)
theorem TJ:bB Tryz.prog 28:=e (by kernel_rfl)
def ag5:=[b 4 0,b 6 2,o 8 (.mv (.c (.nils 1))),aT 9 0]
def ag6:=[L 14 7 4,o 15 (.call 66 [.t 14]),m 10 15]
def ag8:=[m 16 10,o 17 (.bin .neq (.t 16) (aj 0))]
def ag9:=[m 18 10,o 8 (.mv (.c (.nils 1))),m 9 18]
def aha:=[m 19 1,m 20 3,o 21 (.bs 3 1 [.t 20]),o 22 (.call 67 [.t 19,(.c (.nils 2)),.t 21]),m 11 22]
def ahb:=[m 23 11,o 24 (.bin .neq (.t 23) (aj 0))]
def ahc:=[m 25 11,o 8 (.mv (.c (.nils 1))),m 9 25]
def ahd:=[m 27 1,L 28 2 6,o 29 (.call 103 [.t 27,.t 28]),m 26 29,o 30 (.ext (.t 26) 0),o 31 (.ext (.t 26) 1),m 12 30,m 13 31]
def ahe:=[m 32 13,no 33 32]
def ahf:=[o 8 (.mv (.c (.nils 1))),aT 9 3]
def ag7:=[L 34 7 4,m 35 1,m 36 3,o 37 (.call 68 [.t 35,.t 36]),m 38 1,m 39 12,o 40 (.call 78 [.t 38,.t 39]),m 41 3,o 42 (.call 68 [.t 40,.t 41]),o 43 (.call 109 [.t 34,.t 37,.t 42]),m 8 43,aT 9 0]
def Zx:=some [[],[],[],[1,2],[],[],[4,5,3],[],[6,7,6],[0,3,8,8],[9,9,0,1,2,3,4,5,6,7,8,9],[10,0,1,2,3,4,5,6,7,8,9,10]]
def Cz:aN:=(s (r ag5) (s (s (r ag6) (s (r ag8) (.cond (.t 17) (s (r ag9) .ret) .skip))) (s (s (r aha) (s (r ahb) (.cond (.t 24) (s (r ahc) .ret) .skip))) (s (r ahd) (s (s (r ahe) (.cond (.t 33) (s (r ahf) .ret) .skip)) (s (.bT Zx ag7) .ret))))))
def Nx:List bd:=[.tmp 8,.tmp 9]
theorem VQ:bD Tryz.prog Tryz.f48 Cz:=e (by kernel_rfl)
theorem Yb:bE Tryz.prog Tryz.f48 Nx:=e (by kernel_rfl)
theorem TK:bB Tryz.prog 48:=e (by kernel_rfl)
def ahg:=[b 4 0,b 6 2,o 8 (.mv (.c (.nils 1))),aT 9 0]
def ahh:=[L 12 7 4,o 13 (.call 70 [.t 12]),o 14 (.bin .neq (.t 13) (aj 0))]
def ahk:=[o 8 (.mv (.c (.nils 1))),aT 9 13]
def ahl:=[m 15 1,o 16 (.call 65 [.t 15]),o 17 (.bin .neq (.t 16) (aj 0))]
def ahm:=[o 8 (.mv (.c (.nils 1))),aT 9 41]
def ahn:=[m 18 3,o 19 (.call 75 [.t 18]),no 20 19]
def aho:=[o 8 (.mv (.c (.nils 1))),aT 9 6]
def ahp:=[m 21 1,L 22 2 6,o 23 (.call 110 [.t 21,.t 22]),m 10 23]
def ahq:=[m 24 10,o 25 (.bin .lss (.t 24) (aj 0))]
def ahr:=[o 8 (.mv (.c (.nils 1))),aT 9 3]
def ahi:=[L 26 7 4,m 27 1,m 28 3,o 29 (.call 76 [.t 27,.t 28,(aj 100000)]),m 30 1,m 31 10,o 32 (.call 80 [.t 30,.t 31]),m 33 3,o 34 (.call 76 [.t 32,.t 33,(aj 100000)]),o 35 (.call 111 [.t 26,.t 29,.t 34]),m 11 35]
def Zy:=some [[],[],[],[1,2],[],[],[4,5,3],[],[6,7,6],[0,3,8,8],[9,9,0,1,2,3,4,5,6,7,8,9]]
def ahj:=[m 36 11,m 8 36,aT 9 0]
def CA:aN:=(s (r ahg) (s (s (r ahh) (.cond (.t 14) (s (r ahk) .ret) .skip)) (s (s (r ahl) (.cond (.t 17) (s (r ahm) .ret) .skip)) (s (s (r ahn) (.cond (.t 20) (s (r aho) .ret) .skip)) (s (r ahp) (s (s (r ahq) (.cond (.t 25) (s (r ahr) .ret) .skip)) (s (.bT Zy ahi) (s (r ahj) .ret))))))))
def Ny:List bd:=[.tmp 8,.tmp 9]
theorem VR:bD Tryz.prog Tryz.f49 CA:=e (by kernel_rfl)
theorem Yc:bE Tryz.prog Tryz.f49 Ny:=e (by kernel_rfl)
theorem TL:bB Tryz.prog 49:=e (by kernel_rfl)
def ahs:=[b 4 0,o 8 (.mv (.c (.nils 1))),aT 9 0]
def aht:=[L 12 7 4,o 13 (.call 66 [.t 12]),m 10 13]
def ahu:=[m 14 10,o 15 (.bin .neq (.t 14) (aj 0))]
def ahv:=[m 16 10,o 8 (.mv (.c (.nils 1))),m 9 16]
def ahw:=[m 17 1,m 18 2,m 19 3,o 20 (.bs 3 1 [.t 18,.t 19]),o 21 (.call 67 [.t 17,(.c (.nils 2)),.t 20]),m 11 21]
def ahx:=[m 22 11,o 23 (.bin .neq (.t 22) (aj 0))]
def ahy:=[m 24 11,o 8 (.mv (.c (.nils 1))),m 9 24]
def ahz:=[L 25 7 4,m 26 1,m 27 2,o 28 (.call 68 [.t 26,.t 27]),m 29 1,m 30 3,o 31 (.call 68 [.t 29,.t 30]),o 32 (.call 109 [.t 25,.t 28,.t 31]),m 8 32,aT 9 0]
def Zz:=some [[],[],[],[1,2],[],[],[4,5,3],[0,3,6,6],[7,7,0,1,2,3,4,5,6,7],[8,0,1,2,3,4,5,6,7,8]]
def CB:aN:=(s (r ahs) (s (s (r aht) (s (r ahu) (.cond (.t 15) (s (r ahv) .ret) .skip))) (s (s (r ahw) (s (r ahx) (.cond (.t 23) (s (r ahy) .ret) .skip))) (s (.bT Zz ahz) .ret))))
def Nz:List bd:=[.tmp 8,.tmp 9]
theorem VS:bD Tryz.prog Tryz.f50 CB:=e (by kernel_rfl)
theorem Yd:bE Tryz.prog Tryz.f50 Nz:=e (by kernel_rfl)
theorem TM:bB Tryz.prog 50:=e (by kernel_rfl)
def ahA:=[b 3 0,b 5 2,o 6 (.mv (.c (.nils 1))),aT 7 0]
def ahB:=[L 9 7 3,o 10 (.call 70 [.t 9]),o 11 (.bin .neq (.t 10) (aj 0))]
def ahC:=[o 6 (.mv (.c (.nils 1))),aT 7 13]
def ahD:=[m 12 1,o 13 (.call 65 [.t 12]),o 14 (.bin .neq (.t 13) (aj 0))]
def ahE:=[o 6 (.mv (.c (.nils 1))),aT 7 41]
def ahF:=[o 15 (.ia 2 1 (.t 5) (aj 0)),l 16 15,o 17 (.call 75 [.t 16]),no 18 17,m 19 18,on 20 (.ia 2 1 (.t 5) (aj 1)) 19,eU 21 20 19,on 22 (.call 75 [.t 21]) 19,on 23 (.un .not (.t 22)) 19,or 24 19 23]
def ahG:=[o 6 (.mv (.c (.nils 1))),aT 7 6]
def ahH:=[L 25 7 3,m 26 1,o 27 (.ia 2 1 (.t 5) (aj 0)),l 28 27,o 29 (.call 76 [.t 26,.t 28,(aj 100000)]),m 30 1,o 31 (.ia 2 1 (.t 5) (aj 1)),l 32 31,o 33 (.call 76 [.t 30,.t 32,(aj 100000)]),o 34 (.call 111 [.t 25,.t 29,.t 33]),m 8 34]
def ZA:=some [[],[],[],[2],[1,3],[],[],[6],[5,7,4],[0,4,8,8],[9,9,0,1,2,3,4,5,6,7,8,9]]
def ahI:=[m 35 8,m 6 35,aT 7 0]
def CC:aN:=(s (r ahA) (s (s (r ahB) (.cond (.t 11) (s (r ahC) .ret) .skip)) (s (s (r ahD) (.cond (.t 14) (s (r ahE) .ret) .skip)) (s (s (r ahF) (.cond (.t 24) (s (r ahG) .ret) .skip)) (s (.bT ZA ahH) (s (r ahI) .ret))))))
def NA:List bd:=[.tmp 6,.tmp 7]
theorem VT:bD Tryz.prog Tryz.f51 CC:=e (by kernel_rfl)
theorem Ye:bE Tryz.prog Tryz.f51 NA:=e (by kernel_rfl)
theorem TN:bB Tryz.prog 51:=e (by kernel_rfl)
def ahJ:=[b 1 0,aT 2 0]
def ahK:=[L 3 17 1,o 4 (.call 117 [.t 3]),no 5 4]
def ahL:=[aT 2 40]
def ahM:=[aT 2 0]
def CD:aN:=(s (r ahJ) (s (s (r ahK) (.cond (.t 5) (s (r ahL) .ret) .skip)) (s (r ahM) .ret)))
def NB:List bd:=[.tmp 2]
theorem VU:bD Tryz.prog Tryz.f62 CD:=e (by kernel_rfl)
theorem Yf:bE Tryz.prog Tryz.f62 NB:=e (by kernel_rfl)
theorem TO:bB Tryz.prog 62:=e (by kernel_rfl)
def Jy:=[b 1 0,aT 2 0]
def ahN:=[f 7 3 4 1,l 8 7,o 9 (.call 94 [.t 8,(aj 0),(aj 100000)]),m 10 9,cF 11 2 3 1 10,cP 12 11 10,bn 13 (.call 94 [.t 12,(aj 0),(aj 100000)]) 10,and 14 10 13,m 3 14]
def ahY:=[f 15 0 0 1,L 16 2 15,o 17 (.call 116 [.t 16]),no 18 17,m 19 18,ew 20 3 19,on 21 (.un .not (.t 20)) 19,or 22 19 21,m 23 22,fn 24 1 2 1 23,eU 25 24 23,on 26 (.call 94 [.t 25,(aj 0),(aj 6)]) 23,on 27 (.un .not (.t 26)) 23,or 28 23 27,m 29 28,on 30 (.ld (some 17) (.t 1)) 29,on 31 (.ld (some 17) (.t 1)) 29,on 32 (.call 84 [.t 31]) 29,on 33 (.eqv (.bA [(.bA [(.i .i64),(.i .i64)]),(.i .i64),(.i .i64),(.i .i64),(.i .i64),(.i .i64),(.i .i64),(.i .i64),(.kq 6 (.i .i64)),(.bA [(.i .i64),(.i .i64)])]) true (.t 30) (.t 32)) 29,or 34 29 33]
def ZB:=some [[],[0],[1],[2],[3,2],[4],[5,4],[4,6],[7,4],[8],[9,8],[10,8,8],[11,8],[8,12],[13,11],[14],[14],[16,14,14],[15,17,14],[14,18]]
def ah5:=[aT 2 40]
def ah6:=[f 35 1 2 1,l 36 35,o 37 (.bin .eql (.t 36) (aj 0))]
def ah7:=[f 38 2 3 1,l 39 38,o 40 (.bin .neq (.t 39) (aj 0)),m 41 40,fn 42 9 15 1 41,on 43 (.ld (some 2) (.t 42)) 41,on 44 (.call 116 [.t 43]) 41,on 45 (.un .not (.t 44)) 41,or 46 41 45,m 47 46,fn 48 9 15 1 47,fn 49 0 0 48 47,eU 50 49 47,fn 51 0 0 1 47,fn 52 0 0 51 47,eU 53 52 47,on 54 (.bin .neq (.t 50) (.t 53)) 47,or 55 47 54,m 56 55,fn 57 9 15 1 56,fn 58 1 1 57 56,eU 59 58 56,fn 60 0 0 1 56,fn 61 1 1 60 56,eU 62 61 56,on 63 (.bin .geq (.t 59) (.t 62)) 56,or 64 56 63]
def ah8:=[aT 2 40]
def ah9:=[aT 2 0]
def aia:=[f 65 4 5 1,l 66 65,o 67 (.call 94 [.t 66,(aj 1),(aj 9999)]),no 68 67]
def aib:=[aT 2 40]
def ahO:=[f 69 7 8 1,l 70 69,o 71 (.call 94 [.t 70,(aj 1),(aj 99)]),m 4 71]
def ahP:=[f 72 6 7 1,l 73 72,o 74 (.call 94 [.t 73,(aj 1),(aj 9)]),m 5 74]
def ahQ:=[o 6 (.mv bp)]
def ahR:=[f 75 1 2 1,l 76 75]
def ahS:=[o 78 (.bin .eql (.t 76) (aj 1)),m 77 78]
def ahT:=[m 79 4,no 80 79,m 81 80,ew 82 5 81,on 83 (.un .not (.t 82)) 81,or 84 81 83,m 85 84,fn 86 5 6 1 85,eU 87 86 85,on 88 (.call 94 [.t 87,(aj 0),(aj 9999)]) 85,on 89 (.un .not (.t 88)) 85,or 90 85 89,m 91 90,fn 92 5 6 1 91,eU 93 92 91,fn 94 4 5 1 91,eU 95 94 91,on 96 (.bin .eql (.t 93) (.t 95)) 91,or 97 91 96,m 6 97]
def ahU:=[o 99 (.bin .eql (.t 76) (aj 2)),m 98 99]
def ahV:=[m 100 5,no 101 100,m 6 101]
def ahW:=[o 103 (.bin .eql (.t 76) (aj 3)),m 102 103]
def ahX:=[o 104 (.bin .eql (.t 76) (aj 5)),m 102 104]
def ahZ:=[m 105 4,no 106 105,m 6 106]
def ah0:=[o 108 (.bin .eql (.t 76) (aj 4)),m 107 108]
def ah1:=[f 109 8 9 1,L 110 6 109,o 111 (.call 101 [.t 110]),o 112 (.bin .neq (.t 111) (aj 0)),m 6 112]
def ah2:=[m 113 6]
def ah3:=[aT 2 40]
def ah4:=[aT 2 0]
def CE:aN:=(s (r Jy) (s (r ahN) (s (s (.bT ZB ahY) (.cond (.t 34) (s (r ah5) .ret) .skip)) (s (s (r ah6) (.cond (.t 37) (s (s (r ah7) (.cond (.t 64) (s (r ah8) .ret) .skip)) (s (r ah9) .ret)) .skip)) (s (s (r aia) (.cond (.t 68) (s (r aib) .ret) .skip)) (s (r ahO) (s (r ahP) (s (r ahQ) (s (s (r ahR) (.block 0 (s (r ahS) (.cond (.t 77) (r ahT) (s (r ahU) (.cond (.t 98) (r ahV) (s (s (r ahW) (.cond (.t 102) .skip (r ahX))) (.cond (.t 102) (r ahZ) (s (r ah0) (.cond (.t 107) (r ah1) .skip)))))))))) (s (s (r ah2) (.cond (.t 113) (s (r ah3) .ret) .skip)) (s (r ah4) .ret)))))))))))
def NC:List bd:=[.tmp 2]
theorem VV:bD Tryz.prog Tryz.f63 CE:=e (by kernel_rfl)
theorem Yg:bE Tryz.prog Tryz.f63 NC:=e (by kernel_rfl)
theorem TP:bB Tryz.prog 63:=e (by kernel_rfl)
def Jz:=[aT 2 0]
def JA:=[m 5 0,o 6 (.len (.t 5)),o 7 (.bin .gtr (.t 6) (aj 60))]
def aic:=[aT 2 41]
def JB:=[m 8 0,o 9 (.len (.t 8)),aT 10 0]
def aid:=[lt 11 10 9]
def aie:=[m 12 10,o 13 (.is 17 (.t 8) (.t 10)),L 14 17 13,o 4 (.alloc (.agg [.agg [.int .i64 0,.int .i64 0],.int .i64 0,.int .i64 0,.int .i64 0,.int .i64 0,.int .i64 0,.int .i64 0,.int .i64 0,.agg [.int .i64 0,.int .i64 0,.int .i64 0,.int .i64 0,.int .i64 0,.int .i64 0],.agg [.int .i64 0,.int .i64 0]])),m 3 12,p (.bA (some 17) (.t 4) (.t 14))]
def aif:=[L 15 17 4,o 16 (.call 117 [.t 15]),no 17 16,m 18 17,ew 19 3 18,on 20 (.bin .gtr (.t 19) (aj 0)) 18,ew 21 20 18,cw 22 0 21,cw 23 3 21,bn 24 (.bin .sub (.t 23) (aj 1)) 21,bn 25 (.is 17 (.t 22) (.t 24)) 21,cF 26 0 0 25 21,bn 27 (.ld (some 2) (.t 26)) 21,cF 28 0 0 4 21,bn 29 (.ld (some 2) (.t 28)) 21,bn 30 (.call 118 [.t 27,.t 29]) 21,bn 31 (.bin .geq (.t 30) (aj 0)) 21,on 32 (.pick (.t 21) (.t 31) bp) 18,or 33 18 32]
def ZC:=some [[],[0],[1],[2,1],[3],[4,3],[5,3,3],[6],[6],[8,6],[7,9,6],[10,6],[11,6],[6],[13,6],[12,14,6,6],[15,6],[6,16,3],[3,17]]
def aih:=[aT 2 41]
def aii:=[ad 34 10 1,m 10 34]
def aij:=[aT 2 0]
def CF:aN:=(s (r Jz) (s (s (r JA) (.cond (.t 7) (s (r aic) .ret) .skip)) (s (s (r JB) (.block 0 (.loop (s (r aid) (s (.cond (.t 11) .skip (.exit 0)) (s (.block 1 (s (r aie) (s (.bT ZC aif) (.cond (.t 33) (s (r aih) .ret) .skip)))) (r aii))))))) (s (r aij) .ret))))
def ND:List bd:=[.tmp 2]
theorem VW:bD Tryz.prog Tryz.f64 CF:=e (by kernel_rfl)
theorem Yh:bE Tryz.prog Tryz.f64 ND:=e (by kernel_rfl)
theorem TQ:bB Tryz.prog 64:=e (by kernel_rfl)
def JC:=[aT 2 0]
def JD:=[m 4 0,o 5 (.len (.t 4)),o 6 (.bin .gtr (.t 5) (aj 60))]
def aik:=[aT 2 41]
def JE:=[aT 3 0]
def ail:=[m 7 3,m 8 0,o 9 (.len (.t 8)),lt 10 7 9]
def aim:=[m 13 0,m 14 3,o 15 (.is 17 (.t 13) (.t 14)),L 16 17 15,o 17 (.call 63 [.t 16]),o 18 (.bin .neq (.t 17) (aj 0)),m 19 18,ew 20 3 19,on 21 (.bin .gtr (.t 20) (aj 0)) 19,ew 22 21 19,cw 23 0 22,cw 24 3 22,bn 25 (.bin .sub (.t 24) (aj 1)) 22,bn 26 (.is 17 (.t 23) (.t 25)) 22,cF 27 0 0 26 22,bn 28 (.ld (some 2) (.t 27)) 22,cw 29 0 22,cw 30 3 22,bn 31 (.is 17 (.t 29) (.t 30)) 22,cF 32 0 0 31 22,bn 33 (.ld (some 2) (.t 32)) 22,bn 34 (.call 119 [.t 28,.t 33]) 22,bn 35 (.un .not (.t 34)) 22,on 36 (.pick (.t 22) (.t 35) bp) 19,or 37 19 36]
def ZD:=some [[],[],[0,1],[2],[3],[4],[5,4],[6],[7,6],[8,6,6],[9],[9],[11,9],[10,12,9],[13,9],[14,9],[9],[9],[16,17,9],[18,9],[19,9],[15,20,9,9],[21,9],[9,22,6],[6,23]]
def ain:=[aT 2 41]
def aio:=[m 11 3,ad 12 11 1,m 3 12]
def aip:=[aT 2 0]
def CG:aN:=(s (r JC) (s (s (r JD) (.cond (.t 6) (s (r aik) .ret) .skip)) (s (s (r JE) (.block 0 (.loop (s (s (r ail) (.cond (.t 10) .skip (.exit 0))) (s (.block 1 (s (.bT ZD aim) (.cond (.t 37) (s (r ain) .ret) .skip))) (r aio)))))) (s (r aip) .ret))))
def NF:List bd:=[.tmp 2]
theorem VX:bD Tryz.prog Tryz.f65 CG:=e (by kernel_rfl)
theorem Yi:bE Tryz.prog Tryz.f65 NF:=e (by kernel_rfl)
theorem TR:bB Tryz.prog 65:=e (by kernel_rfl)
def JF:=[b 1 0,aT 2 0]
def JG:=[f 5 0 0 1,L 6 5 5,o 7 (.call 120 [.t 6]),no 8 7,m 9 8,fn 10 1 5 1 9,eU 11 10 9,on 12 (.call 121 [.t 11,(aj 0),(aj 2)]) 9,on 13 (.un .not (.t 12)) 9,or 14 9 13,m 15 14,fn 16 2 6 1 15,eU 17 16 15,on 18 (.len (.t 17)) 15,on 19 (.bin .gtr (.t 18) (aj 40)) 15,or 20 15 19]
def tg:=[aT 2 13]
def JH:=[f 21 2 6 1,l 22 21,o 23 (.len (.t 22)),aT 24 0]
def JI:=[lt 25 24 23]
def JJ:=[m 26 24,o 27 (.is 7 (.t 22) (.t 24)),L 28 7 27,o 4 (.alloc (.agg [.int .i64 0,.agg [.int .i64 0,.int .i64 0,.int .i64 0,.int .i64 0,.int .i64 0,.int .i64 0]])),m 3 26,p (.bA (some 7) (.t 4) (.t 28))]
def JK:=[f 29 0 0 4,l 30 29,o 31 (.call 122 [.t 30]),no 32 31,m 33 32,fn 34 1 1 4 33,on 35 (.ld (some 6) (.t 34)) 33,on 36 (.call 123 [.t 35]) 33,on 37 (.un .not (.t 36)) 33,or 38 33 37,m 39 38,ew 40 3 39,on 41 (.bin .gtr (.t 40) (aj 0)) 39,ew 42 41 39,cF 43 2 6 1 42,cP 44 43 42,cw 45 3 42,bn 46 (.bin .sub (.t 45) (aj 1)) 42,bn 47 (.is 7 (.t 44) (.t 46)) 42,cF 48 0 0 47 42,cP 49 48 42,cF 50 0 0 4 42,cP 51 50 42,bn 52 (.bin .geq (.t 49) (.t 51)) 42,on 53 (.pick (.t 42) (.t 52) bp) 39,or 54 39 53,m 55 54,on 56 (.ld (some 7) (.t 1)) 55,fn 57 2 6 1 55,eU 58 57 55,ew 59 3 55,on 60 (.sl 7 (.t 58) none (some (.t 59)) none) 55,fn 61 1 1 4 55,on 62 (.ld (some 6) (.t 61)) 55,on 63 (.call 124 [.t 56,.t 60,.t 62]) 55,on 64 (.un .not (.t 63)) 55,or 65 55 64]
def ZE:=some [[],[0],[1],[2],[3,2],[4],[5,4],[6,4,4],[7,4],[4,8],[9,7],[10],[11,10],[12,10,10],[13],[14,13],[13],[16,13],[15,17,13],[18,13],[19,13],[13],[21,13],[20,22,13],[13,23,10],[10,24],[25,13],[26],[26],[28,26],[26],[29,30,26],[26],[32,26],[27,31,33,26,26],[34,26],[26,35]]
def pO:=[aT 2 13]
def xv:=[ad 66 24 1,m 24 66]
def JL:=[aT 2 0]
def CH:aN:=(s (r JF) (s (s (r JG) (.cond (.t 20) (s (r tg) .ret) .skip)) (s (s (r JH) (.block 0 (.loop (s (r JI) (s (.cond (.t 25) .skip (.exit 0)) (s (.block 1 (s (r JJ) (s (.bT ZE JK) (.cond (.t 65) (s (r pO) .ret) .skip)))) (r xv))))))) (s (r JL) .ret))))
def NG:List bd:=[.tmp 2]
theorem VY:bD Tryz.prog Tryz.f66 CH:=e (by kernel_rfl)
theorem Yj:bE Tryz.prog Tryz.f66 NG:=e (by kernel_rfl)
theorem TS:bB Tryz.prog 66:=e (by kernel_rfl)
def aiq:=[aT 6 0]
def air:=[m 10 0,o 11 (.call 64 [.t 10]),m 7 11]
def aiv:=[m 12 7,o 13 (.bin .neq (.t 12) (aj 0))]
def aiw:=[m 14 7,m 6 14]
def aix:=[m 15 1,o 16 (.len (.t 15)),aT 17 0]
def aiy:=[lt 18 17 16]
def aiz:=[o 19 (.is 2 (.t 15) (.t 17)),L 20 2 19,o 9 (.alloc (.agg [.int .i64 0,.int .i64 0])),p (.bA (some 2) (.t 9) (.t 20))]
def aiA:=[o 21 (.ia 2 1 (.t 9) (aj 0)),l 22 21,o 23 (.ia 2 1 (.t 9) (aj 1)),l 24 23,o 25 (.call 114 [.t 22,(aj 1),.t 24]),no 26 25]
def aiB:=[aT 6 1]
def aiC:=[ad 27 17 1,m 17 27]
def ais:=[m 28 2,o 29 (.call 125 [.t 28,(.c (.func 126 []))])]
def ait:=[aT 6 6]
def aiu:=[aT 6 0]
def CI:aN:=(s (r aiq) (s (s (r air) (s (r aiv) (.cond (.t 13) (s (r aiw) .ret) .skip))) (s (s (r aix) (.block 0 (.loop (s (r aiy) (s (.cond (.t 18) .skip (.exit 0)) (s (.block 1 (s (r aiz) (s (r aiA) (.cond (.t 26) (s (r aiB) .ret) .skip)))) (r aiC))))))) (s (s (r ais) (.cond (.t 29) (s (r ait) .ret) .skip)) (s (r aiu) .ret)))))
def NH:List bd:=[.tmp 6]
theorem VZ:bD Tryz.prog Tryz.f67 CI:=e (by kernel_rfl)
theorem Yk:bE Tryz.prog Tryz.f67 NH:=e (by kernel_rfl)
theorem TT:bB Tryz.prog 67:=e (by kernel_rfl)
def aiD:=[o 4 (.mv (.c (.nilp)))]
def aiE:=[m 8 0,m 9 1,o 10 (.call 88 [.t 8,(aj 100000),.t 9]),m 7 10,o 11 (.ext (.t 7) 0),o 12 (.ext (.t 7) 1),m 5 11,m 6 12]
def aiF:=[m 13 5,m 4 13]
def CJ:aN:=(s (r aiD) (s (r aiE) (s (r aiF) .ret)))
def NI:List bd:=[.tmp 4]
theorem V0:bD Tryz.prog Tryz.f68 CJ:=e (by kernel_rfl)
theorem Yl:bE Tryz.prog Tryz.f68 NI:=e (by kernel_rfl)
theorem TU:bB Tryz.prog 68:=e (by kernel_rfl)
def aiG:=[b 2 0,o 4 (.mv (.c (.nils 1)))]
def aiH:=[L 8 7 2,m 9 1,o 10 (.nilC (.t 9)),f 11 0 0 10,f 12 8 8 11,l 13 12,o 14 (.call 128 [.t 8,.t 13]),m 7 14,o 15 (.ext (.t 7) 0),o 16 (.ext (.t 7) 1),m 5 15,m 6 16]
def ZF:=some [[],[],[1],[2],[3],[4],[0,5],[6],[7],[7],[8,6,0,1,2,3,4,5,6,7,8],[9,10,0,1,2,3,4,5,6,7,8,9,10]]
def aiI:=[m 17 5,m 4 17]
def CK:aN:=(s (r aiG) (s (.bT ZF aiH) (s (r aiI) .ret)))
def NJ:List bd:=[.tmp 4]
theorem V1:bD Tryz.prog Tryz.f69 CK:=e (by kernel_rfl)
theorem Ym:bE Tryz.prog Tryz.f69 NJ:=e (by kernel_rfl)
theorem TV:bB Tryz.prog 69:=e (by kernel_rfl)
def JM:=[b 1 0,aT 2 0]
def JN:=[f 6 0 0 1,L 7 5 6,o 8 (.call 99 [.t 7]),o 9 (.bin .neq (.t 8) (aj 0)),m 10 9,fn 11 1 5 1 10,eU 12 11 10,on 13 (.call 94 [.t 12,(aj 0),(aj 2)]) 10,on 14 (.un .not (.t 13)) 10,or 15 10 14,m 16 15,fn 17 2 6 1 16,eU 18 17 16,on 19 (.len (.t 18)) 16,on 20 (.bin .gtr (.t 19) (aj 40)) 16,or 21 16 20]
def th:=[aT 2 13]
def JP:=[aT 3 0]
def JQ:=[m 22 3,f 23 2 6 1,l 24 23,o 25 (.len (.t 24)),lt 26 22 25]
def JR:=[f 29 2 6 1,l 30 29,m 31 3,o 32 (.is 7 (.t 30) (.t 31)),L 33 7 32,o 4 (.alloc (.agg [.int .i64 0,.agg [.int .i64 0,.int .i64 0,.int .i64 0,.int .i64 0,.int .i64 0,.int .i64 0]])),p (.bA (some 7) (.t 4) (.t 33))]
def JS:=[f 34 0 0 4,l 35 34,o 36 (.call 94 [.t 35,(aj 1),(aj 99)]),no 37 36,m 38 37,fn 39 1 1 4 38,on 40 (.ld (some 6) (.t 39)) 38,on 41 (.call 100 [.t 40]) 38,on 42 (.bin .neq (.t 41) (aj 0)) 38,or 43 38 42,m 44 43,ew 45 3 44,on 46 (.bin .gtr (.t 45) (aj 0)) 44,ew 47 46 44,cF 48 2 6 1 47,cP 49 48 47,cw 50 3 47,bn 51 (.bin .sub (.t 50) (aj 1)) 47,bn 52 (.is 7 (.t 49) (.t 51)) 47,cF 53 0 0 52 47,cP 54 53 47,cF 55 0 0 4 47,cP 56 55 47,bn 57 (.bin .geq (.t 54) (.t 56)) 47,on 58 (.pick (.t 47) (.t 57) bp) 44,or 59 44 58]
def ZH:=some [[],[0],[1],[2],[3,2],[4],[5,4],[6,4,4],[7,4],[4,8],[9,7],[10],[11,10],[12,10,10],[13],[14,13],[13],[16,13],[15,17,13],[18,13],[19,13],[13],[21,13],[20,22,13],[13,23,10],[10,24]]
def tj:=[aT 2 13]
def xB:=[aT 5 0]
def xC:=[m 60 5,m 61 3,lt 62 60 61]
def xw:=[f 65 0 0 1,L 66 5 65,f 67 2 6 1,l 68 67,m 69 5,o 70 (.is 7 (.t 68) (.t 69)),f 71 1 1 70,L 72 6 71,f 73 1 1 4,L 74 6 73,o 75 (.call 129 [.t 66,.t 72,.t 74]),f 76 1 5 1,l 77 76,o 78 (.bin .mul (aj 2) (.t 77)),o 79 (.bin .leq (.t 75) (.t 78))]
def ZG:=some [[],[0],[],[2],[],[3,4],[5],[6],[],[8],[1,7,9],[],[11],[12],[10,13]]
def xy:=[aT 2 13]
def xz:=[m 63 5,ad 64 63 1,m 5 64]
def xA:=[m 27 3,ad 28 27 1,m 3 28]
def JO:=[aT 2 0]
def CL:aN:=(s (r JM) (s (s (r JN) (.cond (.t 21) (s (r th) .ret) .skip)) (s (s (r JP) (.block 0 (.loop (s (s (r JQ) (.cond (.t 26) .skip (.exit 0))) (s (.block 1 (s (r JR) (s (s (.bT ZH JS) (.cond (.t 59) (s (r tj) .ret) .skip)) (s (r xB) (.block 2 (.loop (s (s (r xC) (.cond (.t 62) .skip (.exit 2))) (s (.block 3 (s (.bT ZG xw) (.cond (.t 79) (s (r xy) .ret) .skip))) (r xz))))))))) (r xA)))))) (s (r JO) .ret))))
def NK:List bd:=[.tmp 2]
theorem V2:bD Tryz.prog Tryz.f70 CL:=e (by kernel_rfl)
theorem Yn:bE Tryz.prog Tryz.f70 NK:=e (by kernel_rfl)
theorem TW:bB Tryz.prog 70:=e (by kernel_rfl)
def aiJ:=[b 2 0,b 3 1,o 4 (.mv (.c (.nils 1)))]
def aiK:=[L 8 7 2,f 9 8 8 3,l 10 9,o 11 (.call 130 [.t 8,.t 10]),m 7 11,o 12 (.ext (.t 7) 0),o 13 (.ext (.t 7) 1),m 5 12,m 6 13]
def aiL:=[m 14 5,m 4 14]
def CM:aN:=(s (r aiJ) (s (r aiK) (s (r aiL) .ret)))
def NL:List bd:=[.tmp 4]
theorem V3:bD Tryz.prog Tryz.f71 CM:=e (by kernel_rfl)
theorem Yo:bE Tryz.prog Tryz.f71 NL:=e (by kernel_rfl)
theorem TX:bB Tryz.prog 71:=e (by kernel_rfl)
def JT:=[o 4 (.mv (.c (.nils 1)))]
def JU:=[o 5 (.mv (.c (.nils 1)))]
def JV:=[m 8 0,o 9 (.nilC (.t 8)),f 10 0 0 9,l 11 10,o 12 (.kJ (.t 11))]
def xD:=[o 13 (.jO (.t 12)),o 14 (.ext (.t 13) 0)]
def JW:=[o 15 (.ent (.t 12)),o 16 (.ext (.t 15) 0),o 17 (.ext (.t 15) 1),m 6 16,m 7 17]
def JX:=[m 18 1,m 19 7,o 20 (.eH (.t 18) [.t 19])]
def aiM:=[m 21 5,m 22 6,o 23 (.bs 3 1 [.t 22]),o 24 (.cV 3 1 8 (.int .i64 0) (.t 21) (.t 23)),m 5 24]
def aiN:=[m 25 5,o 26 (.call 107 [.t 25])]
def aiO:=[m 27 5,m 4 27]
def CN:aN:=(s (r JT) (s (r JU) (s (s (r JV) (.block 0 (.loop (s (r xD) (s (.cond (.t 14) .skip (.exit 0)) (.block 1 (s (r JW) (s (r JX) (.cond (.t 20) (r aiM) .skip))))))))) (s (r aiN) (s (r aiO) .ret)))))
def NM:List bd:=[.tmp 4]
theorem V4:bD Tryz.prog Tryz.f72 CN:=e (by kernel_rfl)
theorem Yp:bE Tryz.prog Tryz.f72 NM:=e (by kernel_rfl)
theorem TY:bB Tryz.prog 72:=e (by kernel_rfl)
def aiP:=[o 3 (.mv bp)]
def aiQ:=[m 4 0,o 5 (.nilC (.t 4)),f 6 0 0 5,f 7 4 4 6,l 8 7,o 9 (.bin .gtr (.t 8) (aj 0)),m 10 9,bn 11 (.ld (some 7) (.t 1)) 10,cw 12 0 10,bn 13 (.call 69 [.t 11,.t 12]) 10,cw 14 0 10,bn 15 (.nilC (.t 14)) 10,cF 16 0 0 15 10,cF 17 4 4 16 10,cP 18 17 10,bn 19 (.call 74 [.t 13,.t 18]) 10,bn 20 (.un .not (.t 19)) 10,and 21 10 20,m 3 21]
def ZI:=some [[],[0],[1],[2],[3],[4],[5],[6],[6],[7,8,6,6],[6],[10,6],[11,6],[12,6],[13,6],[9,14,9,6],[15,6],[6,16],[17,15,0,1,2,3,4,5,6,7,8,9,10,11,12,13,14,15,16,17]]
def CO:aN:=(s (r aiP) (s (.bT ZI aiQ) .ret))
def NN:List bd:=[.tmp 3]
theorem V5:bD Tryz.prog Tryz.f73 CO:=e (by kernel_rfl)
theorem Yq:bE Tryz.prog Tryz.f73 NN:=e (by kernel_rfl)
theorem TZ:bB Tryz.prog 73:=e (by kernel_rfl)
def aiR:=[o 4 (.mv bp)]
def aiS:=[m 5 0,m 6 1,o 7 (.call 131 [.t 5,.t 6]),o 8 (.bin .geq (.t 7) (aj 0)),m 4 8]
def CP:aN:=(s (r aiR) (s (r aiS) .ret))
def NO:List bd:=[.tmp 4]
theorem V6:bD Tryz.prog Tryz.f74 CP:=e (by kernel_rfl)
theorem Yr:bE Tryz.prog Tryz.f74 NO:=e (by kernel_rfl)
theorem T0:bB Tryz.prog 74:=e (by kernel_rfl)
def JY:=[o 2 (.mv bp)]
def JZ:=[m 3 0,o 4 (.call 94 [.t 3,(aj 0),(aj 100000)]),m 2 4]
def CQ:aN:=(s (r JY) (s (r JZ) .ret))
def NP:List bd:=[.tmp 2]
theorem V7:bD Tryz.prog Tryz.f75 CQ:=e (by kernel_rfl)
theorem Ys:bE Tryz.prog Tryz.f75 NP:=e (by kernel_rfl)
theorem T3:bB Tryz.prog 75:=e (by kernel_rfl)
def aiT:=[o 6 (.alloc (.agg [.nils 9,.nils 1]))]
def aiU:=[m 16 0,m 17 1,o 18 (.call 106 [.t 16,.t 17]),m 7 18]
def ai5:=[o 8 (.mv (.c (.nils 1)))]
def ai8:=[aT 9 0]
def ai9:=[m 19 9,m 20 0,o 21 (.len (.t 20)),lt 22 19 21]
def aja:=[m 25 7,m 26 9,o 27 (.is 1 (.t 25) (.t 26)),l 28 27,no 29 28,m 30 29,ew 31 0 30,ew 32 9 30,on 33 (.is 17 (.t 31) (.t 32)) 30,fn 34 1 2 33 30,eU 35 34 30,on 36 (.bin .eql (.t 35) (aj 0)) 30,or 37 30 36,m 38 37,ew 39 0 38,ew 40 9 38,on 41 (.is 17 (.t 39) (.t 40)) 38,fn 42 2 3 41 38,eU 43 42 38,ew 44 2 38,on 45 (.bin .gtr (.t 43) (.t 44)) 38,or 46 38 45]
def ajb:=[m 47 8,o 48 (.len (.t 47)),m 10 48]
def ajc:=[m 49 10,o 50 (.bin .gtr (.t 49) (aj 0)),m 51 50,cw 52 0 51,cw 53 8 51,cw 54 10 51,bn 55 (.bin .sub (.t 54) (aj 1)) 51,bn 56 (.is 1 (.t 53) (.t 55)) 51,cP 57 56 51,bn 58 (.is 17 (.t 52) (.t 57)) 51,cF 59 2 3 58 51,cP 60 59 51,cw 61 0 51,cw 62 9 51,bn 63 (.is 17 (.t 61) (.t 62)) 51,cF 64 2 3 63 51,cP 65 64 51,bn 66 (.bin .gtr (.t 60) (.t 65)) 51,and 67 51 66]
def ZK:=some [[],[0],[1],[2],[2],[2],[5,2],[4,6,2],[7,2],[3,8,2],[9,2],[10,2],[2],[2],[12,13,2],[14,2],[15,2],[11,16,2],[2,17]]
def ajd:=[m 68 10,o 69 (.bin .sub (.t 68) (aj 1)),m 10 69]
def tk:=[o 70 (.bs0 1),m 71 8,m 72 10,o 73 (.sl 1 (.t 71) none (some (.t 72)) none),o 74 (.cV 3 1 8 (.int .i64 0) (.t 70) (.t 73)),m 75 9,o 76 (.bs 3 1 [.t 75]),o 77 (.cV 3 1 8 (.int .i64 0) (.t 74) (.t 76)),m 78 8,m 79 10,o 80 (.sl 1 (.t 78) (some (.t 79)) none none),o 81 (.cV 3 1 8 (.int .i64 0) (.t 77) (.t 80)),m 8 81]
def DV:=some [[],[],[],[1,2],[0,3],[],[5],[4,6,4],[],[],[8,9],[7,10,7],[11,11,0,1,2,3,4,5,6,7,8,9,10,11]] -- DRAW BAD
def aiV:=[m 23 9,ad 24 23 1,m 9 24]
def aiW:=[o 82 (.bld [.nils 9,.nils 1] []),o 11 (.alloc (.agg [.nils 9,.nils 1])),p (.bA (some 2) (.t 11) (.t 82))]
def aiX:=[o 12 (.mv (.c (.nils 1)))]
def aiY:=[aT 13 0]
def aiZ:=[m 83 13,m 84 8,o 85 (.len (.t 84)),lt 86 83 85]
def ai0:=[f 90 0 0 11,l 91 90,m 92 0,m 93 8,m 94 13,o 95 (.is 1 (.t 93) (.t 94)),l 96 95,o 97 (.is 17 (.t 92) (.t 96)),L 98 17 97,o 99 (.call 132 [.t 91,.t 98]),m 89 99,o 100 (.ext (.t 89) 0),o 101 (.ext (.t 89) 1),m 14 100,m 15 101]
def ZJ:=some [[],[0],[],[],[],[3,4],[5],[2,6],[7],[1,8],[9],[10],[10],[11,9,0,1,2,3,4,5,6,7,8,9,10,11],[12,13,0,1,2,3,4,5,6,7,8,9,10,11,12,13]]
def ai1:=[m 102 14,f 103 0 0 11,p (.bA none (.t 103) (.t 102))]
def ai2:=[m 104 15,no 105 104]
def ai3:=[m 106 12,m 107 8,m 108 13,o 109 (.is 1 (.t 107) (.t 108)),l 110 109,o 111 (.bs 3 1 [.t 110]),o 112 (.cV 3 1 8 (.int .i64 0) (.t 106) (.t 111)),m 12 112]
def ai4:=[m 87 13,ad 88 87 1,m 13 88]
def ai6:=[m 113 12,o 114 (.call 97 [.t 113]),f 115 1 1 11,p (.bA none (.t 115) (.t 114))]
def ai7:=[L 116 2 11,p (.bA (some 2) (.t 6) (.t 116))]
def CR:aN:=(s (r aiT) (s (r aiU) (s (r ai5) (s (s (r ai8) (.block 0 (.loop (s (s (r ai9) (.cond (.t 22) .skip (.exit 0))) (s (.block 1 (s (s (r aja) (.cond (.t 46) (.exit 1) .skip)) (s (r ajb) (s (.block 2 (.loop (s (s (.bT ZK ajc) (.cond (.t 67) .skip (.exit 2))) (.block 3 (r ajd))))) (.bT DV tk))))) (r aiV)))))) (s (r aiW) (s (r aiX) (s (s (r aiY) (.block 4 (.loop (s (s (r aiZ) (.cond (.t 86) .skip (.exit 4))) (s (.block 5 (s (.bT ZJ ai0) (s (r ai1) (s (r ai2) (.cond (.t 105) (r ai3) .skip))))) (r ai4)))))) (s (r ai6) (s (r ai7) .ret)))))))))
def NQ:List bd:=[.cell 6 (some 2)]
theorem V8:bD Tryz.prog Tryz.f76 CR:=e (by kernel_rfl)
theorem Yt:bE Tryz.prog Tryz.f76 NQ:=e (by kernel_rfl)
theorem T4:bB Tryz.prog 76:=e (by kernel_rfl)
def aje:=[b 3 0,o 6 (.mv bp)]
def ajf:=[m 8 1,o 9 (.ptrE false (.t 8) (.c (.nilp))),m 10 9,ew 11 2 10,on 12 (.ptrE false (.t 11) (.c (.nilp))) 10,or 13 10 12]
def ajg:=[m 14 1,m 15 2,o 16 (.ptrE false (.t 14) (.t 15)),m 6 16]
def ajh:=[o 7 (.mv (.c (.func 133 [])))]
def aji:=[m 17 7,m 18 1,o 19 (.eH (.t 17) [.t 18]),m 20 7,m 21 2,o 22 (.eH (.t 20) [.t 21]),o 23 (.eqv (.kq 8 (.i .i64)) false (.t 19) (.t 22)),m 24 23,bn 25 (.ld (some 7) (.t 3)) 24,cw 26 1 24,bn 27 (.call 69 [.t 25,.t 26]) 24,bn 28 (.ld (some 7) (.t 3)) 24,cw 29 2 24,bn 30 (.call 69 [.t 28,.t 29]) 24,bn 31 (.call 134 [.t 27,.t 30]) 24,and 32 24 31,m 6 32]
def ZL:=some [[],[],[0,1],[],[],[3,4,2],[2,5],[6,5],[7],[7],[8,9,7,7],[7],[7],[11,12,10,7],[10,13,13,7],[7,14],[15,14,0,1,2,3,4,5,6,7,8,9,10,11,12,13,14,15]]
def sL:aN:=(s (r aje) (s (s (r ajf) (.cond (.t 13) (s (r ajg) .ret) .skip)) (s (r ajh) (s (.bT ZL aji) .ret))))
def uw:List bd:=[.tmp 6]
theorem vO:bD Tryz.prog Tryz.f77 sL:=e (by kernel_rfl)
theorem vX:bE Tryz.prog Tryz.f77 uw:=e (by kernel_rfl)
theorem vL:bB Tryz.prog 77:=e (by kernel_rfl)
def J0:=[o 4 (.mv (.c (.nils 17)))]
def J1:=[m 5 0,o 6 (.call 136 [.t 5]),m 7 1,m 8 1,ad 9 8 1,o 10 (.call 135 [.t 6,.t 7,.t 9]),m 4 10]
def CS:aN:=(s (r J0) (s (r J1) .ret))
def NR:List bd:=[.tmp 4]
theorem V9:bD Tryz.prog Tryz.f78 CS:=e (by kernel_rfl)
theorem Yu:bE Tryz.prog Tryz.f78 NR:=e (by kernel_rfl)
theorem T5:bB Tryz.prog 78:=e (by kernel_rfl)
def ajj:=[b 4 0,b 5 1,b 6 2,o 8 (.mv bp)]
def ajk:=[f 15 0 0 5,l 16 15,m 17 3,o 18 (.call 93 [.t 16,.t 17]),m 9 18]
def ajl:=[f 19 0 0 6,l 20 19,m 21 3,o 22 (.call 93 [.t 20,.t 21]),m 10 22]
def ajm:=[m 23 9,o 24 (.bin .lss (.t 23) (aj 0)),m 25 24,ew 26 10 25,on 27 (.bin .lss (.t 26) (aj 0)) 25,or 28 25 27]
def ajn:=[m 29 9,o 30 (.bin .lss (.t 29) (aj 0)),m 31 30,cw 32 10 31,bn 33 (.bin .lss (.t 32) (aj 0)) 31,and 34 31 33,m 8 34]
def ajo:=[f 35 0 0 5,l 36 35,m 37 9,o 38 (.is 9 (.t 36) (.t 37)),L 39 9 38,o 11 (.alloc (.agg [.int .i64 0,.int .i64 0,.int .i64 0,.int .i64 0,.int .i64 0,.int .i64 0,.int .i64 0,.bool false,.nils 6])),p (.bA (some 9) (.t 11) (.t 39))]
def ajp:=[f 40 0 0 6,l 41 40,m 42 10,o 43 (.is 9 (.t 41) (.t 42)),L 44 9 43,o 12 (.alloc (.agg [.int .i64 0,.int .i64 0,.int .i64 0,.int .i64 0,.int .i64 0,.int .i64 0,.int .i64 0,.bool false,.nils 6])),p (.bA (some 9) (.t 12) (.t 44))]
def ajq:=[f 45 1 1 11,l 46 45,f 47 1 1 12,l 48 47,o 49 (.bin .eql (.t 46) (.t 48)),m 50 49,cF 51 2 2 11 50,cP 52 51 50,cF 53 2 2 12 50,cP 54 53 50,bn 55 (.bin .eql (.t 52) (.t 54)) 50,and 56 50 55,m 57 56,cF 58 3 3 11 57,cP 59 58 57,cF 60 3 3 12 57,cP 61 60 57,bn 62 (.bin .eql (.t 59) (.t 61)) 57,and 63 57 62,m 64 63,cF 65 4 4 11 64,cP 66 65 64,cF 67 4 4 12 64,cP 68 67 64,bn 69 (.bin .eql (.t 66) (.t 68)) 64,and 70 64 69,m 13 70]
def ajr:=[f 71 5 5 11,l 72 71,f 73 5 5 12,l 74 73,o 75 (.bin .eql (.t 72) (.t 74)),m 76 75,cF 77 6 6 11 76,cP 78 77 76,cF 79 6 6 12 76,cP 80 79 76,bn 81 (.bin .eql (.t 78) (.t 80)) 76,and 82 76 81,m 83 82,cF 84 7 7 11 83,cP 85 84 83,cF 86 7 7 12 83,cP 87 86 83,bn 88 (.eqv .b false (.t 85) (.t 87)) 83,and 89 83 88,m 14 89]
def ajs:=[m 90 13,m 91 90,cw 92 14 91,and 93 91 92,m 94 93,bn 95 (.ld (some 7) (.t 4)) 94,bn 96 (.ld (some 9) (.t 11)) 94,bn 97 (.call 71 [.t 95,.t 96]) 94,bn 98 (.ld (some 7) (.t 4)) 94,bn 99 (.ld (some 9) (.t 12)) 94,bn 100 (.call 71 [.t 98,.t 99]) 94,bn 101 (.call 20 [.t 97,.t 100]) 94,and 102 94 101,m 8 102]
def ZM:=some [[],[0],[1],[1,2],[3,1],[4],[4],[5,6,4,4],[4],[4],[8,9,7,4],[7,10,10,4],[4,11],[12,11,0,1,2,3,4,5,6,7,8,9,10,11,12]]
def CT:aN:=(s (r ajj) (s (r ajk) (s (r ajl) (s (s (r ajm) (.cond (.t 28) (s (r ajn) .ret) .skip)) (s (r ajo) (s (r ajp) (s (r ajq) (s (r ajr) (s (.bT ZM ajs) .ret)))))))))
def NS:List bd:=[.tmp 8]
theorem Wa:bD Tryz.prog Tryz.f79 CT:=e (by kernel_rfl)
theorem Yv:bE Tryz.prog Tryz.f79 NS:=e (by kernel_rfl)
theorem T6:bB Tryz.prog 79:=e (by kernel_rfl)
def ajt:=[o 4 (.mv (.c (.nils 17)))]
def aju:=[o 5 (.mv (.c (.nils 17)))]
def ajv:=[aT 6 0]
def ajw:=[m 7 6,m 8 0,o 9 (.len (.t 8)),lt 10 7 9]
def ajx:=[m 13 6,m 14 1,o 15 (.bin .neq (.t 13) (.t 14))]
def ajy:=[m 16 5,m 17 0,m 18 6,o 19 (.is 17 (.t 17) (.t 18)),L 20 17 19,o 21 (.bs 68 17 [.t 20]),o 22 (.cV 68 17 136 (.agg [.agg [.int .i64 0,.int .i64 0],.int .i64 0,.int .i64 0,.int .i64 0,.int .i64 0,.int .i64 0,.int .i64 0,.int .i64 0,.agg [.int .i64 0,.int .i64 0,.int .i64 0,.int .i64 0,.int .i64 0,.int .i64 0],.agg [.int .i64 0,.int .i64 0]]) (.t 16) (.t 21)),m 5 22]
def ajz:=[m 11 6,ad 12 11 1,m 6 12]
def ajA:=[m 23 5,m 4 23]
def CU:aN:=(s (r ajt) (s (r aju) (s (s (r ajv) (.block 0 (.loop (s (s (r ajw) (.cond (.t 10) .skip (.exit 0))) (s (.block 1 (s (r ajx) (.cond (.t 15) (r ajy) .skip))) (r ajz)))))) (s (r ajA) .ret))))
def NT:List bd:=[.tmp 4]
theorem Wb:bD Tryz.prog Tryz.f80 CU:=e (by kernel_rfl)
theorem Yw:bE Tryz.prog Tryz.f80 NT:=e (by kernel_rfl)
theorem T7:bB Tryz.prog 80:=e (by kernel_rfl)
def J2:=[o 0 (.mv (.c (.nils 17)))]
def J3:=[o 1 (.bld [.agg [.int .i64 0,.int .i64 0],.int .i64 0,.int .i64 0,.int .i64 0,.int .i64 0,.int .i64 0,.int .i64 0,.int .i64 0,.agg [.int .i64 0,.int .i64 0,.int .i64 0,.int .i64 0,.int .i64 0,.int .i64 0],.agg [.int .i64 0,.int .i64 0]] [(1,(aj 1)),(2,(aj 1)),(3,(aj 1)),(4,(aj 10)),(6,(aj 3)),(7,(aj 2))]),o 2 (.bld [.int .i64 0,.int .i64 0] [(1,(aj 1))]),o 3 (.bld [.agg [.int .i64 0,.int .i64 0],.int .i64 0,.int .i64 0,.int .i64 0,.int .i64 0,.int .i64 0,.int .i64 0,.int .i64 0,.agg [.int .i64 0,.int .i64 0,.int .i64 0,.int .i64 0,.int .i64 0,.int .i64 0],.agg [.int .i64 0,.int .i64 0]] [(0,(.t 2)),(1,(aj 1)),(2,(aj 5)),(3,(aj 5)),(4,(aj 11)),(6,(aj 3)),(7,(aj 2)),(5,(aj 10))]),o 4 (.bld [.int .i64 0,.int .i64 0] [(1,(aj 2))]),o 5 (.bld [.agg [.int .i64 0,.int .i64 0],.int .i64 0,.int .i64 0,.int .i64 0,.int .i64 0,.int .i64 0,.int .i64 0,.int .i64 0,.agg [.int .i64 0,.int .i64 0,.int .i64 0,.int .i64 0,.int .i64 0,.int .i64 0],.agg [.int .i64 0,.int .i64 0]] [(0,(.t 4)),(1,(aj 2)),(2,(aj 6)),(3,(aj 6)),(4,(aj 20)),(6,(aj 3))]),o 6 (.bld [.int .i64 0,.int .i64 0] [(1,(aj 3))]),o 7 (.bld [.int .i64 0,.int .i64 0,.int .i64 0,.int .i64 0,.int .i64 0,.int .i64 0] [(0,(aj 31)),(1,(aj 1)),(2,(aj 1)),(3,(aj 1)),(4,(aj 1)),(5,(aj 31))]),o 8 (.bld [.agg [.int .i64 0,.int .i64 0],.int .i64 0,.int .i64 0,.int .i64 0,.int .i64 0,.int .i64 0,.int .i64 0,.int .i64 0,.agg [.int .i64 0,.int .i64 0,.int .i64 0,.int .i64 0,.int .i64 0,.int .i64 0],.agg [.int .i64 0,.int .i64 0]] [(0,(.t 6)),(1,(aj 4)),(2,(aj 6)),(3,(aj 6)),(4,(aj 20)),(8,(.t 7))]),o 9 (.bld [.int .i64 0,.int .i64 0] [(1,(aj 4))]),o 10 (.bld [.agg [.int .i64 0,.int .i64 0],.int .i64 0,.int .i64 0,.int .i64 0,.int .i64 0,.int .i64 0,.int .i64 0,.int .i64 0,.agg [.int .i64 0,.int .i64 0,.int .i64 0,.int .i64 0,.int .i64 0,.int .i64 0],.agg [.int .i64 0,.int .i64 0]] [(0,(.t 9)),(1,(aj 3)),(2,(aj 7)),(3,(aj 7)),(4,(aj 10)),(7,(aj 1))]),o 11 (.bld [.int .i64 0,.int .i64 0] [(1,(aj 5))]),o 12 (.bld [.int .i64 0,.int .i64 0,.int .i64 0,.int .i64 0,.int .i64 0,.int .i64 0] [(0,(aj 24)),(1,(aj 1)),(2,(aj 1)),(3,(aj 1)),(4,(aj 1)),(5,(aj 31))]),o 13 (.bld [.agg [.int .i64 0,.int .i64 0],.int .i64 0,.int .i64 0,.int .i64 0,.int .i64 0,.int .i64 0,.int .i64 0,.int .i64 0,.agg [.int .i64 0,.int .i64 0,.int .i64 0,.int .i64 0,.int .i64 0,.int .i64 0],.agg [.int .i64 0,.int .i64 0]] [(0,(.t 11)),(1,(aj 4)),(2,(aj 6)),(3,(aj 9)),(4,(aj 20)),(8,(.t 12))]),o 14 (.bld [.int .i64 0,.int .i64 0] [(1,(aj 6))]),o 15 (.bld [.agg [.int .i64 0,.int .i64 0],.int .i64 0,.int .i64 0,.int .i64 0,.int .i64 0,.int .i64 0,.int .i64 0,.int .i64 0,.agg [.int .i64 0,.int .i64 0,.int .i64 0,.int .i64 0,.int .i64 0,.int .i64 0],.agg [.int .i64 0,.int .i64 0]] [(0,(.t 14)),(1,(aj 5)),(2,(aj 10)),(3,(aj 10)),(4,(aj 20)),(7,(aj 3))]),o 16 (.bld [.int .i64 0,.int .i64 0] [(1,(aj 7))]),o 17 (.bld [.int .i64 0,.int .i64 0,.int .i64 0,.int .i64 0,.int .i64 0,.int .i64 0] [(0,(aj 1)),(1,(aj 1)),(2,(aj 1)),(3,(aj 1)),(4,(aj 1)),(5,(aj 1))]),o 18 (.bld [.agg [.int .i64 0,.int .i64 0],.int .i64 0,.int .i64 0,.int .i64 0,.int .i64 0,.int .i64 0,.int .i64 0,.int .i64 0,.agg [.int .i64 0,.int .i64 0,.int .i64 0,.int .i64 0,.int .i64 0,.int .i64 0],.agg [.int .i64 0,.int .i64 0]] [(0,(.t 16)),(1,(aj 4)),(2,(aj 8)),(3,(aj 11)),(4,(aj 11)),(8,(.t 17))]),o 19 (.bld [.int .i64 0,.int .i64 0] [(1,(aj 8))]),o 20 (.bld [.agg [.int .i64 0,.int .i64 0],.int .i64 0,.int .i64 0,.int .i64 0,.int .i64 0,.int .i64 0,.int .i64 0,.int .i64 0,.agg [.int .i64 0,.int .i64 0,.int .i64 0,.int .i64 0,.int .i64 0,.int .i64 0],.agg [.int .i64 0,.int .i64 0]] [(0,(.t 19)),(1,(aj 6)),(2,(aj 12)),(3,(aj 12)),(4,(aj 10))]),o 21 (.bld [.int .i64 0,.int .i64 0] [(1,(aj 9))]),o 22 (.bld [.int .i64 0,.int .i64 0] [(1,(aj 5))]),o 23 (.bld [.agg [.int .i64 0,.int .i64 0],.int .i64 0,.int .i64 0,.int .i64 0,.int .i64 0,.int .i64 0,.int .i64 0,.int .i64 0,.agg [.int .i64 0,.int .i64 0,.int .i64 0,.int .i64 0,.int .i64 0,.int .i64 0],.agg [.int .i64 0,.int .i64 0]] [(0,(.t 21)),(1,(aj 0)),(3,(aj 14)),(9,(.t 22))]),o 24 (.bs 68 17 [.t 1,.t 3,.t 5,.t 8,.t 10,.t 13,.t 15,.t 18,.t 20,.t 23]),m 0 24]
def CV:aN:=(s (r J2) (s (r J3) .ret))
def NU:List bd:=[.tmp 0]
theorem Wc:bD Tryz.prog Tryz.f81 CV:=e (by kernel_rfl)
theorem Yx:bE Tryz.prog Tryz.f81 NU:=e (by kernel_rfl)
theorem T8:bB Tryz.prog 81:=e (by kernel_rfl)
def J4:=[o 0 (.alloc (.agg [.agg [.int .i64 0,.int .i64 0,.int .i64 0,.int .i64 0,.int .i64 0],.int .i64 0,.nils 7]))]
def J5:=[o 1 (.bld [.int .i64 0,.int .i64 0,.int .i64 0,.int .i64 0,.int .i64 0] [(0,(aj 1)),(1,(aj 3)),(2,(aj 4)),(3,(aj 24)),(4,(aj 24))]),o 2 (.bld [.int .i64 0,.agg [.int .i64 0,.int .i64 0,.int .i64 0,.int .i64 0,.int .i64 0,.int .i64 0]] [(0,(aj 1))]),o 3 (.bld [.int .i64 0,.int .i64 0,.int .i64 0,.int .i64 0,.int .i64 0,.int .i64 0] [(0,(aj 2)),(1,(aj 0)),(2,(aj 0)),(3,(aj 0)),(4,(aj 0)),(5,(aj 0))]),o 4 (.bld [.int .i64 0,.agg [.int .i64 0,.int .i64 0,.int .i64 0,.int .i64 0,.int .i64 0,.int .i64 0]] [(0,(aj 2)),(1,(.t 3))]),o 5 (.bld [.int .i64 0,.int .i64 0,.int .i64 0,.int .i64 0,.int .i64 0,.int .i64 0] [(0,(aj 3)),(1,(aj 0)),(2,(aj 0)),(3,(aj 0)),(4,(aj 0)),(5,(aj 2))]),o 6 (.bld [.int .i64 0,.agg [.int .i64 0,.int .i64 0,.int .i64 0,.int .i64 0,.int .i64 0,.int .i64 0]] [(0,(aj 3)),(1,(.t 5))]),o 7 (.bs 63 7 [.t 2,.t 4,.t 6]),o 8 (.bld [.agg [.int .i64 0,.int .i64 0,.int .i64 0,.int .i64 0,.int .i64 0],.int .i64 0,.nils 7] [(0,(.t 1)),(2,(.t 7))]),p (.bA (some 7) (.t 0) (.t 8))]
def CW:aN:=(s (r J4) (s (r J5) .ret))
def NV:List bd:=[.cell 0 (some 7)]
theorem Wd:bD Tryz.prog Tryz.f82 CW:=e (by kernel_rfl)
theorem Yy:bE Tryz.prog Tryz.f82 NV:=e (by kernel_rfl)
theorem T9:bB Tryz.prog 82:=e (by kernel_rfl)
def ajB:=[b 1 0,o 2 (.alloc (.agg [.agg [.int .i64 0,.int .i64 0],.int .i64 0,.int .i64 0,.int .i64 0,.int .i64 0,.int .i64 0,.int .i64 0,.int .i64 0,.agg [.int .i64 0,.int .i64 0,.int .i64 0,.int .i64 0,.int .i64 0,.int .i64 0],.agg [.int .i64 0,.int .i64 0]]))]
def ajC:=[f 4 0 0 1,L 5 2 4,f 6 1 2 1,l 7 6,f 8 2 3 1,l 9 8,f 10 3 4 1,l 11 10,o 12 (.bld [.agg [.int .i64 0,.int .i64 0],.int .i64 0,.int .i64 0,.int .i64 0,.int .i64 0,.int .i64 0,.int .i64 0,.int .i64 0,.agg [.int .i64 0,.int .i64 0,.int .i64 0,.int .i64 0,.int .i64 0,.int .i64 0],.agg [.int .i64 0,.int .i64 0]] [(0,(.t 5)),(1,(.t 7)),(2,(.t 9)),(3,(.t 11))]),o 3 (.alloc (.agg [.agg [.int .i64 0,.int .i64 0],.int .i64 0,.int .i64 0,.int .i64 0,.int .i64 0,.int .i64 0,.int .i64 0,.int .i64 0,.agg [.int .i64 0,.int .i64 0,.int .i64 0,.int .i64 0,.int .i64 0,.int .i64 0],.agg [.int .i64 0,.int .i64 0]])),p (.bA (some 17) (.t 3) (.t 12))]
def ajM:=[f 13 1 2 1,l 14 13,o 15 (.bin .eql (.t 14) (aj 0))]
def ajN:=[f 16 9 15 1,L 17 2 16,f 18 9 15 3,p (.bA (some 2) (.t 18) (.t 17))]
def ajO:=[L 19 17 3,p (.bA (some 17) (.t 2) (.t 19))]
def ajP:=[f 20 4 5 1,l 21 20,f 22 4 5 3,p (.bA none (.t 22) (.t 21))]
def ajQ:=[f 23 1 2 1,l 24 23]
def ajR:=[o 26 (.bin .eql (.t 24) (aj 1)),m 25 26]
def ajS:=[f 27 6 7 1,l 28 27,f 29 6 7 3,p (.bA none (.t 29) (.t 28))]
def ajT:=[f 30 7 8 1,l 31 30,f 32 7 8 3,p (.bA none (.t 32) (.t 31))]
def ajD:=[f 33 5 6 1,l 34 33,f 35 5 6 3,p (.bA none (.t 35) (.t 34))]
def ajE:=[o 37 (.bin .eql (.t 24) (aj 2)),m 36 37]
def ajF:=[f 38 6 7 1,l 39 38,f 40 6 7 3,p (.bA none (.t 40) (.t 39))]
def ajG:=[o 42 (.bin .eql (.t 24) (aj 3)),m 41 42]
def ajH:=[o 43 (.bin .eql (.t 24) (aj 5)),m 41 43]
def ajI:=[f 44 7 8 1,l 45 44,f 46 7 8 3,p (.bA none (.t 46) (.t 45))]
def ajJ:=[o 48 (.bin .eql (.t 24) (aj 4)),m 47 48]
def ajK:=[f 49 8 9 1,L 50 6 49,f 51 8 9 3,p (.bA (some 6) (.t 51) (.t 50))]
def ajL:=[L 52 17 3,p (.bA (some 17) (.t 2) (.t 52))]
def CX:aN:=(s (r ajB) (s (r ajC) (s (s (r ajM) (.cond (.t 15) (s (r ajN) (s (r ajO) .ret)) .skip)) (s (r ajP) (s (s (r ajQ) (.block 0 (s (r ajR) (.cond (.t 25) (s (r ajS) (s (r ajT) (r ajD))) (s (r ajE) (.cond (.t 36) (r ajF) (s (s (r ajG) (.cond (.t 41) .skip (r ajH))) (.cond (.t 41) (r ajI) (s (r ajJ) (.cond (.t 47) (r ajK) .skip)))))))))) (s (r ajL) .ret))))))
def NW:List bd:=[.cell 2 (some 17)]
theorem We:bD Tryz.prog Tryz.f84 CX:=e (by kernel_rfl)
theorem Yz:bE Tryz.prog Tryz.f84 NW:=e (by kernel_rfl)
theorem Ua:bB Tryz.prog 84:=e (by kernel_rfl)
def J6:=[b 3 0,b 4 1,o 6 (.mv (.c (.nilp))),o 7 (.mv (.c (.nils 1)))]
def J7:=[o 8 (.alloc (.nils 1)),o 9 (.mv (.c (.nils 1)))]
def Kc:=[l 15 3,m 16 2,o 17 (.call 105 [.t 15,.t 16])]
def ajU:=[m 10 18]
def ajV:=[l 19 3,m 20 10,o 21 (.is 17 (.t 19) (.t 20)),f 22 1 2 21,l 23 22,o 24 (.bin .neq (.t 23) (aj 0)),m 25 24,cP 26 3 25,cw 27 10 25,bn 28 (.is 17 (.t 26) (.t 27)) 25,cF 29 2 3 28 25,cP 30 29 25,cP 31 4 25,bn 32 (.bin .leq (.t 30) (.t 31)) 25,and 33 25 32]
def ZN:=some [[],[],[0,1],[2],[3],[4],[5],[6],[6],[7,8,6],[9,6],[10,6],[6],[11,12,6],[6,13]]
def ajW:=[l 34 8,m 35 10,o 36 (.bs 3 1 [.t 35]),o 37 (.cV 3 1 8 (.int .i64 0) (.t 34) (.t 36)),p (.bA none (.t 8) (.t 37))]
def xF:=[l 38 8,o 39 (.mk 138 [.t 3]),o 40 (.call 137 [.t 38,.t 39])]
def xG:=[o 41 (.kb),o 42 (.bld [.raw (.map none)] [(0,(.t 41))]),b 43 42,m 11 43]
def xH:=[o 44 (.call 139 []),m 12 44]
def xI:=[l 45 8,o 46 (.len (.t 45)),aT 47 0]
def tl:=[lt 48 47 46]
def xE:=[o 49 (.is 1 (.t 45) (.t 47)),l 50 49,m 14 50]
def tm:=[m 51 12,l 52 3,m 53 14,o 54 (.is 17 (.t 52) (.t 53)),f 55 1 2 54,l 56 55,o 57 (.lk (.i .i64) (.dv) false (.t 51) (.t 56)),m 58 11,l 59 3,m 60 14,o 61 (.is 17 (.t 59) (.t 60)),L 62 17 61,o 63 (.eH (.t 57) [.t 58,.t 62]),no 64 63]
def DW:=some [[],[],[],[1,2],[3],[4],[0,5],[],[],[],[8,9],[10],[6,7,11],[12]]
def J8:=[m 65 9,m 66 14,o 67 (.bs 3 1 [.t 66]),o 68 (.cV 3 1 8 (.int .i64 0) (.t 65) (.t 67)),m 9 68]
def J9:=[ad 69 47 1,m 47 69]
def Ka:=[m 70 9,o 71 (.call 107 [.t 70])]
def Kb:=[m 72 11,m 73 9,m 6 72,m 7 73]
def CY:aN:=(s (r J6) (s (r J7) (s (s (r Kc) (.block 0 (.lq (.t 17) [18] (r ajU) (.block 1 (s (.bT ZN ajV) (.cond (.t 33) (r ajW) .skip)))))) (s (r xF) (s (r xG) (s (r xH) (s (s (r xI) (.block 2 (.loop (s (r tl) (s (.cond (.t 48) .skip (.exit 2)) (s (.block 3 (s (r xE) (s (.bT DW tm) (.cond (.t 64) (r J8) .skip)))) (r J9))))))) (s (r Ka) (s (r Kb) .ret)))))))))
def NX:List bd:=[.tmp 6,.tmp 7]
theorem Wf:bD Tryz.prog Tryz.f88 CY:=e (by kernel_rfl)
theorem YA:bE Tryz.prog Tryz.f88 NX:=e (by kernel_rfl)
theorem Ub:bB Tryz.prog 88:=e (by kernel_rfl)
def ajX:=[o 2 (.mv bp)]
def ajY:=[m 3 0,o 4 (.call 90 [.t 3]),no 5 4,m 2 5]
def CZ:aN:=(s (r ajX) (s (r ajY) .ret))
def NY:List bd:=[.tmp 2]
theorem Wg:bD Tryz.prog Tryz.f89 CZ:=e (by kernel_rfl)
theorem YB:bE Tryz.prog Tryz.f89 NY:=e (by kernel_rfl)
theorem Uc:bB Tryz.prog 89:=e (by kernel_rfl)
def ajZ:=[o 2 (.mv bp)]
def aj0:=[m 3 0,o 4 (.nilC (.t 3)),f 5 0 0 4,f 6 6 6 5,l 7 6,o 8 (.bin .geq (.t 7) (aj 0)),m 2 8]
def C1:aN:=(s (r ajZ) (s (r aj0) .ret))
def N0:List bd:=[.tmp 2]
theorem Wi:bD Tryz.prog Tryz.f90 C1:=e (by kernel_rfl)
theorem YD:bE Tryz.prog Tryz.f90 N0:=e (by kernel_rfl)
theorem Ue:bB Tryz.prog 90:=e (by kernel_rfl)
def aj1:=[o 4 (.mv bp)]
def aj2:=[m 5 0,o 6 (.call 90 [.t 5]),no 7 6,m 8 7,cw 9 0 8,bn 10 (.nilC (.t 9)) 8,cF 11 0 0 10 8,cF 12 3 3 11 8,cP 13 12 8,cP 14 1 8,bn 15 (.bin .eql (.t 13) (.t 14)) 8,and 16 8 15,m 17 16,cw 18 0 17,bn 19 (.nilC (.t 18)) 17,cF 20 0 0 19 17,cF 21 1 1 20 17,cP 22 21 17,cP 23 2 17,bn 24 (.bin .eql (.t 22) (.t 23)) 17,and 25 17 24,m 4 25]
def ZO:=some [[],[0],[1],[2,1],[3],[4,3],[5,3],[6,3],[7,3],[3],[8,9,3],[3,10],[11,3],[12],[13,12],[14,12],[15,12],[16,12],[12],[17,18,12],[12,19],[20,12,0,1,2,3,4,5,6,7,8,9,10,11,12,13,14,15,16,17,18,19,20]]
def C2:aN:=(s (r aj1) (s (.bT ZO aj2) .ret))
def N1:List bd:=[.tmp 4]
theorem Wj:bD Tryz.prog Tryz.f91 C2:=e (by kernel_rfl)
theorem YE:bE Tryz.prog Tryz.f91 N1:=e (by kernel_rfl)
theorem Uf:bB Tryz.prog 91:=e (by kernel_rfl)
def aj3:=[aT 6 0]
def aj4:=[m 7 0,o 8 (.call 65 [.t 7]),o 9 (.bin .neq (.t 8) (aj 0))]
def aj5:=[aT 6 41]
def aj6:=[m 10 1,o 11 (.call 94 [.t 10,(aj 1),(aj 9999)]),no 12 11]
def aj7:=[aT 6 1]
def aj8:=[m 13 2,o 14 (.call 75 [.t 13]),no 15 14]
def aj9:=[aT 6 6]
def aka:=[aT 6 0]
def C3:aN:=(s (r aj3) (s (s (r aj4) (.cond (.t 9) (s (r aj5) .ret) .skip)) (s (s (r aj6) (.cond (.t 12) (s (r aj7) .ret) .skip)) (s (s (r aj8) (.cond (.t 15) (s (r aj9) .ret) .skip)) (s (r aka) .ret)))))
def N2:List bd:=[.tmp 6]
theorem Wk:bD Tryz.prog Tryz.f92 C3:=e (by kernel_rfl)
theorem YF:bE Tryz.prog Tryz.f92 N2:=e (by kernel_rfl)
theorem Ug:bB Tryz.prog 92:=e (by kernel_rfl)
def akb:=[aT 4 0]
def akc:=[aT 5 0]
def akd:=[m 6 5,m 7 0,o 8 (.len (.t 7)),lt 9 6 8]
def ake:=[m 12 0,m 13 5,o 14 (.is 9 (.t 12) (.t 13)),f 15 0 0 14,l 16 15,m 17 1,o 18 (.bin .eql (.t 16) (.t 17))]
def akf:=[m 19 5,m 4 19]
def akg:=[m 10 5,ad 11 10 1,m 5 11]
def akh:=[aT 4 (-1)]
def C4:aN:=(s (r akb) (s (s (r akc) (.block 0 (.loop (s (s (r akd) (.cond (.t 9) .skip (.exit 0))) (s (.block 1 (s (r ake) (.cond (.t 18) (s (r akf) .ret) .skip))) (r akg)))))) (s (r akh) .ret)))
def N3:List bd:=[.tmp 4]
theorem Wl:bD Tryz.prog Tryz.f93 C4:=e (by kernel_rfl)
theorem YG:bE Tryz.prog Tryz.f93 N3:=e (by kernel_rfl)
theorem Uh:bB Tryz.prog 93:=e (by kernel_rfl)
def Kd:=[o 6 (.mv bp)]
def Ke:=[m 7 1,m 8 0,o 9 (.bin .leq (.t 7) (.t 8)),m 10 9,cw 11 0 10,cw 12 2 10,bn 13 (.bin .leq (.t 11) (.t 12)) 10,and 14 10 13,m 6 14]
def C5:aN:=(s (r Kd) (s (r Ke) .ret))
def N4:List bd:=[.tmp 6]
theorem Wm:bD Tryz.prog Tryz.f94 C5:=e (by kernel_rfl)
theorem YH:bE Tryz.prog Tryz.f94 N4:=e (by kernel_rfl)
theorem Ui:bB Tryz.prog 94:=e (by kernel_rfl)
def aki:=[o 2 (.mv (.c (.nils 1)))]
def akj:=[o 3 (.mv (.c (.nils 1)))]
def akk:=[aT 4 0]
def akl:=[m 5 4,m 6 0,o 7 (.len (.t 6)),lt 8 5 7]
def akm:=[m 11 3,m 12 0,m 13 4,o 14 (.is 1 (.t 12) (.t 13)),l 15 14,o 16 (.call 140 [.t 11,.t 15]),m 3 16]
def akn:=[m 9 4,ad 10 9 1,m 4 10]
def ako:=[m 17 3,m 2 17]
def C6:aN:=(s (r aki) (s (r akj) (s (s (r akk) (.block 0 (.loop (s (s (r akl) (.cond (.t 8) .skip (.exit 0))) (s (.block 1 (r akm)) (r akn)))))) (s (r ako) .ret))))
def N5:List bd:=[.tmp 2]
theorem Wn:bD Tryz.prog Tryz.f97 C6:=e (by kernel_rfl)
theorem YI:bE Tryz.prog Tryz.f97 N5:=e (by kernel_rfl)
theorem Uj:bB Tryz.prog 97:=e (by kernel_rfl)
def Kf:=[b 1 0,aT 2 0]
def Kg:=[aT 3 0]
def Kh:=[m 4 3,o 5 (.bin .lss (.t 4) (aj 5))]
def Ki:=[m 8 3,o 9 (.ia 5 1 (.t 1) (.t 8)),l 10 9,o 11 (.call 94 [.t 10,(aj 0),(aj 31)]),no 12 11,m 13 12,ew 14 3 13,on 15 (.ia 5 1 (.t 1) (.t 14)) 13,eU 16 15 13,ew 17 3 13,on 18 (.bin .shl (aj 1) (.t 17)) 13,on 19 (.bin .and (.t 16) (.t 18)) 13,on 20 (.bin .eql (.t 19) (aj 0)) 13,or 21 13 20]
def ZP:=some [[],[0],[1],[2],[3],[4,3],[5],[6,5],[7,5],[5],[9,5],[8,10,5],[11,5],[5,12]]
def xJ:=[aT 2 11]
def Kj:=[m 6 3,ad 7 6 1,m 3 7]
def Kk:=[aT 2 0]
def C7:aN:=(s (r Kf) (s (s (r Kg) (.block 0 (.loop (s (s (r Kh) (.cond (.t 5) .skip (.exit 0))) (s (.block 1 (s (.bT ZP Ki) (.cond (.t 21) (s (r xJ) .ret) .skip))) (r Kj)))))) (s (r Kk) .ret)))
def N6:List bd:=[.tmp 2]
theorem Wo:bD Tryz.prog Tryz.f99 C7:=e (by kernel_rfl)
theorem YJ:bE Tryz.prog Tryz.f99 N6:=e (by kernel_rfl)
theorem Uk:bB Tryz.prog 99:=e (by kernel_rfl)
def ES:=[b 1 0,aT 2 0]
def ET:=[aT 3 0]
def EU:=[m 4 3,o 5 (.bin .lss (.t 4) (aj 6))]
def EV:=[m 8 3,o 9 (.ia 6 1 (.t 1) (.t 8)),l 10 9,o 11 (.call 94 [.t 10,(aj 0),(aj 4)]),no 12 11]
def EW:=[aT 2 10]
def EX:=[m 6 3,ad 7 6 1,m 3 7]
def EY:=[aT 2 0]
def A6:aN:=(s (r ES) (s (s (r ET) (.block 0 (.loop (s (s (r EU) (.cond (.t 5) .skip (.exit 0))) (s (.block 1 (s (r EV) (.cond (.t 12) (s (r EW) .ret) .skip))) (r EX)))))) (s (r EY) .ret)))
def L2:List bd:=[.tmp 2]
theorem Up:bD Tryz.prog Tryz.f100 A6:=e (by kernel_rfl)
theorem WI:bE Tryz.prog Tryz.f100 L2:=e (by kernel_rfl)
theorem Sj:bB Tryz.prog 100:=e (by kernel_rfl)
def EZ:=[b 1 0,aT 2 0]
def E0:=[aT 3 0]
def E4:=[m 4 3,o 5 (.bin .lss (.t 4) (aj 6))]
def E5:=[m 8 3,o 9 (.ia 6 1 (.t 1) (.t 8)),l 10 9,o 11 (.call 94 [.t 10,(aj 1),(aj 31)]),no 12 11]
def E6:=[aT 2 12]
def E7:=[m 6 3,ad 7 6 1,m 3 7]
def E8:=[aT 2 0]
def A7:aN:=(s (r EZ) (s (s (r E0) (.block 0 (.loop (s (s (r E4) (.cond (.t 5) .skip (.exit 0))) (s (.block 1 (s (r E5) (.cond (.t 12) (s (r E6) .ret) .skip))) (r E7)))))) (s (r E8) .ret)))
def L3:List bd:=[.tmp 2]
theorem Uq:bD Tryz.prog Tryz.f101 A7:=e (by kernel_rfl)
theorem WJ:bE Tryz.prog Tryz.f101 L3:=e (by kernel_rfl)
theorem Sk:bB Tryz.prog 101:=e (by kernel_rfl)
def E9:=[b 3 0,b 4 1,b 5 2,aT 6 0]
def Fa:=[aT 7 0]
def Fb:=[aT 8 0]
def Fc:=[m 9 8,o 10 (.bin .lss (.t 9) (aj 6))]
def Fe:=[m 13 8,o 14 (.ia 6 1 (.t 4) (.t 13)),l 15 14,o 16 (.ia 5 1 (.t 3) (.t 15)),l 17 16,m 18 8,o 19 (.ia 6 1 (.t 5) (.t 18)),l 20 19,o 21 (.bin .and (.t 17) (.t 20)),o 22 (.bin .eql (.t 21) (aj 0))]
def YL:=some [[],[0],[1],[2],[3],[],[5],[6],[4,7],[8]]
def Ff:=[m 23 7,ad 24 23 1,m 7 24]
def wI:=[m 11 8,ad 12 11 1,m 8 12]
def Fg:=[m 25 7,m 6 25]
def A8:aN:=(s (r E9) (s (r Fa) (s (s (r Fb) (.block 0 (.loop (s (s (r Fc) (.cond (.t 10) .skip (.exit 0))) (s (.block 1 (s (.bT YL Fe) (.cond (.t 22) (r Ff) .skip))) (r wI)))))) (s (r Fg) .ret))))
def L4:List bd:=[.tmp 6]
theorem Ur:bD Tryz.prog Tryz.f102 A8:=e (by kernel_rfl)
theorem WK:bE Tryz.prog Tryz.f102 L4:=e (by kernel_rfl)
theorem Sl:bB Tryz.prog 102:=e (by kernel_rfl)
def aa2:=[b 3 1,aT 4 0,o 5 (.mv bp)]
def aa3:=[m 6 0,L 7 2 3,o 8 (.call 142 [.t 6,.t 7,(.c (.func 143 []))]),o 9 (.ext (.t 8) 0),o 10 (.ext (.t 8) 1),m 4 9,m 5 10]
def A9:aN:=(s (r aa2) (s (r aa3) .ret))
def L5:List bd:=[.tmp 4,.tmp 5]
theorem Us:bD Tryz.prog Tryz.f103 A9:=e (by kernel_rfl)
theorem WL:bE Tryz.prog Tryz.f103 L5:=e (by kernel_rfl)
theorem Sm:bB Tryz.prog 103:=e (by kernel_rfl)
def Fh:=[b 2 0,b 3 1,o 4 (.mv (.c (.dv)))]
def Fi:=[o 9 (.kb),o 5 (.alloc (.raw (.map none))),p (.bA none (.t 5) (.t 9))]
def Fj:=[l 10 2,o 11 (.len (.t 10)),o 12 (.kc 4 1 (.bool false) (.t 11)),o 6 (.alloc (.nils 1)),p (.bA none (.t 6) (.t 12))]
def Fk:=[l 13 2,o 14 (.call 145 [.t 13])]
def aa4:=[m 7 15]
def aa5:=[o 8 (.alloc (.agg [.agg [.int .i64 0,.int .i64 0],.int .i64 0,.int .i64 0,.int .i64 0,.int .i64 0,.int .i64 0,.int .i64 0,.int .i64 0,.agg [.int .i64 0,.int .i64 0,.int .i64 0,.int .i64 0,.int .i64 0,.int .i64 0],.agg [.int .i64 0,.int .i64 0]])),p (.bA (some 17) (.t 8) (.t 16))]
def aa6:=[l 17 6,m 18 7,f 19 3 4 8,l 20 19,l 21 3,o 22 (.bin .leq (.t 20) (.t 21)),m 23 22,cP 24 5 23,cF 25 0 0 8 23,bn 26 (.ld (some 2) (.t 25)) 23,bn 27 (.lk (.bA [(.i .i64),(.i .i64)]) (.bool false) false (.t 24) (.t 26)) 23,bn 28 (.un .not (.t 27)) 23,and 29 23 28,o 30 (.is 1 (.t 17) (.t 18)),p (.bA none (.t 30) (.t 29))]
def YM:=some [[],[],[],[2],[],[3,4],[5],[6],[6],[8,6],[7,9,6],[10,6],[6,11],[0,1,0,1,2,3,4,5,6,7,8,9,10,11,12],[13,12,6,0,1,2,3,4,5,6,7,8,9,10,11,12]]
def aa7:=[l 31 6,m 32 7,o 33 (.is 1 (.t 31) (.t 32)),l 34 33,m 35 34,cF 36 1 2 8 35,cP 37 36 35,bn 38 (.bin .eql (.t 37) (aj 0)) 35,and 39 35 38]
def aa8:=[l 40 5,f 41 9 15 8,L 42 2 41,p (.hU (.bA [(.i .i64),(.i .i64)]) (.t 40) (.t 42) T)]
def aa9:=[o 43 (.mk 146 [.t 2,.t 6]),m 4 43]
def Ba:aN:=(s (r Fh) (s (r Fi) (s (r Fj) (s (s (r Fk) (.block 0 (.lq (.t 14) [15,16] (s (r aa4) (r aa5)) (.block 1 (s (.bT YM aa6) (s (r aa7) (.cond (.t 39) (r aa8) .skip))))))) (s (r aa9) .ret)))))
def L6:List bd:=[.tmp 4]
theorem Ut:bD Tryz.prog Tryz.f105 Ba:=e (by kernel_rfl)
theorem WM:bE Tryz.prog Tryz.f105 L6:=e (by kernel_rfl)
theorem Sn:bB Tryz.prog 105:=e (by kernel_rfl)
def Fl:=[o 4 (.mv (.c (.nils 1)))]
def Fm:=[m 8 0,o 9 (.len (.t 8)),o 10 (.kc 4 1 (.bool false) (.t 9)),m 5 10]
def Fo:=[m 11 0,o 12 (.len (.t 11)),o 13 (.bin .sub (.t 12) (aj 1)),m 6 13]
def abc:=[m 14 6,o 15 (.bin .geq (.t 14) (aj 0))]
def abd:=[m 18 5,m 19 6,m 20 0,m 21 6,o 22 (.is 17 (.t 20) (.t 21)),f 23 3 4 22,l 24 23,m 25 1,o 26 (.bin .leq (.t 24) (.t 25)),o 27 (.is 1 (.t 18) (.t 19)),p (.bA none (.t 27) (.t 26))]
def abe:=[m 28 6,ad 29 28 1,m 7 29]
def abf:=[m 30 7,m 31 0,o 32 (.len (.t 31)),lt 33 30 32]
def abg:=[m 36 5,m 37 7,o 38 (.is 1 (.t 36) (.t 37)),l 39 38,m 40 39,cw 41 0 40,cw 42 7 40,bn 43 (.is 17 (.t 41) (.t 42)) 40,cF 44 1 2 43 40,cP 45 44 40,bn 46 (.bin .eql (.t 45) (aj 0)) 40,and 47 40 46,m 48 47,cw 49 0 48,cw 50 7 48,bn 51 (.is 17 (.t 49) (.t 50)) 48,cF 52 9 15 51 48,bn 53 (.ld (some 2) (.t 52)) 48,cw 54 0 48,cw 55 6 48,bn 56 (.is 17 (.t 54) (.t 55)) 48,cF 57 0 0 56 48,bn 58 (.ld (some 2) (.t 57)) 48,bn 59 (.eqv (.bA [(.i .i64),(.i .i64)]) false (.t 53) (.t 58)) 48,and 60 48 59]
def YN:=some [[],[],[0,1],[2],[3],[4],[4],[5,6,4],[7,4],[8,4],[9,4],[4,10],[11,4],[12],[12],[13,14,12],[15,12],[16,12],[12],[12],[18,19,12],[20,12],[21,12],[17,22,12],[12,23]]
def abh:=[m 61 5,m 62 6,o 63 (.is 1 (.t 61) (.t 62)),p (.bA none (.t 63) bp)]
def abi:=[m 34 7,ad 35 34 1,m 7 35]
def aba:=[m 16 6,o 17 (.bin .sub (.t 16) (aj 1)),m 6 17]
def abb:=[m 64 5,m 4 64]
def Bb:aN:=(s (r Fl) (s (r Fm) (s (s (r Fo) (.block 0 (.loop (s (s (r abc) (.cond (.t 15) .skip (.exit 0))) (s (.block 1 (s (r abd) (s (r abe) (.block 2 (.loop (s (s (r abf) (.cond (.t 33) .skip (.exit 2))) (s (.block 3 (s (.bT YN abg) (.cond (.t 60) (r abh) .skip))) (r abi)))))))) (r aba)))))) (s (r abb) .ret))))
def L7:List bd:=[.tmp 4]
theorem Uu:bD Tryz.prog Tryz.f106 Bb:=e (by kernel_rfl)
theorem WN:bE Tryz.prog Tryz.f106 L7:=e (by kernel_rfl)
theorem Sp:bB Tryz.prog 106:=e (by kernel_rfl)
theorem C8:bB Tryz.prog 107:=e (by kernel_rfl)
end Go.Proofs.YtcldiigclhgafaaGreat
namespace Go.Abs
open Go Go.RowKit
def pG(on:List (List Nat)):List Nat:=on.foldl (fun acc ks=>acc++[oo acc ks]) []
def wa(d:Option (List (List Nat)))(gs:List aG):Bool:=match d with
 |none=>true
 |some on=>sQ on gs (pG on)
section
variable {c:cT} {Q:Exit→ae→Prop} {A:ae} {d:Option (List (List Nat))} {on:List (List Nat)} {gs:List aG}
theorem J.bK(hd:wa d gs=true)(h:∀ K:ae→Prop,(∀ B,Q .normal B→K B)→br c.P c.Y d.isSome K (aC gs A)):J c (.bT d gs) Q A:=by
 cases d with
 |none=>exact J.bT (cl:=[]) rfl h
 |some on=>exact J.bT (cl:=pG on) hd h
theorem J.aq{y:aN}(hd:wa d gs=true)(h:∀ K:ae→Prop,(∀ B,J c y Q B→K B)→br c.P c.Y d.isSome K (aC gs A)):J c (.seq (.bT d gs) y) Q A :=
 J.seq (J.bK hd h)
theorem J.qm(hs:List FuncId)(L:eG)(σ:List Nat)(hd:uk hs L on gs (pG on) σ=true)(hi:eA L A)(h:∀ K:ae→Prop,(∀ B,Q .normal B→K B)→cj c.P hs K (aC (lj σ gs) A)):J c (.bT (some on) gs) Q A :=
 J.aov hs L (pG on) σ hd hi h
theorem J.aou(hs:List FuncId)(L:eG)(σ:List Nat)(hd:um hs L on gs (pG on) σ=true)(hi:eA L A)(h:∀ K:ae→Prop,(∀ B,Q .normal B→K B)→cj c.P hs K (aC (lj σ gs) A)):J c (.bT (some on) gs) Q A :=
 J.aow hs L (pG on) σ hd hi h
def gS(c:cT):aN→(Exit→ae→Prop)→ae→Prop
 | .seq x y,Q,A=>gS c x (au (fun B=>J c y Q B) Q) A
 | .block id x,Q,A=>gS c x (bS id Q) A
 | .skip,Q,A=>Q .normal A
 | .exit id,Q,A=>Q (.exit id) A
 | .ret,Q,A=>Q .ret A
 | .cond b x y,Q,A=>ai (ab A b) (J c x Q A) (J c y Q A)
 |x,Q,A=>J c x Q A
def alI:aN→Bool
 | .seq _ _ | .block _ _ | .skip | .exit _ | .ret | .cond _ _ _=>true
 |_=>false
theorem gS.vx:∀ (x:aN) {Q:Exit→ae→Prop} {A:ae},gS c x Q A→J c x Q A
 | .seq x y,_,_,h=>J.seq (gS.vx x h)
 | .block id x,_,_,h=>J.block (gS.vx x h)
 | .skip,_,_,h=>J.skip h
 | .exit _,_,_,h=>J.exit h
 | .ret,_,_,h=>J.ret h
 | .cond _ _ _,_,_,h=>J.bP h
 | .bT _ _,_,_,h | .loop _,_,_,h | .scope _,_,_,h | .label,_,_,h | .iN,_,_,h | .lq _ _ _ _,_,_,h=>h
theorem J.of{x:aN}(_:alI x=true)(h:gS c x Q A):J c x Q A:=gS.vx x h
theorem aF :
  (∀ c x y Q A,gS c (.seq x y) Q A=gS c x (au (fun B=>J c y Q B) Q) A)∧(∀ c id x Q A,gS c (.block id x) Q A=gS c x (bS id Q) A)∧(∀ c Q A,gS c .skip Q A=Q .normal A)∧(∀ c id Q A,gS c (.exit id) Q A=Q (.exit id) A)∧(∀ c Q A,gS c .ret Q A=Q .ret A) ∧
  (∀ c b x y Q A,gS c (.cond b x y) Q A=ai (ab A b) (J c x Q A) (J c y Q A))∧(∀ c d gs Q A,gS c (.bT d gs) Q A=J c (.bT d gs) Q A)∧(∀ c x Q A,gS c (.loop x) Q A=J c (.loop x) Q A)∧(∀ c f ps x y Q A,gS c (.lq f ps x y) Q A=J c (.lq f ps x y) Q A) ∧
  (∀ k Q A,au k Q .normal A=k A)∧(∀ k Q A,au k Q .ret A=Q .ret A)∧(∀ k Q A i,au k Q (.exit i) A=Q (.exit i) A)∧(∀ i Q A,bS i Q .normal A=Q .normal A)∧(∀ i Q A,bS i Q .ret A=Q .ret A)∧(∀ i Q A j,bS i Q (.exit j) A=if j=i then Q .normal A else Q (.exit j) A) ∧
  (∀ p q,ai (.bool true) p q=p)∧(∀ p q,ai (.bool false) p q=q)∧(type_of% @yd) :=
 ⟨fun _ _ _ _ _=>rfl,fun _ _ _ _ _=>rfl,fun _ _ _=>rfl,fun _ _ _ _=>rfl,fun _ _ _=>rfl,fun _ _ _ _ _ _=>rfl,fun _ _ _ _ _=>rfl,fun _ _ _ _=>rfl,fun _ _ _ _ _ _ _=>rfl,fun _ _ _=>rfl,fun _ _ _=>rfl,fun _ _ _ _=>rfl,fun _ _ _=>rfl,fun _ _ _=>rfl,fun _ _ _ _=>rfl,
  fun p q=>by simp[ai],fun p q=>by simp[ai],yd⟩
theorem ai.aB{t:Bool}{p q:Prop}(h1:t=true→p)(h2:t=false→q):ai (.bool t) p q:=⟨h1,h2⟩
theorem J.aE{g:aG}{r:List aG}(hd:wa d gs=true)(e:gs=g::r)(h:∀ K:ae→Prop,(∀ B,Q .normal B→K B)→br c.P c.Y d.isSome K (aC (g::r) A)):J c (.bT d gs) Q A :=
 J.bK hd (e▸h)
theorem br.ay(L:List Nat){P:Program}{Y:Value→List I→List (Nat×ah)→cR→Prop}{dr:Bool}{x:aN}{K:ae→Prop}{ts:List (Nat×I)}{os:List (Nat×ah)}(hK:∀ B,J c x Q B→K B)(h:J c x Q (ar (ir L ts) os)):br P Y dr K (.done (ar ts os)) :=
 .done (hK _ (J.gf L h))
theorem cj.ay(L:List Nat){P:Program}{hs:List FuncId}{x:aN}{K:ae→Prop}{ts:List (Nat×I)}{os:List (Nat×ah)}(hK:∀ B,J c x Q B→K B)(h:J c x Q (ar (ir L ts) os)):cj P hs K (.done (ar ts os)) :=
 .done (hK _ (J.gf L h))
end
end Go.Abs
