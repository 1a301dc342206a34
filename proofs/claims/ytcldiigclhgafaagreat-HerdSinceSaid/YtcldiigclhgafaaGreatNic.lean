/-
  A part of the proof that the law HerdSince returns true for every input; conditions: none beyond the statement's own. (part 3 of 7)
-/
import Derived.RangeFuncIn
import Derived.Laws.Externs
import Derived.ProofKit
import Derived.SizedLaws
import Derived.Test.YtcldiigclhgafaaGreatChecked
import Derived.KernelRfl
import Derived.Test.YtcldiigclhgafaaGreatNib
set_option linter.unusedSimpArgs false
set_option linter.unusedVariables false
set_option maxHeartbeats 16000000
set_option maxRecDepth 100000
namespace Go.Abs
open Go Go.RowKit
open Enc (enc)
mutual
theorem jH{p q:Nat→Bool}(h:∀ n,p n=true→q n=true):∀ x:I,x.only p=true→x.only q=true
 | .agg fs,hx | .tuple fs,hx=>by simp only[I.only] at *;exact jl h fs hx
 | .slice _ es,hx=>by simp only[I.only] at *;exact jl h es hx
 | .ref x,hx=>by simp only[I.only] at *;exact jH h x hx
 | .func _ caps,hx=>by simp only[I.only] at *;exact jl h caps hx
 | .iface _ v,hx=>by simp only[I.only] at *;exact jH h v hx
 | .ptr _ _,hx | .own _ _,hx | .view _ _ _ _ _,hx | .mref _,hx | .dI _,hx=>by simp only[I.only] at *;exact h _ hx
 | .c7 ks vs,hx=>by simp only[I.only,zz3] at *;exact ⟨jl h ks hx.1,jl h vs hx.2⟩
 | .bool _,_ | .int _ _,_ | .db _,_ | .nilp,_ | .dz,_ | .eg,_ | .raw _,_ | .nils _,_ | .c0 _,_ | .undef,_ | .dx,_=>by simp[I.only]
theorem jl{p q:Nat→Bool}(h:∀ n,p n=true→q n=true):∀ xs:List I,I.bV p xs=true→I.bV q xs=true
 | [],_=>rfl
 |x::xs,hx=>by
  simp only[I.bV,zz3] at *;exact ⟨jH h x hx.1,jl h xs hx.2⟩
end
theorem ah.jH{p q:Nat→Bool}(h:∀ n,p n=true→q n=true)(x:ah)(hx:x.only p=true):x.only q=true:=by
 cases x with
 |box y=>simp only[ah.only] at *;exact Abs.jH h y hx
 |b9 T sz es=>simp only[ah.only] at *;exact jl h es hx
 |dZ o=>rfl
 |c4 T xs=>rfl
 |cE ks vs=>simp only[ah.only,zz3] at *;exact ⟨jl h ks hx.1,jl h vs hx.2⟩
 |it ks vs left cur=>simp only[ah.only,zz3] at *;exact ⟨jl h ks hx.1,jl h vs hx.2⟩
theorem Mb{x:I}(h:x.bJ=true):x.cq=true:=by
 cases x <;>first | rfl | simp[I.bJ] at h
theorem wc{aC:Bool}{A0:af}{ρ:List (Nat×Nat)}{os:List (Nat×ah)} : ∀ xs:List I,I.cg xs=true→jV aC A0 ρ os xs xs
 | [],_=>trivial
 |x::xs,h=>by
  simp only[I.cg,zz3] at h;exact ⟨.inl ⟨(sD _ x h.1).symm,nC _ x h.1,Mb h.1⟩,wc xs h.2⟩
structure fJ (os os':List (Nat×ah)):Prop where
 same:∀ m,aq os' m=aq os m
 ok:∀ m x,ao os' m=some x→x.only (aq os')=true∧x.eZ=true
 ph:∀ m,aq os m=true→1000000≤m
def vV(P:Program)(g:FuncId)(caps:List I)(N:Nat)(item:Nat→List I):Prop :=
 ∀ (Y:Value→List I→List (Nat×ah)→cO→Prop) (v:Value) (aj:Nat→List (Nat×ah)→Prop) (Ix:List (Nat×ah)→Prop) (os:List (Nat×ah)),v.oneCell'=true →
  (∀ k os' post,k<N→aj k os'→(∀ r os2,(r=.bool true∧aj (k+1) os2)∨(r=.bool false∧Ix os2)→post r os2)→Y v (item k) os' post) →
  (∀ k os',aj k os'→fJ os os')→(∀ os',Ix os'→fJ os os')→aj 0 os→lx P g Y (.raw v::caps) os (fun r os'=>r=.tuple []∧(aj N os'∨Ix os'))
def dw(o:Obj)(os:List (Nat×ah)):List (Nat×ah):=(1999999,.dZ o)::os
theorem mB(o:Obj)(os:List (Nat×ah))(m:Nat):aq (dw o os) m=(decide (m=1999999)||aq os m):=by
 simp only[dw,aq,ao];by_cases h:m=1999999 <;>simp[h]
theorem qH(o:Obj)(os:List (Nat×ah))(m:Nat):ao (dw o os) m=if m=1999999 then some (.dZ o) else ao os m:=rfl
theorem fJ.dw{os os':List (Nat×ah)}(h:fJ os os')(o o':Obj):fJ (dw o os) (dw o' os'):=by
 refine ⟨fun m=>by rw[mB,mB,h.same],fun m x hx =>?_,fun m hm =>?_⟩
 ·rw[qH] at hx;split at hx
  ·cases hx;exact ⟨rfl,rfl⟩
  ·obtain ⟨h1,h2⟩:=h.ok m x hx;exact ⟨x.jH (fun n hn=>by rw[mB,hn];simp) h1,h2⟩
 ·rw[mB] at hm;simp only[Bool.or_eq_true,decide_eq_true_eq] at hm;rcases hm with rfl | hm
  ·decide
  ·exact h.ph m hm
def qX:List Nat→List I→List (Nat×I)→List (Nat×I)
 |p::ps,v::vs,ts=>qX ps vs ((p,v)::ts)
 |_,_,ts=>ts
def mU(ρ:List (Nat×Nat))(p:Nat→Bool)(ts:List (Nat×I)):List (Nat×I)→Prop
 | []=>True
 |(k,v)::r=>cm ts k=v.aN (bD ρ)∧v.only p=true∧mU ρ p ts r
theorem Qx{ρ:List (Nat×Nat)}{p:Nat→Bool}{ts:List (Nat×I)} : ∀ {tsR:List (Nat×I)},mU ρ p ts tsR→∀ k,cm tsR k=.dx∨(cm ts k=(cm tsR k).aN (bD ρ)∧(cm tsR k).only p=true)
 | [],_,k=>.inl rfl
 |(j,v)::r,h,k=>by
  simp only[mU] at h;simp only[cm];split
  ·rename_i hk;subst hk;exact .inr ⟨h.1,h.2.1⟩
  ·exact Qx h.2.2 k
section
variable {c:c6} {a:Act} {w:World} {D:aW} {E:a8}
theorem a6.Ap{A:af}(h:a6 c A a w D E){n b:Nat}{o o':Obj}(hn:A.o n=some (.dZ o))(az:E n=some (.op b))(ho:qD o'=true):a6 c (A.aU n (.dZ o')) a (w.putObj b o') D E:=by
 have hob:=h.bQ n;rw[hn] at hob;obtain ⟨b',k1,k2,k3,k4,k5⟩:=hob;rw[az] at k1;cases k1;have hnc:o.isCells=false:=by cases o <;>first | rfl | cases k4
 have hlt:b<w.heap.size:=gH k3;have hl:ec w D E (w.putObj b o') D E:=⟨fun _ _ h=>h,fun b1 o1 v _ hv=>wK k3 hnc hv,fun _ _ _ h=>h,fun _ aG l h=>⟨aG,l,h,zz7 _,fun _=>rfl⟩,fun _ _ h=>h,fun _ _ h=>h,fun b1 es ck hd hm=>(World.putObj_heap_other (fun e1=>k5 0 (by rw[←e1];exact hd))).trans hm⟩
 refine ⟨h.sz,h.fj.mono fun B _ hB=>(World.putObj_heap_other (fun e=>by rw[e,k3] at hB;cases hB;cases k4)).trans hB,fun t=>a7.bO hl (h.eH t),h.eh.trans ⟨rfl,rfl,rfl,by simp,fun k hk=>World.putObj_heap_other (fun e=>hk (e▸k2))⟩,h.dh,
  fun b1 o1 hd=>by have:=h.dy b1 o1 hd;simpa using this,fun m =>?_,h.da,h.en,h.fx,h.cV,h.fD,h.lU hl⟩
 simp only[af.aU];by_cases hm:m=n
 ·subst hm;simp only[if_true,df];exact ⟨b,az,k2,World.putObj_heap_same hlt,ho,k5⟩
 ·simp only[if_neg hm];exact (h.bQ m).bO hl rfl fun e b1 he hb=>⟨World.putObj_heap_other (fun e1=>hm (h.da m n e _ b1 he az hb (by rw[e1];rfl))),fun _ ho=>ho⟩
theorem a6.abx{A:af}(h:a6 c A a w D E){n b:Nat}(az:E n=some (.op b)):a6 c ⟨A.t,fun m=>if m=n then none else A.o m⟩ a w D (fun m=>if m=n then none else E m):=by
 have hne:∀ {m:Nat} {e:bZ},E m=some e→(∀ b,e≠.op b)→m≠n:=fun he h2 e'=>by
  subst e';rw[az] at he;cases he;exact h2 _ rfl
 have hl:ec w D E w D (fun m=>if m=n then none else E m):=by
  refine ⟨fun _ _ h=>h,fun _ _ _ _ h=>h,fun m b aV he =>?_,fun m aG l he=>⟨aG,l,?_,zz7 _,fun _=>rfl⟩,fun m b he =>?_,fun m b he =>?_,fun _ _ _ _ h=>h⟩
  ·simp only[if_neg (hne he (fun b=>by simp))];exact he
  ·simp only[if_neg (hne he (fun b=>by simp))];exact he
  ·simp only[if_neg (hne he (fun b=>by simp))];exact he
  ·simp only[if_neg (hne he (fun b=>by simp))];exact he
 refine ⟨h.sz,h.fj,fun t=>a7.bO hl (h.eH t),h.eh,h.dh,h.dy,fun m =>?_,fun m m' e e' b h1 h2 h3 h4 =>?_,fun m e hm =>?_,h.fx,h.cV,h.fD,h.gl⟩
 ·by_cases hm:m=n
  ·simp only[hm,if_true,df]
  ·simp only[if_neg hm];exact (h.bQ m).bO hl (by simp only[if_neg hm]) fun _ _ _ _=>⟨rfl,fun _ ho=>ho⟩
 ·split at h1
  ·cases h1
  ·split at h2
   ·cases h2
   ·exact h.da m m' e e' b h1 h2 h3 h4
 ·by_cases hmn:m=n
  ·left;simp only[hmn,if_true]
  ·simp only[if_neg hmn];exact h.en m e hm
theorem a6.enter{ts:List (Nat×I)}{os0:List (Nat×ah)}(h:a6 c (aw ts os0) a w D E)(hfree:ao os0 999999=none)(hE0:c.dV 999999=none){o:Obj}(ho:qD o=true) :
  ∃ E1,a6 c (aw ts ((999999,.dZ o)::os0)) { a with defers := { target:=.collected w.heap.size,args := #[] } :: a.defers } ((w.alloc (.deferred (some []))).alloc o) D E1∧E1 999999=some (.op (w.heap.size+1))∧∀ xs vs,aK w D E xs vs→aK ((w.alloc (.deferred (some []))).alloc o) D E1 xs vs:=by
 have hb:Below w.heap.size w ((w.alloc (.deferred (some []))).alloc o):=((Below.refl _ w).alloc (zz7 _) _).alloc (by simp) _;have h1:=h.grow (D':=D) hb (fun _ _ h=>h) (fun _ _ h _=>h) (fun b o' hd=>by have:=h.dy b o' hd;simp;omega);obtain ⟨W,hW⟩:∃ W,W=(w.alloc (.deferred (some []))).alloc o:=⟨_,rfl⟩
 have hL:W.heap[w.heap.size+1]?=some o:=by
  rw[hW];have:=World.alloc_heap_new (w.alloc (.deferred (some []))) o;rwa [World.size_alloc] at this
 have hK:W.heap[w.heap.size]?=some (.deferred (some [])):=by
  rw[hW];exact (Below.heap_alloc _ _ _ (by simp)).trans (World.alloc_heap_new w _)
 rw[←hW] at h1 hb ⊢;have hEn:E 999999=none:=by have:=h.bQ 999999;simp only[aw,hfree] at this;exact this
 have hl:ec W D E W D (fun m=>if m=999999 then some (.op (w.heap.size+1)) else E m):=by
  refine ⟨fun _ _ h=>h,fun _ _ _ _ h=>h,fun m b aV he =>?_,fun m aG l he=>⟨aG,l,?_,zz7 _,fun _=>rfl⟩,fun m b he =>?_,fun m b he =>?_,fun _ _ _ _ h=>h⟩
  all_goals
   have:m≠999999:=fun e=>by rw[e,hEn] at he;cases he
   simp only[if_neg this];exact he
 have hsz:c.fC.heap.size≤w.heap.size:=h.eh.size;have nb:∀ {m:Nat} {e:bZ} {b:Nat},E m=some e→e.aG=some b→b<w.heap.size:=fun he hb'=>h.gF he hb';refine ⟨fun m=>if m=999999 then some (.op (w.heap.size+1)) else E m,⟨h1.sz,?_,fun t=>a7.bO hl (h1.eH t),h1.eh,h1.dh,h1.dy,fun m =>?_,fun m m' e e' b g1 g2 g3 g4 =>?_,fun m e hm =>?_,h1.fx,h1.cV,h1.fD,h1.gl⟩,by simp,fun xs vs hx=>aK.bO hl xs vs (aK.bO (ec.grow hb fun _ _ h=>h) xs vs hx)⟩
 ·obtain ⟨Bs,k1,k2,k3⟩:=h1.fj;refine ⟨w.heap.size::Bs,by simp only[zy2];rw[←k1],List.nodup_cons.2 ⟨fun hin =>?_,k2⟩,fun B hB =>?_⟩
  ·obtain ⟨Bs',j1,_,j3⟩:=h.fj;have e1:Bs=Bs':=by
    have:Bs.map (fun B=>({ target:=.collected B,args := #[] } : Deferred))=Bs'.map (fun B => { target:=.collected B,args := #[] }):=by rw[←k1,←j1]
    exact (List.map_inj_right (fun x y hxy=>by simpa using hxy)).1 this
   rw[e1] at hin;have:=gH (j3 _ hin).2;omega
  ·rcases zx2.1 hB with rfl | hB
   ·exact ⟨hsz,hK⟩
   ·exact k3 B hB
 ·simp only[aw,ao];by_cases hm:m=999999
  ·subst hm;simp only[if_true,df];exact ⟨_,rfl,.inl (by omega),hL,ho,fun o' hd=>by have:=h.dy _ o' hd;omega⟩
  ·simp only[if_neg hm];exact (h1.bQ m).bO hl (by simp only[if_neg hm]) fun _ _ _ _=>⟨rfl,fun _ ho=>ho⟩
 ·by_cases hm:m=999999 <;>by_cases hm':m'=999999
  ·rw[hm,hm']
  ·simp only[if_pos hm,u8] at g1;simp only[if_neg hm'] at g2;subst g1;simp only[bZ.aG,u8] at g3;have:=nb g2 g4;omega
  ·simp only[if_neg hm] at g1;simp only[if_pos hm',u8] at g2;subst g2;simp only[bZ.aG,u8] at g4;have:=nb g1 g3;omega
  ·simp only[if_neg hm] at g1;simp only[if_neg hm'] at g2;exact h.da m m' e e' b g1 g2 g3 g4
 ·have hmn:m≠999999:=fun e=>by rw[e,hE0] at hm;cases hm
  simp only[if_neg hmn];exact h.en m e hm
theorem df.ny{M M':Nat→Prop}{n:Nat}{x:Option ah}(h:df M w D E n x)(hM:∀ e b,E n=some e→e.aG=some b→M' b):df M' w D E n x:=by
 unfold df at *;split
 ·exact h
 ·obtain ⟨b,cs,T,h1,_,h3⟩:=h;exact ⟨b,cs,T,h1,hM _ b h1 rfl,h3⟩
 ·obtain ⟨aG,h1,h2,h3⟩:=h;refine ⟨aG,h1,h2,?_⟩;split
  ·exact h3
  ·obtain ⟨cs,pre,rest,_,h4⟩:=h3;exact ⟨cs,pre,rest,hM _ _ h1 rfl,h4⟩
 ·obtain ⟨b,h1,_,h3⟩:=h;exact ⟨b,h1,hM _ b h1 rfl,h3⟩
 ·obtain ⟨b,es,ck,h1,_,h3⟩:=h;exact ⟨b,es,ck,h1,hM _ b h1 rfl,h3⟩
 ·obtain ⟨r,b,es,ck,si,se,la,h1,_,h3⟩:=h;exact ⟨r,b,es,ck,si,se,la,h1,hM _ r h1 rfl,h3⟩
 ·obtain ⟨aG,h1,h2,h3⟩:=h;refine ⟨aG,h1,h2,?_⟩;split
  ·exact h3
  ·obtain ⟨cs,m,_,h4⟩:=h3;exact ⟨cs,m,hM _ _ h1 rfl,h4⟩
theorem a6.NQ{os:List (Nat×ah)} : ∀ (ps:List Nat) (vs:List Value) (xs:List I) (ts:List (Nat×I)) (a:Act),a6 c (aw ts os) a w D E→(∀ p∈ps,p<c.n)→aK w D E xs vs→ps.length=vs.length →
  a6 c (aw (qX ps xs ts) os) { a with tmps:=(ps.zip vs).foldl (fun t q=>t.setIfInBounds q.1 q.2) a.tmps } w D E
 | [],[],xs,ts,a,h,_,hv,_=>by
  cases xs with
  |nil=>exact h
  |cons x xs=>simp[aK] at hv
 | [],_::_,_,_,_,_,_,_,hl=>by simp at hl
 |_::_,[],_,_,_,_,_,_,hl=>by simp at hl
 |p::ps,v::vs,xs,ts,a,h,hp,hv,hl=>by
  cases xs with
  |nil=>simp[aK] at hv
  |cons x xs =>
   simp only[aK] at hv;obtain ⟨v',rest,cs,e,h1,h2,h3⟩:=hv;simp only[List.cons.injEq] at e;obtain ⟨rfl,rfl⟩:=e;have h4:=h.put (hp p (by simp)) (nz h1 h2);rw[uH] at h4;have:=a6.NQ ps vs xs ((p,x)::ts) (a.put (some p) v) h4 (fun q hq=>hp q (by simp[hq])) h3 (by simpa using hl);exact this
end
end Go.Abs
namespace Go.Abs
open Go Go.RowKit
def jO:ct→Bool
 | .mv _ | .pick .. | .bin .. | .eqv .. | .conv .. | .un .. | .fl .. | .ix .. | .lenT _ | .bld .. | .ext .. | .mk .. | .nilC _ | .ptrE .. =>true
 | .ld .. | .fa .. | .ia .. | .is .. | .len _ | .va .. | .bs .. | .sl .. | .cap _ | .bs0 _ | .lk .. =>true
 |_=>false
def uW:ct→Bool
 | .alloc _ | .box _ | .bu .. | .call .. | .eM .. | .dH .. =>true
 |op=>jO op
def qE(hs:List FuncId):ct→Bool
 | .alloc _ | .box _=>true
 | .call f _ => !hs.contains f
 |op=>jO op
abbrev ft:=List (Nat×List Nat)
def j4(ay:ft)(s:Nat):Option (List Nat):=(ay.find? fun q=>q.1==s).map (·.2)
def fq(ay:ft)(A:af):Prop:=∀ s ns,j4 ay s=some ns→(A.t s).only (fun n=>ns.contains n)=true
def sa(ay:ft):aM→Option (List Nat)
 | .t s=>j4 ay s
 | .c x=>if x.bJ then some [] else none
def vz(a:Option (List Nat))(ns:List Nat):Bool:=match a with
 |some ms=>ms.all fun m=>ns.contains m
 |none=>false
def j9(ay:ft)(g:aE):Bool:=match g.dst with
 |none=>true
 |some d=>match j4 ay d with
  |none=>true
  |some ns=>match g.op with
   | .mv x | .nilC x | .fa _ _ x | .ia _ _ x _=>vz (sa ay x) ns
   | .bin .. | .len _ | .bs .. | .bs0 _ | .conv .. | .lenT _=>true
   | .box _ | .alloc _=>ns.contains d
   |_=>false
def oA:ct→Option (List Nat)
 | .ld _ (.t x) | .fa _ _ (.t x) | .ia _ _ (.t x) _ | .is _ (.t x) _ | .len (.t x) | .va _ _ (.t x) | .sl _ (.t x) _ _ _ | .cap (.t x) | .lk _ _ _ (.t x) _=>some [x]
 | .bs _ _ ps=>if (ps.all fun x=>match x with | .t _=>true | .c _=>false)=true then some (kH ps) else none
 | .bs0 _=>some []
 |op=>if op.hZ=0∧jO op=true then some [] else none
def tj(ay:ft)(g:aE)(p:Nat→Bool):Bool:=match oA g.op with
 |some xs=>xs.all fun s=>match j4 ay s with | some ns=>ns.all p | none=>false
 |none=>false
def pC(hs:List FuncId)(ay:ft)(g h:aE):Bool:=qE hs h.op||match h.op with
 | .bu _ (.t y) _=>match oA g.op with
  |some []=>true
  |_=>match j4 ay y with
   |some ms=>tj ay g fun n => !ms.contains n
   |none=>false
 | .bu .. =>match oA g.op with
  |some []=>true
  |_=>false
 | .dH _ _ _ _ s _=>tj ay g (fun _=>false)||vz (sa ay s) []
 |_=>false
def po(hs:List FuncId)(ay:ft)(g h:aE):Bool:=jO g.op&&(pC hs ay g h&&((match g.dst with
  |some d => !h.dg.contains d&&h.dst != some d
  |none=>true)&&(match h.dst with
  |some d => !g.dg.contains d
  |none=>true)))
theorem yj{op:ct}(h:jO op=true)(A:af)(dst:Option Nat)(rest:List aE)(k:af→cP):bA A dst op rest k=cX (bF A op) fun v=>k (A.aT dst v):=by
 cases op <;>first | rfl | cases h
inductive cK (P:Program) (hs:List FuncId) (K:af→Prop):cP→Prop where
 |done {A:af} : K A→cK P hs K (.done A)
 |flat {f:FuncId} {avs cargs:List I} {a2:Option (List I)} {dst:Option Nat} {rest:List aE} {A:af} (r:I):aA P f cargs r→r.flat=true→cK P hs K (aF rest (A.aT dst r))→cK P hs K (.call f avs (some cargs) a2 dst rest A)
 |lead {f:FuncId} {avs cargs:List I} {a1:Option (List I)} {dst:Option Nat} {rest:List aE} {A:af} (r:I):aA P f cargs r→cK P hs K (aF rest (A.aT dst r))→cK P hs K (.call f avs a1 (some cargs) dst rest A)
 |bQ {f:FuncId} {avs:List I} {a1 a2:Option (List I)} {dst:Option Nat} {rest:List aE} {ts:List (Nat×I)} {os0:List (Nat×ah)} (ρ:List (Nat×Nat)) (cargs:List I) (post:cO):cF P f cargs [] post →
   fK ρ [] os0→jV false (aw ts os0) ρ [] avs cargs→(∀ r os',post r os'→dn false ρ [] os0 r os') →
   (∀ r os',post r os'→cK P hs K (aF rest ((aw ts (dB ρ os'++os0)).aT dst (r.aN (bD ρ)))))→cK P hs K (.call f avs a1 a2 dst rest (aw ts os0))
 |any {p:Nat→Prop} {k:Nat→cP} : (∀ m,p m→cK P hs K (k m))→cK P hs K (.any p k)
 |zn {f:FuncId} {avs:List I} {a1 a2:Option (List I)} {dst:Option Nat} {rest:List aE} {ts:List (Nat×I)} {os0:List (Nat×ah)} (aC:Bool) (ρ:List (Nat×Nat)) (os:List (Nat×ah)) (cargs:List I) (post:cO):hs.contains f=true→cF P f cargs os post →
   fK ρ os os0→jV aC (aw ts (cR (j6 ρ os) os0)) ρ os avs cargs→(∀ r os',post r os'→dn aC ρ os os0 r os') →
   (∀ r os',post r os'→cK P hs K (aF rest ((aw ts (dB ρ os'++os0)).aT dst (r.aN (bD ρ)))))→cK P hs K (.call f avs a1 a2 dst rest (aw ts os0))
theorem abw(os:List (Nat×ah)):cR [] os=os:=by simp[cR]
section
variable {P:Program} {hs:List FuncId} {K:af→Prop} {Y:Value→List I→List (Nat×ah)→cO→Prop}
theorem cK.BB{p:Nat→Prop}{k:Nat→cP}(h:cK P hs K (.any p k)):∀ m,p m→cK P hs K (k m):=by cases h;assumption
theorem fq.put{ay:ft}{A B:af}(h:fq ay A)(ht:∀ k,B.t k=A.t k){dst:Option Nat}{v:I}(hv:∀ d,dst=some d→∀ ns,j4 ay d=some ns→v.only (fun n=>ns.contains n)=true):fq ay (B.aT dst v):=by
 intro s ns hs';cases dst with
 |none=>exact (ht s).symm▸h s ns hs'
 |some d =>
  simp only[af.aT,af.put];by_cases hd:s=d
  ·rw[if_pos hd];exact hv d rfl ns (hd▸hs')
  ·rw[if_neg hd,ht];exact h s ns hs'
theorem sM{ay:ft}{A:af}(h:fq ay A){x:aM}{ns:List Nat}(hx:vz (sa ay x) ns=true):(ae A x).only (fun n=>ns.contains n)=true:=by
 cases x with
 |c x =>
  simp only[sa] at hx;split at hx
  ·rename_i hc;exact nC _ x hc
  ·cases hx
 |t s =>
  simp only[sa] at hx;cases hl:j4 ay s with
  |none=>rw[hl] at hx;cases hx
  |some ms =>
   rw[hl] at hx;simp only[vz,zx3] at hx;exact jH (fun n hn=>hx n (by simpa using hn)) _ (h s ms hl)
theorem Tz{op:BinOp}{x y v:I}(p:Nat→Bool)(h:cQ op x y=some v):v.only p=true:=by
 unfold cQ at h
 (repeat' split at h) <;>first | (cases h;done) | (simp only[u8] at h;subst h;rfl)
theorem zD{p:Nat→Bool} : ∀ {xs:List I} {i:Nat} {x:I},I.bV p xs=true→xs[i]?=some x→x.only p=true
 | [],_,_,_,h=>by simp at h
 |a::xs,0,x,h,e=>by
  simp only[I.bV,zz3] at h;simp only[List.getElem?_cons_zero,u8] at e;exact e▸h.1
 |a::xs,i+1,x,h,e=>by
  simp only[I.bV,zz3] at h;exact zD (xs:=xs) h.2 (by simpa using e)
theorem M7{ay:ft}{A:af}{g:aE}(h:fq ay A)(hg:j9 ay g=true){v:I}(hv:bF A g.op=some v):∀ d,g.dst=some d→∀ ns,j4 ay d=some ns→v.only (fun n=>ns.contains n)=true:=by
 intro d hd ns hn;obtain ⟨dst,op,gd⟩:=g;simp only at hd hv;subst hd;simp only[j9,hn] at hg;cases op <;>simp only at hg <;>(try (cases hg;done)) <;>simp only[bF] at hv <;>(try (cases hv;done))
 case mv x=>simp only[u8] at hv;exact hv▸sM h hg
 case nilC x =>
  have:=sM h hg;generalize ae A x=u at hv this;cases u <;>simp only[nA] at hv <;>first | (cases hv;done) | (simp only[u8] at hv;exact hv▸this)
 case bin op x y=>exact Tz _ hv
 case conv k x=>split at hv <;>first | (cases hv;done) | (simp only[u8] at hv;subst hv;rfl)
 case lenT x=>split at hv <;>first | (cases hv;done) | (simp only[u8] at hv;subst hv;rfl)
 case len x=>(repeat' split at hv) <;>first | (cases hv;done) | (simp only[u8] at hv;subst hv;rfl)
 case bs0 e=>simp only[u8] at hv;subst hv;rfl
 case bs e ps =>
  split at hv
  ·split at hv
   ·rename_i hc;simp only[u8] at hv;subst hv;simp only[I.only];exact kE _ _ hc.2
   ·cases hv
  ·cases hv
 case fa f off x =>
  have hx:=sM h hg;split at hv
  ·rename_i fs he;rw[he] at hx;simp only[I.only] at hx;split at hv
   ·rename_i u hu;split at hv
    ·simp only[u8] at hv;subst hv;simp only[I.only];exact zD hx hu
    ·cases hv
   ·cases hv
  ·rename_i n q he;rw[he] at hx;simp only[I.only] at hx;split at hv
   ·split at hv
    ·simp only[u8] at hv;subst hv;simpa only[I.only] using hx
    ·cases hv
   ·cases hv
  ·cases hv
 case ia n esz x i =>
  have hx:=sM h hg;split at hv
  case h_2=>cases hv
  split at hv
  case isFalse=>cases hv
  split at hv
  ·rename_i fs he;rw[he] at hx;simp only[I.only] at hx;split at hv
   ·simp only[zz1] at hv;obtain ⟨u,hu,rfl⟩:=hv;simp only[I.only];exact zD hx hu
   ·cases hv
  ·rename_i m q he;rw[he] at hx;simp only[I.only] at hx;split at hv
   ·split at hv
    ·simp only[u8] at hv;subst hv;simpa only[I.only] using hx
    ·cases hv
   ·cases hv
  ·cases hv
def ta(A:af)(dst:Option Nat)(s:I)(B:af):Prop:=(∀ t,dst≠some t→B.t t=A.t t)∧(s.only (fun _=>false)=true→eI A B)
def oT(A:af)(dst:Option Nat)(s:I)(R:(af→cP)→cP):Prop :=
 (∀ k,R k=.fail)∨(∃ B,(∀ k,R k=k B)∧ta A dst s B)∨∃ (p:Nat→Prop) (bB:Nat→af),(∀ k,R k=.any p fun m=>k (bB m))∧∀ m,ta A dst s (bB m)
theorem sy{A B:af}{dst:Option Nat}{v:I}{t:Nat}(ht:∀ k,B.t k=A.t k)(h:dst≠some t):(B.aT dst v).t t=A.t t:=by
 cases dst with
 |none=>exact ht t
 |some d =>
  have:t≠d:=fun e=>h (by rw[e]);simp only[af.aT,af.put,if_neg this];exact ht t
theorem SY(A:af)(dst:Option Nat)(esz bytes:Nat)(z s:I)(es ys:List I):oT A dst s (gJ A dst esz bytes z es ys):=by
 cases dst with
 |none=>exact .inl fun _=>rfl
 |some d =>
  cases ho:A.o d with
  |some y=>exact .inl fun k=>by simp only[gJ,ho]
  |none =>
   by_cases hc:(es.length+ys.length)*bytes≤140737488355328∧es.length+ys.length≤maxLen
   ·refine .inr (.inr ⟨_,fun m=>(A.aU d (.box (.agg (es++(ys++List.replicate m z))))).aT (some d) (.view d [] esz 0 (es.length+ys.length)),fun k=>by simp only[gJ,ho];rw[if_pos hc],fun m=>⟨fun t ht=>sy (A:=A) (B:=A.aU d _) (fun _=>rfl) ht,fun _ n y hy =>?_⟩⟩);have:n≠d:=fun e=>by rw[e,ho] at hy;cases hy
    rw[jn];simp only[af.aU,if_neg this];exact hy
   ·exact .inl fun k=>by simp only[gJ,ho];rw[if_neg hc]
theorem S2(A:af)(dst:Option Nat)(esz bytes:Nat)(z s:I)(es ys:Option (List I)):oT A dst s (fu A dst esz bytes z s es ys):=by
 cases es with
 |none=>exact .inl fun _=>rfl
 |some es =>
  cases ys with
  |none=>exact .inl fun _=>rfl
  |some ys =>
   by_cases h0:ys=[]
   ·exact .inr (.inl ⟨A.aT dst s,fun k=>by simp only[fu,if_pos h0],fun t ht=>sy (A:=A) (fun _=>rfl) ht,fun _ n y hy=>by rw[jn];exact hy⟩)
   ·have gg:=fun s'=>SY A dst esz bytes z s' es ys;cases s
    case nils=>simp only[oT,fu,if_neg h0];exact gg _
    case c0=>simp only[oT,fu,if_neg h0];exact gg _
    case view n p sz lo l =>
     cases ho:A.o n with
     |none=>exact .inl fun k=>by simp only[fu,if_neg h0,ho]
     |some y =>
      cases y with
      |box b =>
       cases hb:b.at p with
       |none=>exact .inl fun k=>by simp only[fu,if_neg h0,ho,hb]
       |some c =>
        cases c
        case agg fs =>
         by_cases h1:lo+l+ys.length≤fs.length
         ·by_cases h2:sz=esz∧I.cT ys=I.cT ((fs.drop (lo+l)).take ys.length)
          ·exact .inr (.inl ⟨(A.aU n (.box (iS b p (lo+l) fs ys))).aT dst (.view n p esz lo (l+ys.length)),fun k=>by simp only[fu,if_neg h0,ho,hb,if_pos h1];rw[if_pos h2],fun t ht=>sy (A:=A) (B:=A.aU n _) (fun _=>rfl) ht,fun h=>by simp[I.only] at h⟩)
          ·exact .inl fun k=>by simp only[fu,if_neg h0,ho,hb,if_pos h1];rw[if_neg h2]
         ·simp only[oT,fu,if_neg h0,ho,hb,if_neg h1];exact gg _
        all_goals exact .inl fun k=>by simp only[fu,if_neg h0,ho,hb]
      |_=>exact .inl fun k=>by simp only[fu,if_neg h0,ho]
    all_goals exact .inl fun k=>by simp only[fu,if_neg h0]
theorem BG(A:af)(dst:Option Nat)(e esz bytes:Nat)(z:I)(s x:aM)(rest:List aE):oT A dst (ae A s) (bA A dst (.dH e esz bytes z s x) rest):=by
 generalize hs:ae A s=AB;cases AB
 case own n l =>
  cases hx:ae A x
  case slice sz ys =>
   cases ho:A.o n with
   |none=>exact .inl fun k=>by simp only[bA,hs,hx,ho]
   |some y =>
    cases y with
    |b9 T sz' es =>
     by_cases hc:zq e esz bytes l sz ys T sz' es
     ·exact .inr (.inl ⟨(A.aU n (.b9 e esz (es++ys))).aT dst (.own n (es.length+ys.length)),fun k=>by simp only[bA,hs,hx,ho];rw[if_pos hc],fun t ht=>sy (A:=A) (B:=A.aU n _) (fun _=>rfl) ht,fun h=>by simp[I.only] at h⟩)
     ·exact .inl fun k=>by simp only[bA,hs,hx,ho];rw[if_neg hc]
    |c4 T xs =>
     by_cases hc:zr e esz bytes l ys T xs z
     ·exact .inr (.inl ⟨(A.aU n (.c4 e (xs++r5 ys))).aT dst (.own n (xs.length+ys.length)),fun k=>by simp only[bA,hs,hx,ho];rw[if_pos hc],fun t ht=>sy (A:=A) (B:=A.aU n _) (fun _=>rfl) ht,fun h=>by simp[I.only] at h⟩)
     ·exact .inl fun k=>by simp only[bA,hs,hx,ho];rw[if_neg hc]
    |_=>exact .inl fun k=>by simp only[bA,hs,hx,ho]
  all_goals exact .inl fun k=>by simp only[bA,hs,hx]
 all_goals (simp only[oT,bA,hs];exact S2 ..)
theorem zQ{A:af}{d:Nat}{v:I}{n:Nat}{y:ah}{dst:Option Nat}{u:I}(h:dst≠some d):((A.put d v).aU n y).aT dst u=((A.aU n y).aT dst u).put d v:=by
 cases dst with
 |none=>rfl
 |some e =>
  have:e≠d:=fun he=>h (by rw[he]);simp only[af.aT,af.put,af.aU,af.mk.injEq,and_true]
  funext k
  by_cases h1:k=e <;>by_cases h2:k=d <;>simp_all
theorem ao4{A:af}{d:Nat}{v:I}{dst:Option Nat}{u:I}(h:dst≠some d):(A.put d v).aT dst u=(A.aT dst u).put d v:=by
 cases dst with
 |none=>rfl
 |some e =>
  have:e≠d:=fun he=>h (by rw[he]);simp only[af.aT,af.put,af.mk.injEq,and_true]
  funext k
  by_cases h1:k=e <;>by_cases h2:k=d <;>simp_all
theorem SZ{A:af}{d:Nat}{v:I}{dst:Option Nat}(h:dst≠some d)(esz bytes:Nat)(z:I)(es ys:List I)(k:af→cP):gJ (A.put d v) dst esz bytes z es ys k=gJ A dst esz bytes z es ys fun B=>k (B.put d v):=by
 cases dst with
 |none=>rfl
 |some e =>
  simp only[gJ];have:(A.put d v).o=A.o:=rfl;rw[this];cases A.o e with
  |some _=>rfl
  |none =>
   simp only;split
   ·simp only[zQ h]
   ·rfl
theorem S3{A:af}{d:Nat}{v:I}{dst:Option Nat}(h:dst≠some d)(esz bytes:Nat)(z s:I)(es ys:Option (List I))(k:af→cP):fu (A.put d v) dst esz bytes z s es ys k=fu A dst esz bytes z s es ys fun B=>k (B.put d v):=by
 have ho:(A.put d v).o=A.o:=rfl;cases es with
 |none=>rfl
 |some es =>
  cases ys with
  |none=>rfl
  |some ys =>
   simp only[fu];split
   ·rw[ao4 h]
   ·cases s <;>simp only[SZ h,ho]
    rename_i n p sz lo l;cases A.o n with
    |none=>rfl
    |some y =>
     cases y with
     |box b =>
      simp only;cases b.at p with
      |none=>rfl
      |some c =>
       cases c <;>simp only[zQ h]
     |_=>rfl
theorem S6{A:af}{d:Nat}{v:I}{dst:Option Nat}(h:dst≠some d){e esz bytes:Nat}{z:I}{s x:aM}(hag:eC A (A.put d v) (s.sl++x.sl))(rest rest':List aE)(k:af→cP) :
  bA (A.put d v) dst (.dH e esz bytes z s x) rest k=bA A dst (.dH e esz bytes z s x) rest' fun B=>k (B.put d v):=by
 have ho:(A.put d v).o=A.o:=rfl;have hsrc:∀ y,eB (A.put d v) esz y=eB A esz y:=fun y=>by cases y <;>rfl
 simp only[bA,dv hag.l,dv hag.r,hsrc];cases ae A s <;>simp only[S3 h]
 rename_i n l;cases ae A x <;>simp only[ho]
 cases A.o n with
 |none=>rfl
 |some y=>cases y <;>simp only[zQ h]
theorem cK.D8{ay:ft}{f:FuncId}{avs:List I}{a1 a2:Option (List I)}{dst:Option Nat}{rest:List aE}{A:af}(hi:fq ay A)(hd:∀ d,dst=some d→j4 ay d=none)(h:cK P hs K (.call f avs a1 a2 dst rest A)) :
  bn P Y false (fun B=>cK P hs K (aF rest B)∧fq ay B) (.call f avs a1 a2 dst [] A):=by
 have no:∀ {v:I},∀ d,dst=some d→∀ ns,j4 ay d=some ns→v.only (fun n=>ns.contains n)=true:=fun d e ns hn=>by rw[hd d e] at hn;cases hn
 cases h with
 |flat r hc hf hw=>exact .flat r hc hf (.done ⟨hw,hi.put (fun _=>rfl) no⟩)
 |lead r hc hw=>exact .lead r hc (.done ⟨hw,hi.put (fun _=>rfl) no⟩)
 |bQ ρ cargs post hc hg ha hb hw=>exact .bQ false ρ [] cargs post rfl hc hg (by simp only[j6,zx1,abw];exact ha) hb fun r os' hp=>.done ⟨hw r os' hp,hi.put (B:=aw _ (dB ρ os'++_)) (fun _=>rfl) no⟩
 |zn aC ρ os cargs post _ hc hg ha hb hw=>exact .bQ aC ρ os cargs post rfl hc hg ha hb fun r os' hp=>.done ⟨hw r os' hp,hi.put (B:=aw _ (dB ρ os'++_)) (fun _=>rfl) no⟩
theorem cK.one{ay:ft}{A:af}{g:aE}{rest:List aE}(hi:fq ay A)(ho:uW g.op=true)(hL:j9 ay g=true)(h:cK P hs K (bA A g.dst g.op rest (aF rest))):bn P Y false (fun B=>cK P hs K (aF rest B)∧fq ay B) (bA A g.dst g.op [] (aF [])):=by
 have hval:=fun v (hv:bF A g.op=some v)=>M7 hi hL hv;obtain ⟨dst,op,gd⟩:=g;simp only at ho h hval ⊢;have pure:jO op=true→bn P Y false (fun B=>cK P hs K (aF rest B)∧fq ay B) (bA A dst op [] (aF [])):=by
  intro hsm;rw[yj hsm] at h ⊢;cases hv:bF A op with
  |none=>rw[hv] at h;cases h
  |some v=>rw[hv] at h;exact .done ⟨h,hi.put (fun _=>rfl) (hval v hv)⟩
 have unl:(∀ ns d,dst=some d→j4 ay d=some ns→j9 ay ⟨dst,op,gd⟩=false)→∀ d,dst=some d→j4 ay d=none:=fun h1 d hd=>by
  cases hn:j4 ay d with
  |none=>rfl
  |some ns=>rw[h1 ns d hd hn] at hL;cases hL
 cases op with
 |alloc z =>
  cases dst with
  |none=>simp only[bA] at h;cases h
  |some d =>
   simp only[bA] at h ⊢;split at h
   case h_2=>cases h
   refine .done ⟨h,hi.put (B:=A.aU d _) (dst:=some d) (fun _=>rfl) fun d' e ns hn =>?_⟩;simp only[u8] at e;subst e;simpa only[j9,hn,I.only] using hL
 |box x =>
  cases dst with
  |none=>simp only[bA] at h;cases h
  |some d =>
   simp only[bA] at h ⊢;split at h
   case h_2=>cases h
   split at h
   case isFalse=>cases h
   rename_i hv;rw[if_pos hv];refine .done ⟨h,hi.put (B:=A.aU d _) (dst:=some d) (fun _=>rfl) fun d' e ns hn =>?_⟩;simp only[u8] at e;subst e;simpa only[j9,hn,I.only] using hL
 |bu s x v =>
  cases dst with
  |some d=>simp only[bA] at h;cases h
  |none =>
   simp only[bA] at h ⊢;split at h
   case h_2=>cases h
   rename_i n p hx;split at h
   case h_2=>cases h
   rename_i b hb;split at h
   case h_2=>cases h
   rename_i old hold;split at h
   case isFalse=>cases h
   rename_i hok;simp only[if_pos hok];exact .done ⟨h,fun s ns hn=>hi s ns hn⟩
 |call f args=>exact cK.D8 hi (unl fun ns d e hn=>by subst e;simp only[j9,hn]) h
 |eM x args =>
  have hu:=unl fun ns d e hn=>by subst e;simp only[j9,hn]
  simp only[bA] at h ⊢;split at h
  ·exact cK.D8 hi hu h
  ·cases h
  ·cases h
 |dH e esz bytes z s x =>
  have hu:=unl fun ns d e hn=>by subst e;simp only[j9,hn]
  have um:∀ B,ta A dst (ae A s) B→fq ay B:=fun B hB t ns hn=>by
   rw[hB.1 t fun e=>by rw[hu t e] at hn;cases hn];exact hi t ns hn
  have hf:=BG A dst e esz bytes z s x;rcases hf rest with h1 | ⟨B,h1,h2⟩ | ⟨p,bB,h1,h2⟩
  ·rw[h1] at h;cases h
  ·rw[h1] at h;have:bA A dst (.dH e esz bytes z s x) [] (aF [])=aF [] B:=(show bA A dst (.dH e esz bytes z s x) [] (aF [])=bA A dst (.dH e esz bytes z s x) rest (aF []) from rfl).trans (h1 _);rw[this];exact .done ⟨h,um B h2⟩
  ·rw[h1] at h;have:bA A dst (.dH e esz bytes z s x) [] (aF [])=.any p fun m=>aF [] (bB m):=(show bA A dst (.dH e esz bytes z s x) [] (aF [])=bA A dst (.dH e esz bytes z s x) rest (aF []) from rfl).trans (h1 _);rw[this];exact .any rfl fun m hm=>.done ⟨h.BB m hm,um _ (h2 m)⟩
 |_=>first | exact pure rfl | cases ho
def gR(g:aE)(A:af)(v:I):Prop:=(gX A g∧v=.undef)∨(pass A g∧bF A g.op=some v)
theorem cK.Ar{A:af}{g:aE}{rest:List aE}(hs':jO g.op=true)(h:cK P hs K (aF (g::rest) A)):∃ v,gR g A v∧cK P hs K (aF rest (A.aT g.dst v)):=by
 have step:pass A g→cK P hs K (bA A g.dst g.op rest (aF rest))→∃ v,gR g A v∧cK P hs K (aF rest (A.aT g.dst v)):=by
  intro hp h;rw[yj hs'] at h;cases hv:bF A g.op with
  |none=>rw[hv] at h;cases h
  |some v=>rw[hv] at h;exact ⟨v,.inr ⟨hp,hv⟩,h⟩
 simp only[aF] at h;split at h
 ·rename_i hg;exact step (by simp only[pass,hg]) h
 ·rename_i t b hg;split at h
  ·rename_i b' hb;split at h
   ·rename_i hbb;subst hbb;exact step (by simp only[pass,hg];exact hb) h
   ·rename_i hbb;exact ⟨_,.inl ⟨by simp only[gX,hg];exact .inl (by rw[hb,wi hbb]),rfl⟩,h⟩
  ·rename_i hb;exact ⟨_,.inl ⟨by simp only[gX,hg];exact .inr hb,rfl⟩,h⟩
  ·cases h
theorem th{A:af}{g:aE}{rest:List aE}(hn:gX A g):aF (g::rest) A=aF rest (A.aT g.dst .undef):=by
 simp only[aF];cases hg:g.guard with
 |none=>simp only[gX,hg] at hn
 |some tb =>
  obtain ⟨t,b⟩:=tb;simp only[gX,hg] at hn;rcases hn with hn | hn
  ·simp only[hn];rw[if_neg (by cases b <;>simp)]
  ·simp only[hn]
theorem gR.to{A:af}{g:aE}{rest:List aE}{v:I}(hs':jO g.op=true)(h:gR g A v):aF (g::rest) A=aF rest (A.aT g.dst v):=by
 rcases h with ⟨hn,rfl⟩ | ⟨hp,hv⟩
 ·exact th hn
 ·rw[oY hp,yj hs',hv];rfl
theorem abd{A A':af}{p:Nat→Bool}(ho:∀ n,p n=true→A'.o n=A.o n){x:I}(hx:x.only p=true):cH A' x=cH A x:=by
 cases x <;>simp only[cH]
 rename_i n q;rw[ho n (by simpa[I.only] using hx)]
mutual
theorem acb{A A':af}{p:Nat→Bool}(ho:∀ n,p n=true→A'.o n=A.o n):∀ {x:I},x.only p=true→bC false A' x=bC false A x
 | .own n k,h=>by simp only[bC];rw[ho n (by simpa[I.only] using h)]
 | .func f caps,h=>by simp only[bC];rw[tJ ho (xs:=caps) (by simpa[I.only] using h)]
 | .agg fs,h=>by simp only[bC];rw[tJ ho (xs:=fs) (by simpa[I.only] using h)]
 | .undef,_ | .dx,_ | .bool _,_ | .int _ _,_ | .db _,_ | .nilp,_ | .dz,_ | .eg,_ | .raw _,_ | .nils _,_ | .c0 _,_ | .slice _ _,_ | .tuple _,_ | .ref _,_ | .iface _ _,_ | .ptr _ _,_ | .view _ _ _ _ _,_ | .mref _,_ | .dI _,_ | .c7 _ _,_=>by simp[bC]
theorem tJ{A A':af}{p:Nat→Bool}(ho:∀ n,p n=true→A'.o n=A.o n):∀ {xs:List I},I.bV p xs=true→cn false A' xs=cn false A xs
 | [],_=>rfl
 |x::xs,h=>by
  simp only[I.bV,zz3] at h;simp only[cn,acb ho h.1,tJ ho h.2]
end
theorem Nt{p:Nat→Bool}{f:aM→I} : ∀ {xs:List aM},(∀ x∈xs,(f x).only p=true)→I.bV p (xs.map f)=true
 | [],_=>rfl
 |x::xs,h=>by
  simp only[zy2,I.bV,zz3];exact ⟨h x (by simp),Nt fun y hy=>h y (by simp[hy])⟩
theorem amK{A A':af}{p:Nat→Bool}(ho:∀ n,p n=true→A'.o n=A.o n){x:I}(hx:x.only p=true):gV A' x=gV A x:=by
 cases x with
 |mref n=>simp only[gV];rw[ho n (by simpa[I.only] using hx)]
 |raw v=>cases v <;>first | rfl | (rename_i o;cases o <;>rfl)
 |_=>rfl
theorem aoT{A A':af}{op:ct}{xs:List Nat}{p:Nat→Bool}(hm:oA op=some xs)(h:eC A A' op.dg)(hx:∀ s∈xs,(A.t s).only p=true)(ho:∀ n,p n=true→A'.o n=A.o n):bF A' op=bF A op:=by
 have iQ:op.hZ=0→bF A' op=bF A op:=fun hc=>zP hc h;have dl:=fun {x:I} (hx:x.only p=true)=>abd ho hx;unfold oA at hm;split at hm
 ·rename_i s x;simp only[u8] at hm;subst hm;have e:=h x (by simp[ct.dg,aM.sl]);simp only[bF,ae,e,dl (hx x (by simp))]
 ·rename_i f off x;simp only[u8] at hm;subst hm;have e:=h x (by simp[ct.dg,aM.sl]);have k:=hx x (by simp);simp only[bF,ae,e];generalize A.t x=u at k ⊢;cases u with
  |ptr n q=>simp only[dl (x:=.ptr n q) k]
  |ref c=>cases c <;>rfl
  |_=>rfl
 ·rename_i n esz x i;simp only[u8] at hm;subst hm;have e:=h x (by simp[ct.dg,aM.sl]);have ei:=dv (x:=i) (fun m hm=>h m (by simp[ct.dg,hm]));have k:=hx x (by simp);simp only[bF,ei];generalize ae A i=w;simp only[ae,e];generalize A.t x=u at k ⊢;cases u with
  |ptr n q=>simp only[dl (x:=.ptr n q) k]
  |ref c=>cases c <;>rfl
  |_=>rfl
 ·rename_i esz x i;simp only[u8] at hm;subst hm;have e:=h x (by simp[ct.dg,aM.sl]);have ei:=dv (x:=i) (fun m hm=>h m (by simp[ct.dg,hm]));have k:=hx x (by simp);simp only[bF,ei];generalize ae A i=w;simp only[ae,e];generalize A.t x=u at k ⊢;cases u with
  |own n l=>simp only[ho n (by simpa[I.only] using k)]
  |view n q=>simp only[dl (x:=.ptr n q) (by simpa[I.only] using k)]
  |_=>rfl
 ·rename_i x;simp only[u8] at hm;subst hm;have e:=h x (by simp[ct.dg,aM.sl]);have k:=hx x (by simp);simp only[bF,ae,e];generalize A.t x=u at k ⊢;cases u with
  |own n l=>simp only[ho n (by simpa[I.only] using k)]
  |_=>rfl
 ·rename_i n esz x;simp only[u8] at hm;subst hm;have e:=h x (by simp[ct.dg,aM.sl]);have k:=hx x (by simp);simp only[bF,ae,e];generalize A.t x=u at k ⊢;cases u with
  |ptr n q=>simp only[dl (x:=.ptr n q) k]
  |ref c=>cases c <;>rfl
  |_=>rfl
 ·rename_i esz x lo hi mx;simp only[u8] at hm;subst hm;have e:=h x (by simp[ct.dg,aM.sl]);have e1:=qv (x:=lo) (fun m hm=>h m (by simp[ct.dg,hm]));have e2:=qv (x:=hi) (fun m hm=>h m (by simp[ct.dg,hm]));have e3:=qv (x:=mx) (fun m hm=>h m (by simp[ct.dg,hm]));have k:=hx x (by simp);simp only[bF,e1,e2,e3];generalize lo.map (ae A)=w1;generalize hi.map (ae A)=w2;generalize mx.map (ae A)=w3;simp only[ae,e];generalize A.t x=u at k ⊢;cases u with
  |view n q=>simp only[dl (x:=.ptr n q) (by simpa[I.only] using k)]
  |_=>rfl
 ·rename_i x;simp only[u8] at hm;subst hm;have e:=h x (by simp[ct.dg,aM.sl]);have k:=hx x (by simp);simp only[bF,ae,e];generalize A.t x=u at k ⊢;cases u with
  |view n q=>simp only[dl (x:=.ptr n q) (by simpa[I.only] using k)]
  |_=>rfl
 ·rename_i ty z ok x kk;simp only[u8] at hm;subst hm;have e:=h x (by simp[ct.dg,aM.sl]);have ek:=dv (x:=kk) (fun m hm=>h m (by simp[ct.dg,hm]));have k:=hx x (by simp);simp only[bF,ek];generalize ae A kk=w;simp only[ae,e,amK ho k]
 ·rename_i esz ps;split at hm
  case isFalse=>cases hm
  rename_i hall;simp only[u8] at hm;subst hm;have hev:ps.map (ae A')=ps.map (ae A):=nk h;have hon:I.bV p (ps.map (ae A))=true:=Nt fun x hx'=>by
   have h1:=zx3.1 hall x hx';cases x with
   |c _=>cases h1
   |t s=>exact hx s (by simp only[kH,List.mem_flatMap];exact ⟨_,hx',by simp[aM.sl]⟩)
  simp only[bF,hev,tJ ho hon]
 ·rfl
 ·split at hm
  ·rename_i hc;exact iQ hc.1
  ·cases hm
theorem BD{ay:ft}{A:af}{g:aE}{p:Nat→Bool}(hi:fq ay A)(h:tj ay g p=true):∃ xs,oA g.op=some xs∧∀ s∈xs,(A.t s).only p=true:=by
 unfold tj at h;split at h
 case h_2=>cases h
 rename_i xs hm;refine ⟨xs,hm,fun s hs' =>?_⟩;have h1:=zx3.1 h s hs';split at h1
 case h_2=>cases h1
 rename_i ns hn;exact jH (fun n h2=>zx3.1 h1 n (by simpa using h2)) _ (hi s ns hn)
theorem gR.y0{A A':af}{g:aE}{v:I}{xs:List Nat}{p:Nat→Bool}(h:gR g A v)(hm:oA g.op=some xs)(ha:eC A A' g.dg)(hx:∀ s∈xs,(A.t s).only p=true)(ho:∀ n,p n=true→A'.o n=A.o n):gR g A' v:=by
 rcases h with ⟨h,rfl⟩ | ⟨h,k⟩
 ·exact .inl ⟨qN ha h,rfl⟩
 ·exact .inr ⟨oK ha h,by rw[aoT hm (aE.lf ha) hx ho];exact k⟩
theorem gR.um{ay:ft}{A:af}{g:aE}{v:I}(hi:fq ay A)(hg:j9 ay g=true)(h:gR g A v):fq ay (A.aT g.dst v):=by
 rcases h with ⟨_,rfl⟩ | ⟨_,k⟩
 ·exact hi.put (fun _=>rfl) fun _ _ _ _=>rfl
 ·exact hi.put (fun _=>rfl) (M7 hi hg k)
theorem gR.cV{A A':af}{g:aE}{v:I}(h:gR g A v)(hu:eI A A')(ha:eC A A' g.dg):gR g A' v:=by
 rcases h with ⟨h,rfl⟩ | ⟨h,k⟩
 ·exact .inl ⟨qN ha h,rfl⟩
 ·exact .inr ⟨oK ha h,NP hu (aE.lf ha) k⟩
theorem LW{ay:ft}{g h:aE}(hi:po hs ay g h=true):jO g.op=true∧pC hs ay g h=true∧(∀ d,g.dst=some d→d∉h.dg)∧(∀ d,g.dst=some d→h.dst≠some d)∧(∀ d,h.dst=some d→d∉g.dg):=by
 simp only[po,zz3] at hi;obtain ⟨h1,h2,h3,h4⟩:=hi;refine ⟨h1,h2,fun d hd =>?_,fun d hd =>?_,fun d hd =>?_⟩
 ·rw[hd] at h3;simp at h3;exact h3.1
 ·rw[hd] at h3;simp at h3;exact h3.2
 ·rw[hd] at h4;simpa using h4
theorem BJ{aC:Bool}{A A':af}{ρ:List (Nat×Nat)}{os:List (Nat×ah)}(hu:eI A A'):∀ {xs cs:List I},jV aC A ρ os xs cs→jV aC A' ρ os xs cs
 | [],[],_=>trivial
 |x::xs,c::cs,h=>⟨h.1.imp id fun h=>Fo hu h,BJ hu h.2⟩
 | [],_::_,h=>h.elim
 |_::_,[],h=>h.elim
theorem amW{A:af}{d:Option Nat}{v:I}{ts:List (Nat×I)}{os:List (Nat×ah)}(h:A.aT d v=aw ts os):∃ ts2,A=aw ts2 os∧∀ X:List (Nat×ah),(aw ts2 X).aT d v=aw ts X:=by
 cases d with
 |none=>exact ⟨ts,h,fun _=>rfl⟩
 |some d =>
  have ht:∀ k,(A.aT (some d) v).t k=cm ts k:=fun k=>by rw[h];rfl
  have ho:A.o=ao os:=by
   have:(A.aT (some d) v).o=ao os:=by rw[h];rfl
   rwa [jn] at this
  refine ⟨(d,A.t d)::ts,?_,fun X =>?_⟩
  ·cases A with
   |mk t o =>
    simp only[aw,af.mk.injEq];refine ⟨funext fun k =>?_,ho⟩;have:=ht k;simp only[af.aT,af.put] at this;simp only[cm];by_cases hk:k=d
    ·subst hk;simp
    ·rw[if_neg hk] at this;have hk':¬ d=k:=fun e=>hk e.symm;simp only[hk,if_false];exact this
  ·simp only[af.aT,af.put,aw,af.mk.injEq,and_true]
   funext k
   have:=ht k;simp only[af.aT,af.put] at this;by_cases hk:k=d
   ·subst hk;simp at this ⊢;exact this
   ·have hk':¬ d=k:=fun e=>hk e.symm;simp only[cm,hk,if_false]
theorem aoR{ρ:List (Nat×Nat)}{os0 os':List (Nat×ah)}{r:I}(hb:dn false ρ [] os0 r os'){n:Nat}{x:ah}(hx:ao os0 n=some x):ao (dB ρ os'++os0) n=some x:=by
 rw[sg];cases hp:pre ρ os' n with
 |none=>exact hx
 |some m =>
  obtain ⟨h1,h2⟩:=mL hp;have:=(hb.qK m h1 (by simp[aq,ao])).1;rw[h2,hx] at this;cases this
theorem cK.VT{A B:af}{j:aE}{v:I}{f:FuncId}{args:List aM}{dst:Option Nat}{rest:List aE}(hj:jO j.op=true)(hv:gR j A v)(hB:B=A.aT j.dst v)(hf:hs.contains f=false)(hag:eC A B (kH args))(hd:∀ d,j.dst=some d→dst≠some d)(hr:∀ d,dst=some d→d∉j.dg)
  (h:cK P hs K (.call f (args.map (ae B)) (cn true B (args.map (ae B))) (cn false B (args.map (ae B))) dst rest B)):cK P hs K (.call f (args.map (ae A)) (cn true A (args.map (ae A))) (cn false A (args.map (ae A))) dst (j::rest) A):=by
 have eo:B.o=A.o:=by rw[hB,jn]
 have cV:eI B A:=fun n x hx=>by rwa [←eo]
 have up':eI A B:=fun n x hx=>by rwa [eo]
 have eav:args.map (ae B)=args.map (ae A):=nk hag;rw[eav] at h;have cont:∀ r:I,cK P hs K (aF rest (B.aT dst r))→cK P hs K (aF (j::rest) (A.aT dst r)):=fun r hw=>by
  have h1:gR j (A.aT dst r) v:=hv.cV (fun n x hx=>by rwa [jn]) (nF hr);rw[h1.to hj,qW (fun d hd'=>fun e=>hd d e hd'),←hB];exact hw
 generalize e1:cn true B (args.map (ae A))=a1 at h;generalize e2:cn false B (args.map (ae A))=a2 at h;generalize hBm:B=B0 at h;cases h with
 |flat r hc hfl hw =>
  subst hBm;rw[mu cV e1];exact .flat r hc hfl (cont r hw)
 |lead r hc hw =>
  subst hBm;rw[mu cV e2];exact .lead r hc (cont r hw)
 |bQ ρ cargs post hc hg ha hb hw =>
  rename_i ts os0;rw[hB] at hBm;obtain ⟨ts2,hA,hts⟩:=amW hBm;have hA':=hA;clear cont;subst hA;refine .bQ ρ cargs post hc hg (BJ (A:=aw ts os0) (A':=aw ts2 os0) (fun n x hx=>hx) ha) hb fun r os' hp =>?_;have h1:gR j ((aw ts2 (dB ρ os'++os0)).aT dst (r.aN (bD ρ))) v:=hv.cV (fun n x hx=>by
   rw[jn];exact aoR (hb r os' hp) hx) (fun k hk=>by
    have:=nF (A:=aw ts2 (dB ρ os'++os0)) (v:=r.aN (bD ρ)) hr k hk;rw[this];rfl)
  rw[h1.to hj,qW (fun d hd'=>fun e=>hd d e hd'),hts];exact hw r os' hp
 |zn aC ρ os cargs post hfs =>
  rw[hf] at hfs;cases hfs
theorem cK.swap{ay:ft}{A:af}{j g:aE}{rest:List aE}(hinv:fq ay A)(hi:po hs ay j g=true)(hw:cK P hs K (aF (j::g::rest) A)):cK P hs K (aF (g::j::rest) A):=by
 obtain ⟨hj,hl,i1,i2,i3⟩:=LW hi;obtain ⟨v,hv,hw⟩:=cK.Ar hj hw;have ag:eC (A.aT j.dst v) A g.dg:=(nF i1).symm;have ag':eC A (A.aT j.dst v) g.dg:=nF i1;have cV:eI (A.aT j.dst v) A:=fun n x hx=>by rwa [jn] at hx
 have up':∀ (d:Option Nat) (u:I),eI A (A.aT d u):=fun d u n x hx=>by rwa [jn]
 by_cases hsg:jO g.op=true
 ·obtain ⟨u,hu,hw⟩:=cK.Ar hsg hw;rw[(hu.cV cV ag).to hsg,(hv.cV (up' _ _) (nF i3)).to hj,←qW i2];exact hw
 ·-- the guard
  have guard:(gX (A.aT j.dst v) g∧aF (g::rest) (A.aT j.dst v)=aF rest ((A.aT j.dst v).aT g.dst .undef))∨(pass (A.aT j.dst v) g∧aF (g::rest) (A.aT j.dst v)=bA (A.aT j.dst v) g.dst g.op rest (aF rest))∨aF (g::rest) (A.aT j.dst v)=.fail:=by
   cases hg:g.guard with
   |none=>exact .inr (.inl ⟨by simp only[pass,hg],by simp only[aF,hg]⟩)
   |some tb =>
    obtain ⟨t,b⟩:=tb;cases ht:(A.aT j.dst v).t t with
    |bool b' =>
     by_cases hbb:b'=b
     ·subst hbb;have hp:pass (A.aT j.dst v) g:=by simp only[pass,hg,ht]
      exact .inr (.inl ⟨hp,oY hp⟩)
     ·have hn:gX (A.aT j.dst v) g:=by simp only[gX,hg];exact .inl (by rw[ht,wi hbb])
      exact .inl ⟨hn,th hn⟩
    |undef =>
     have hn:gX (A.aT j.dst v) g:=by simp only[gX,hg];exact .inr ht
     exact .inl ⟨hn,th hn⟩
    |_=>exact .inr (.inr (by simp only[aF,hg,ht]))
  rcases guard with ⟨hn,he⟩ | ⟨hp,he⟩ | he
  ·rw[he] at hw;rw[th (qN ag hn),(hv.cV (up' _ _) (nF i3)).to hj,←qW i2];exact hw
  ·rw[he] at hw;rw[oY (oK ag hp)];obtain ⟨dst,op,gd⟩:=g;simp only at hw hsg i2 i3 ⊢;cases op with
   |alloc z =>
    cases dst with
    |none=>simp only[bA] at hw;cases hw
    |some d =>
    simp only[bA] at hw ⊢;split at hw
    case h_2=>cases hw
    rename_i ho;rw[jn] at ho;simp only[ho];have h1:gR j ((A.aU d (.box z)).put d (.ptr d [])) v:=hv.cV (fun n y hy=>by
     have:n≠d:=fun he=>by rw[he,ho] at hy;cases hy
     simp only[af.put,af.aU,this,if_false];exact hy) (fun k hk=>by
     have:k≠d:=fun he=>i3 d rfl (he▸hk);simp only[af.put,af.aU,this,if_false])
    rw[h1.to hj];have e:((A.aT j.dst v).aU d (.box z)).put d (.ptr d [])=((A.aU d (.box z)).put d (.ptr d [])).aT j.dst v:=by
     cases hgd:j.dst with
     |none=>rfl
     |some e =>
      have hne:e≠d:=fun he=>i2 e hgd (by rw[he]);simp only[af.aT,af.put,af.aU,af.mk.injEq,and_true]
      funext k
      by_cases h1:k=e <;>by_cases h2:k=d <;>simp_all
    rw[←e];exact hw
   |box x =>
    have ex:ae (A.aT j.dst v) x=ae A x:=dv (aE.lf ag');cases dst with
    |none=>simp only[bA] at hw;cases hw
    |some d =>
    simp only[bA] at hw ⊢;split at hw
    case h_2=>cases hw
    rename_i ho;rw[jn] at ho;simp only[ho];rw[ex] at hw;split at hw
    case isFalse=>cases hw
    rename_i hval;rw[if_pos hval];have h1:gR j ((A.aU d (.box (ae A x))).put d (.ptr d [])) v:=hv.cV (fun n y hy=>by
     have:n≠d:=fun he=>by rw[he,ho] at hy;cases hy
     simp only[af.put,af.aU,this,if_false];exact hy) (fun k hk=>by
     have:k≠d:=fun he=>i3 d rfl (he▸hk);simp only[af.put,af.aU,this,if_false])
    rw[h1.to hj];have e:((A.aT j.dst v).aU d (.box (ae A x))).put d (.ptr d [])=((A.aU d (.box (ae A x))).put d (.ptr d [])).aT j.dst v:=by
     cases hgd:j.dst with
     |none=>rfl
     |some e =>
      have hne:e≠d:=fun he=>i2 e hgd (by rw[he]);simp only[af.aT,af.put,af.aU,af.mk.injEq,and_true]
      funext k
      by_cases h1:k=e <;>by_cases h2:k=d <;>simp_all
    rw[←e];exact hw
   |call f args =>
    simp only[bA] at hw ⊢;refine cK.VT hj hv rfl (by simpa[pC,qE] using hl) (aE.lf ag') i2 i3 hw
   |bu s y u =>
    cases dst with
    |some d=>simp only[bA] at hw;cases hw
    |none =>
    have ey:ae (A.aT j.dst v) y=ae A y:=dv (aE.lf ag').l;have eu:ae (A.aT j.dst v) u=ae A u:=dv (aE.lf ag').r;simp only[bA] at hw ⊢;rw[ey,eu,jn] at hw;cases hx:ae A y <;>simp only[hx] at hw ⊢ <;>try (cases hw;done)
    rename_i n q;cases ho:A.o n with
    |none=>rw[ho] at hw;cases hw
    |some ob =>
    rw[ho] at hw;cases ob <;>simp only at hw ⊢ <;>try (cases hw;done)
    rename_i b;cases hb:b.at q with
    |none=>rw[hb] at hw;cases hw
    |some old =>
    rw[hb] at hw;simp only at hw ⊢;split at hw
    case isFalse=>cases hw
    rename_i hok;rw[if_pos hok];have h1:gR j (A.aU n (.box (b.dS q (ae A u)))) v:=by
     have none0:oA j.op=some []→gR j (A.aU n (.box (b.dS q (ae A u)))) v:=fun hm=>hv.y0 (p:=fun _=>false) hm (fun _ _=>rfl) (fun s hs'=>by cases hs') (fun m hm=>by cases hm);cases y with
     |c y =>
      simp only[pC,qE,jO,Bool.false_or] at hl;split at hl
      ·rename_i hm;exact none0 hm
      ·cases hl
     |t y =>
      simp only[pC,qE,jO,Bool.false_or] at hl;split at hl
      ·rename_i hm;exact none0 hm
      ·split at hl
       case h_2=>cases hl
       rename_i ms hms;obtain ⟨xs,hm,hx2⟩:=BD hinv hl;refine hv.y0 hm (fun _ _=>rfl) hx2 fun m hm2 =>?_;have hn:=hinv y ms hms;simp only[ae] at hx;rw[hx] at hn;have:m≠n:=fun e=>by subst e;simp[I.only] at hn hm2;exact hm2 hn
       simp only[af.aU,if_neg this]
    rw[h1.to hj];have e:(A.aT j.dst v).aU n (.box (b.dS q (ae A u)))=(A.aU n (.box (b.dS q (ae A u)))).aT j.dst v:=by cases j.dst <;>rfl
    rw[←e];exact hw
   |dH e esz bytes z s x =>
    have hag:eC A (A.aT j.dst v) (s.sl++x.sl):=aE.lf ag';have he2:bA (A.aT j.dst v) dst (.dH e esz bytes z s x) rest (aF rest)=bA A dst (.dH e esz bytes z s x) (j::rest) fun B=>aF rest (B.aT j.dst v):=by
     cases hjd:j.dst with
     |none=>rfl
     |some d =>
      rw[hjd] at hag;exact S6 (fun e=>i2 d hjd e) hag rest (j::rest) (aF rest)
    rw[he2] at hw;have kT:∀ B,ta A dst (ae A s) B→aF (j::rest) B=aF rest (B.aT j.dst v):=fun B hB=>by
     have hagB:eC A B j.dg:=fun k hk=>hB.1 k fun e=>i3 k e hk;have:gR j B v:=by
      simp only[pC,qE,jO,Bool.false_or,Bool.or_eq_true] at hl;rcases hl with hl | hl
      ·obtain ⟨xs,hm,hx2⟩:=BD hinv hl;exact hv.y0 hm hagB hx2 fun m hm2=>by cases hm2
      ·have:=sM hinv hl;exact hv.cV (hB.2 (by simpa using this)) hagB
     rw[this.to hj]
    rcases BG A dst e esz bytes z s x (j::rest) with h1 | ⟨B,h1,h2⟩ | ⟨p,bB,h1,h2⟩
    ·rw[h1] at hw;cases hw
    ·rw[h1] at hw ⊢;rw[kT B h2];exact hw
    ·rw[h1] at hw ⊢;exact .any fun m hm=>by rw[kT _ (h2 m)];exact hw.BB m hm
   |_=>first | exact absurd rfl hsg | (simp[pC,qE,jO] at hl)
  ·rw[he] at hw;cases hw
theorem cK.rK{ay:ft}{g:aE} : ∀ {l:List aE} {r:List aE} {A:af},fq ay A→(∀ j∈l,po hs ay j g=true∧j9 ay j=true)→cK P hs K (aF (l++g::r) A)→cK P hs K (aF (g::(l++r)) A)
 | [],r,A,_,_,h=>h
 |j::l,r,A,hinv,hi,h=>by
  have hj:=(LW (hi j (by simp)).1).1;obtain ⟨v,hv,h2⟩:=cK.Ar (g:=j) (rest:=l++g::r) hj h;have h3:=cK.rK (l:=l) (r:=r) (hv.um hinv (hi j (by simp)).2) (fun k hk=>hi k (by simp[hk])) h2;refine cK.swap hinv (hi j (by simp)).1 ?_;rw[hv.to hj];exact h3
end
def uP:List Nat→Bool
 | []=>true
 |a::l => !l.contains a&&uP l
def tg(hs:List FuncId)(ay:ft)(gs:List aE)(cl:List Nat):List Nat→List Nat→Bool
 |_,[]=>true
 |before,i::σ=>(before.all fun j=>(cl.getD i 0).testBit j||po hs ay (gs.getD j default) (gs.getD i default))&&tg hs ay gs cl (i::before) σ
def u3(hs:List FuncId)(ay:ft)(on:List (List Nat))(gs:List aE)(cl:List Nat)(σ:List Nat):Bool :=
 (Nat.beq σ.length gs.length&&(uP σ&&(σ.all (fun i=>decide (i<gs.length))&&((List.range gs.length).all (fun i=>σ.contains i)&&gs.all fun g=>uW g.op&&j9 ay g))))&&(tg hs ay gs cl [] σ&&(List.range gs.length).all fun i=>(on.getD i []).all (fun k=>decide (k<i))&&Nat.beq (cl.getD i 0) (pW cl (on.getD i [])))
theorem MP:∀ {l:List Nat},uP l=true→l.Nodup
 | [],_=>List.nodup_nil
 |a::l,h=>by
  simp only[uP,zz3,Bool.not_eq_true',List.contains_eq_mem,decide_eq_false_iff_not] at h;exact List.nodup_cons.2 ⟨h.1,MP h.2⟩
theorem Bz{hs:List FuncId}{ay:ft}{gs:List aE}{cl:List Nat} : ∀ {σ before:List Nat},tg hs ay gs cl before σ=true→∀ s1 i s2,σ=s1++i::s2→∀ j,j∈before∨j∈s1→(cl.getD i 0).testBit j=true∨po hs ay (gs.getD j default) (gs.getD i default)=true
 | [],_,_,s1,i,s2,e,_,_=>by cases s1 <;>cases e
 |a::σ,before,h,s1,i,s2,e,j,hj=>by
  simp only[tg,zz3,zx3,Bool.or_eq_true] at h;cases s1 with
  |nil =>
   simp only[zy3,List.cons.injEq] at e;obtain ⟨rfl,rfl⟩:=e;rcases hj with hj | hj
   ·exact h.1 j hj
   ·cases hj
  |cons b s1 =>
   simp only[zz9,List.cons.injEq] at e;obtain ⟨rfl,rfl⟩:=e;refine Bz h.2 s1 i s2 rfl j ?_;rcases hj with hj | hj
   ·exact .inl (List.mem_cons_of_mem _ hj)
   ·rcases zx2.1 hj with hj | hj
    ·exact .inl (by rw[hj];exact List.mem_cons_self)
    ·exact .inr hj
def jK(σ:List Nat)(listed:Array Bool):List Nat:=σ.filter fun i => !listed.getD i true
def pG(gs:List aE)(σ:List Nat)(listed:Array Bool):List aE:=(jK σ listed).map fun i=>gs.getD i default
theorem apb{σ:List Nat}{listed:Array Bool}{i:Nat}(hn:σ.Nodup)(hi:i∈σ)(hl:i<listed.size)(hu:listed.getD i true=false):∃ s1 s2,σ=s1++i::s2∧jK σ listed=(s1.filter fun j => !listed.getD j true)++i::(s2.filter fun j => !listed.getD j true) ∧
  jK σ (listed.setIfInBounds i true)=(s1.filter fun j => !listed.getD j true)++(s2.filter fun j => !listed.getD j true):=by
 obtain ⟨s1,s2,rfl⟩:=List.append_of_mem hi;have same:∀ j,j≠i→(listed.setIfInBounds i true).getD j true=listed.getD j true:=fun j hj=>getD_set_ne true (Ne.symm hj);have hit:(listed.setIfInBounds i true).getD i true=true:=by simp[hl]
 have hnd:=List.nodup_append.1 hn;have h1:∀ j∈s1,j≠i:=fun j hj=>hnd.2.2 j hj i List.mem_cons_self;have h2:∀ j∈s2,j≠i:=fun j hj e=>(List.nodup_cons.1 hnd.2.1).1 (e▸hj);refine ⟨s1,s2,rfl,?_,?_⟩
 ·simp only[jK,List.filter_append,zx8,hu,Bool.not_false,if_true]
 ·simp only[jK,List.filter_append,zx8,hit,Bool.not_true,zz6,if_false]
  congr 1
  ·exact List.filter_congr fun j hj=>by rw[same j (h1 j hj)]
  ·exact List.filter_congr fun j hj=>by rw[same j (h2 j hj)]
structure Br (hs:List FuncId) (ay:ft) (l:List Oper) (gs:List aE) (σ:List Nat):Prop where
 anh:σ.Nodup
 lt:∀ i∈σ,i<gs.length
 all:∀ i,i<gs.length→i∈σ
 ok:∀ g∈gs,uW g.op=true∧j9 ay g=true
 len:σ.length=gs.length
 qe:∀ i o,l[i]?=some o→∀ k∈eV o,k<i
 yE:∀ (S:Nat→Prop),(∀ i o,l[i]?=some o→S i→∀ k∈eV o,S k)→∀ s1 i s2 o,σ=s1++i::s2→l[i]?=some o→(∀ k∈eV o,S k)→∀ j∈s1,¬ S j→po hs ay (gs.getD j default) (gs.getD i default)=true
theorem aoI{hs:List FuncId}{ay:ft}{l:List Oper}{gs:List aE}{cl σ:List Nat}(hlen:gs.length=l.length)(h:u3 hs ay (l.map eV) gs cl σ=true):Br hs ay l gs σ:=by
 simp only[u3,zz3,zx3,decide_eq_true_eq,zw4,List.contains_eq_mem] at h;obtain ⟨⟨h1,h2,h3,h4,h5⟩,h6,h7⟩:=h;have bd:∀ i o,l[i]?=some o→(∀ k∈eV o,k<i)∧(∀ j,(cl.getD i 0).testBit j=true→j∈eV o∨∃ k∈eV o,(cl.getD k 0).testBit j=true):=by
  intro i o ho;have hi:i<l.length:=(zy7.1 ho).1;have h8:=h7 i (by omega);have hon:(l.map eV).getD i []=eV o:=by simp[zz0,ho]
  rw[hon] at h8;have hb:=Nat.eq_of_beq_eq_true h8.2;exact ⟨h8.1,fun j hj=>AJ (by rw[←hb];exact hj)⟩
 refine ⟨MP h2,h3,h4,h5,Nat.eq_of_beq_eq_true h1,fun i o ho=>(bd i o ho).1,?_⟩;intro S hS s1 i s2 o e ho hon j hj hnj;have key:∀ n i o,i≤n→l[i]?=some o→(∀ k∈eV o,S k)→∀ j,(cl.getD i 0).testBit j=true→S j:=by
  intro n
  induction n with
  |zero =>
   intro i o hi ho hon j hj;obtain ⟨h8,h9⟩:=bd i o ho;rcases h9 j hj with h | ⟨k,hk,_⟩
   ·exact hon j h
   ·have:=h8 k hk;omega
  |succ n ih =>
   intro i o hi ho hon j hj;obtain ⟨h8,h9⟩:=bd i o ho;rcases h9 j hj with h | ⟨k,hk,hjk⟩
   ·exact hon j h
   ·have hki:=h8 k hk;have hkl:k<l.length:=Nat.lt_trans hki (zy7.1 ho).1;obtain ⟨ok,hok⟩:∃ ok,l[k]?=some ok:=⟨l[k],zy0 hkl⟩
    exact ih k ok (by omega) hok (hS k ok hok (hon k hk)) j hjk
 rcases Bz h6 s1 i s2 e j (.inr hj) with h | h
 ·exact absurd (key i i o (zz7 _) ho hon j h) hnj
 ·exact h
section
variable {c:c6}
theorem akU{K:af→Prop}{hs:List FuncId}{ay:ft}{b8:Array Oper}{Q:Exit→Act→World→Prop}{o:Oper}{g:aE}{rest:List aE}{A:af}{a:Act}{w:World}{Kw:Act→World→Prop}(hg:qi c.P c.n b8 o=some g)(hi:fq ay A)(ho:uW g.op=true∧j9 ay g=true)(hwp:cK c.P hs K (aF (g::rest) A))(hs':cD c A a w)
  (hK:∀ B a' w',cK c.P hs K (aF rest B)→fq ay B→cD c B a' w'→Kw a' w'):if Region.wanted o (yielded b8 a.tmps) then o.wpIn c.bB 9 c.P a w Kw Q else (∀ f,o.about c.P w a.eval=some f→c.bB.fn f)∧Kw (a.put o.dst undef) w:=by
 obtain ⟨h1,h2,h3,h4⟩:=wA hg;have step:cK c.P hs K (bA A g.dst g.op rest (aF rest))→o.wpIn c.bB 9 c.P a w Kw Q:=fun h =>
  yk h1 h2.symm (by rw[h2];exact h3) (cK.one (Y:=c.Y) hi ho.1 ho.2 h) hs' (fun B a' w' hw hs2=>by
   cases hw with
   |done hk=>exact hK B a' w' hk.1 hk.2 hs2)
 simp only[aF] at hwp;rcases h4 with ⟨h5,h6⟩ | ⟨j,b,t,h5,h6,h7⟩
 ·rw[h6] at hwp;have hw:Region.wanted o (yielded b8 a.tmps)=true:=by simp[Region.wanted,h5]
  rw[hw,if_pos rfl];exact step hwp
 ·rw[h7] at hwp;simp only at hwp;split at hwp
  ·rename_i b' hb';rw[yu hs' h5 h6 hb'];split at hwp
   ·rename_i hbb;subst hbb;simp only[BEq.rfl,if_true];exact step hwp
   ·rename_i hbb;have:(b'==b)=false:=by simpa using hbb
    rw[this];simp only[zz6,if_false];exact ⟨fun f _=>pd c f,hK _ _ _ hwp (hi.put (fun _=>rfl) fun _ _ _ _=>rfl) (by rw[h2];exact hs'.qV h3)⟩
  ·rename_i hb';rw[yw hs' h5 h6 hb'];simp only[zz6,if_false];exact ⟨fun f _=>pd c f,hK _ _ _ hwp (hi.put (fun _=>rfl) fun _ _ _ _=>rfl) (by rw[h2];exact hs'.qV h3)⟩
  ·cases hwp
theorem SW{K:af→Prop}{fs:List FuncId}{ay:ft}{b8:Array Oper}{gs:List aE}{σ:List Nat}{Q:Exit→Act→World→Prop}(hQ:∀ B a w,K B→cD c B a w→Q .normal a w)(hgs:lA c.P c.n b8 b8.toList=some gs)(hd:Br fs ay b8.toList gs σ) :
  ∀ (fuel:Nat) (listed:Array Bool) (A:af) (a:Act) (w:World),listed.size=b8.size→(∀ i o,b8.toList[i]?=some o→listed.getD i false=true→∀ k∈eV o,listed.getD k false=true)→(jK σ listed).length≤fuel →
   fq ay A→cK c.P fs K (aF (pG gs σ listed) A)→cD c A a w→wpAnyIn c.bB 9 c.P .any b8 Q fuel listed a w:=by
 obtain ⟨hlen,hat⟩:=nX hgs;have onOf_mem:∀ (o:Oper) (e:Edge),e∈o.after→Region.binds .any e=true→e.on∈eV o:=fun o e he hb=>by
  simp only[eV,zw1,zu8];exact ⟨e,⟨by simpa using he,hb⟩,rfl⟩
 have of_onOf:∀ (o:Oper) (k:Nat),k∈eV o→∃ e∈o.after,Region.binds .any e=true∧e.on=k:=fun o k hk=>by
  simp only[eV,zw1,zu8] at hk;obtain ⟨e,⟨h1,h2⟩,h3⟩:=hk;exact ⟨e,by simpa using h1,h2,h3⟩
 have hgl:gs.length=b8.size:=by rw[hlen,zv2]
 have last:∀ (listed:Array Bool) (A:af) (a:Act) (w:World),listed.size=b8.size→Region.ready .any b8 listed=[]→cK c.P fs K (aF (pG gs σ listed) A)→cD c A a w→Q .normal a w:=by
  intro listed A a w hsz hr hwp hs;have hnone:jK σ listed=[]:=by
   have all:∀ n,∀ i,i<n→i<b8.size→listed.getD i true=true:=by
    intro n
    induction n with
    |zero=>intro i hi;omega
    |succ n ih =>
     intro i hi his;cases hb:listed.getD i true with
     |true=>rfl
     |false =>
      exfalso
      have ho:b8[i]?=some b8[i]:=Array.getElem?_eq_getElem his;have:i∈Region.ready .any b8 listed:=mem_ready.2 ⟨hb,b8[i],ho,fun e he hbd=>by
       have hlt:=hd.qe i b8[i] (by simp) e.on (onOf_mem _ e he hbd);have h1:=ih e.on (by omega) (by omega);have h2:e.on<listed.size:=by omega
       simpa[Array.getD_eq_getD_getElem?,h2] using h1⟩
      rw[hr] at this;cases this
   simp only[jK];refine List.filter_eq_nil_iff.2 fun i hi =>?_;have:=all (i+1) i (by omega) (by rw[←hgl];exact hd.lt i hi);simp only[this,Bool.not_true,zz6,not_false_eq_true]
  simp only[pG,hnone,zx1,aF] at hwp;cases hwp with
  |done hk=>exact hQ A a w hk hs
 intro fuel
 induction fuel with
 |zero =>
  intro listed A a w hsz hcl hcnt hinv hwp hs;have hnone:jK σ listed=[]:=zv9.1 (by omega);have hr:Region.ready .any b8 listed=[]:=by
   refine List.eq_nil_iff_forall_not_mem.2 fun i hi =>?_;obtain ⟨h1,o,ho,_⟩:=mem_ready.1 hi;have:i∈jK σ listed:=by
    simp only[jK,zu8,h1,Bool.not_false,and_true];exact hd.all i (by rw[hgl];exact (zx9.1 ho).1)
   rw[hnone] at this;cases this
  exact ⟨hr,last listed A a w hsz hr hwp hs⟩
 |succ fuel ih =>
  intro listed A a w hsz hcl hcnt hinv hwp hs;refine ⟨fun hr=>last listed A a w hsz hr hwp hs,fun i hi =>?_⟩;obtain ⟨hun,o,ho,hall⟩:=mem_ready.1 hi;have hin:i<b8.size:=(zx9.1 ho).1;obtain ⟨s1,s2,hσ,e1,e2⟩:=apb hd.anh (hd.all i (by omega)) (by omega) hun;have hol:b8.toList[i]?=some o:=by simpa using ho
  obtain ⟨g,hgi,hcg⟩:=hat i o hol;have hon:∀ k∈eV o,listed.getD k false=true:=fun k hk=>by
   obtain ⟨e,h1,h2,h3⟩:=of_onOf o k hk;exact h3▸hall e h1 h2
  have hgd:gs.getD i default=g:=by simp[zz0,hgi]
  have hwp':cK c.P fs K (aF (g::pG gs σ (listed.setIfInBounds i true)) A):=by
   simp only[pG,e1,zx4,zy2,hgd] at hwp;simp only[pG,e2,zx4];refine cK.rK hinv (fun j hj =>?_) hwp;obtain ⟨k,hk,rfl⟩:=zw1.1 hj;obtain ⟨hk1,hk2⟩:=zu8.1 hk;have:=hd.yE (fun k=>listed.getD k false=true) hcl s1 i s2 o hσ hol hon k hk1 (by
    have hks:k<listed.size:=by
     have:=hd.lt k (by rw[hσ];exact List.mem_append_left _ hk1);omega
    simp[Array.getD_eq_getD_getElem?,hks] at hk2 ⊢;exact hk2)
   rw[hgd] at this;refine ⟨this,(hd.ok _ ?_).2⟩;have hkl:=hd.lt k (by rw[hσ];exact List.mem_append_left _ hk1);rw[zz0,zy0 hkl];exact zx5 _
  unfold wpOpIn;rw[ho];refine akU hcg hinv (hd.ok g (List.mem_of_getElem? hgi)) hwp' hs fun B a' w' hw hiB hs'=>ih _ B a' w' (by simpa using hsz) ?_ ?_ hiB hw hs'
  ·intro m om hom hm k hk;by_cases hmi:m=i
   ·subst hmi;rw[hol,u8] at hom;subst hom;exact getD_set_true (hon k hk)
   ·rw[getD_set_ne false (Ne.symm hmi)] at hm;exact getD_set_true (hcl m om hom hm k hk)
  ·have:(jK σ listed).length=(jK σ (listed.setIfInBounds i true)).length+1:=by
    rw[e1,e2];simp;omega
   omega
def pD(σ:List Nat)(gs:List aE):List aE:=σ.map fun i=>gs.getD i default
theorem U.ao8{Q:Exit→af→Prop}{A:af}{on:List (List Nat)}{gs:List aE}(hs:List FuncId)(ay:ft)(cl σ:List Nat)(hd:u3 hs ay on gs cl σ=true)(hi:fq ay A)(h:∀ K:af→Prop,(∀ B,Q .normal B→K B)→cK c.P hs K (aF (pD σ gs) A)):U c (.bX (some on) gs) Q A:=by
 intro code hc a w hs';cases code <;>simp only[fF] at hc <;>try (first | (cases hc;done) | ((repeat' split at hc) <;>cases hc;done))
 rename_i id b8 draw;split at hc
 ·rename_i gs' hgs;split at hc
  case isFalse=>cases hc
  rename_i hok;simp only[u8,aR.bX.injEq] at hc;obtain ⟨he,rfl⟩:=hc;cases draw with
  |false=>cases he
  |true =>
   simp only[cond_true,u8] at he;subst he;simp only[Bool.not_true,Bool.false_or] at hok;have hp:=aoI (nX hgs).1 hd;refine wpIn_region_any hok (SW (K:=Q .normal) (fun B a w hk hs=>⟨B,hk,hs⟩) hgs hp b8.size (Array.replicate b8.size false) A a _ (by simp) ?_ ?_ hi ?_ ?_)
   ·intro i o _ h
    exfalso
    simp only[Array.getD_eq_getD_getElem?,Array.getElem?_replicate] at h;split at h <;>simp at h
   ·refine zu4 (zv5 _ _) ?_;rw[hp.len,(nX hgs).1,zv2];exact zz7 _
   ·have hall:jK σ (Array.replicate b8.size false)=σ:=by
     simp only[jK];refine List.filter_eq_self.2 fun i hi =>?_;have h1:=hp.lt i hi;rw[(nX hgs).1,zv2] at h1;simp[h1]
    simp only[pG,hall];exact h _ fun _ hb=>hb
   ·obtain ⟨D,E,hs'⟩:=hs';exact ⟨D,E,hs'.grow (w' := { w with drawn:=w.drawn+1 }) ⟨rfl,rfl,rfl,zz7 _,fun _ _=>rfl⟩ (fun _ _ h=>h) (fun _ _ h _=>h) (fun b o h=>hs'.dy b o h)⟩
 ·cases hc
def pt(ts:List (Nat×I)):ft→Prop
 | []=>True
 |(s,ns)::ay=>(cm ts s).only (fun n=>ns.contains n)=true∧pt ts ay
theorem fq.of{ts:List (Nat×I)}{os:List (Nat×ah)}{ay:ft}(h:pt ts ay):fq ay (aw ts os):=by
 intro s ns hn;simp only[aw]
 induction ay with
 |nil=>cases hn
 |cons q ay ih =>
  obtain ⟨s',ns'⟩:=q;simp only[pt] at h;simp only[j4,List.find?_cons] at hn;split at hn
  ·rename_i e;simp only[zy6,u8] at hn;simp only[beq_iff_eq] at e;subst e hn;exact h.1
  ·exact ih h.2 hn
end
end Go.Abs
namespace Go.Abs
open Go Go.RowKit
open Enc (enc)
theorem apy{P:Program}(w:World)(tS tR e:TypeId)(ht:P.underlying tS=some (.slice e))(size:Nat)(hz:∀ w,(Go.sizeOf e).run P w=.ok size w)
  (a b:Addr) (la ca lb cb:Nat) (hne:a.block≠b.block) (tA tB:TypeId) (uq kB:Nat) (hsa:w.shape? a.block=some (tA,uq+1)) (hsb:w.shape? b.block=some (tB,kB+1)) (hfb:w.frozen? b=false) (hfe:w.frozen? { block:=b.block,off:=kB+1 } = false) :
  (Extern.SlicesOverlaps.overlaps #[tS,tS] #[tR] #[.slice (some a) la ca,.slice (some b) lb cb]).run P w=.ok (.bool false) w:=by
 have hnb:(a.block != b.block)=true:=by simpa using hne
 have hnb':(a.block==b.block)=false:=by simpa using hne
 change Sem.run P (α:=Value) (do
  let some t := (#[tS, tS] : Array TypeId)[0]? | stuck "slices.overlaps: no parameter types"
  let .slice elem ← underlying t | stuck "slices.overlaps: slice type expected"
  let size ←sizeOf elem
  match (some a:Option Addr),(some b:Option Addr) with
  |some a,some b =>
   if la=0∨lb=0∨size=0 then pure (Value.bool false)
   else if a.block != b.block&&(←frozen a)&&(←frozen b) then unsupported .addressObserved
   else do
    if a.block != b.block then do
     noView a;noView b
     if ← mayBeOne a b then return Value.bool ((← choose (.extern "sameAddr.stringBytes" 2)) == 1)
    pure (Value.bool (a.block==b.block&&a.off<b.off+lb*size&&b.off<a.off+la*size))
  |_,_=>pure (Value.bool false)) w=_
 by_cases h0:la=0∨lb=0∨size=0
 ·simp[run_underlying ht,hz,h0]
 ·cases hfa:w.frozen? a <;>cases hfk:w.frozen? { block:=a.block,off:=uq+1 } <;>
   simp[run_underlying ht,hz,h0,hnb,hnb',frozen,noView,viewAt,mayBeOne,stringish,shape,Sem.run,hsa,hsb,hfa,hfb,hfe,hfk]
theorem Qh{P:Program}(w:World)(tS tR e:TypeId)(ht:P.underlying tS=some (.slice e))(size:Nat)(hz:∀ w,(Go.sizeOf e).run P w=.ok size w)(a:Option Addr)(b:Addr)(ca lb cb:Nat) :
  (Extern.SlicesOverlaps.overlaps #[tS,tS] #[tR] #[.slice a 0 ca,.slice (some b) lb cb]).run P w=.ok (.bool false) w:=by
 cases a with
 |none =>
  change Sem.run P (α:=Value) (do
   let some t := (#[tS, tS] : Array TypeId)[0]? | stuck "slices.overlaps: no parameter types"
   let .slice elem ← underlying t | stuck "slices.overlaps: slice type expected"
   let size ←sizeOf elem
   pure (Value.bool false)) w=_
  simp[run_underlying ht,hz]
 |some a =>
  change Sem.run P (α:=Value) (do
   let some t := (#[tS, tS] : Array TypeId)[0]? | stuck "slices.overlaps: no parameter types"
   let .slice elem ← underlying t | stuck "slices.overlaps: slice type expected"
   let size ←sizeOf elem
   if (0:Nat)=0∨lb=0∨size=0 then pure (Value.bool false)
   else if a.block != b.block&&(←frozen a)&&(←frozen b) then unsupported .addressObserved
   else do
    if a.block != b.block then do
     noView a;noView b
     if ← mayBeOne a b then return Value.bool ((← choose (.extern "sameAddr.stringBytes" 2)) == 1)
    pure (Value.bool (a.block==b.block&&a.off<b.off+lb*size&&b.off<a.off+0*size))) w=_
  simp[run_underlying ht,hz]
theorem apG{w:World}{b o:Nat}{v:Value}(h:w.cell? ⟨b,o,none⟩=some v):∃ t k,w.shape? b=some (t,k+1):=by
 simp only[World.cell?] at h;cases hb:w.heap[b]? with
 |none=>rw[hb] at h;cases h
 |some ob =>
  rw[hb] at h;cases ob with
  |cells cs T fr =>
   simp only at h;have hlt:o<cs.size:=(zx9.1 (by simpa using h)).1;exact ⟨T,cs.size-1,by simp only[World.shape?,hb];congr 2;omega⟩
  |_=>cases h
theorem aqC {P : Program} {f : FuncId} {fn : Func} {tS tR e : TypeId} (hf : P.funcs[f]? = some fn) (hname : (fn.name == "runtime.NumGoroutine") = false) (hb : fn.body.isNone = true) (hn : Extern.findNext fn = none) (he : Extern.find fn = some (Extern.SlicesOverlaps.overlaps #[tS, tS] #[tR]))
  (ht:P.underlying tS=some (.slice e)) (hi:(P.info? e).isSome=true) {A:af} {n sz sz' lo k:Nat} {p:List Nat} {y:I} {es fs:List I} (hA:A.o n=some (.box y)) (hat:y.at p=some (.agg fs)) (hy:y.size≠0) (hsz:sz'≠0):Bx P A f [.slice sz' es,.view n p sz lo k] (.bool false):=by
 intro c a w D E vs hP hs hargs;subst hP;obtain ⟨i,hi⟩:=zw2.1 hi;have hz:∀ w,(Go.sizeOf e).run c.P w=.ok i.size w:=fun w=>by simp[sizeOf,typeInfo,hi]
 cases hargs with
 |cons h1 hrest =>
  cases hrest with
  |cons h2 hnil =>
   cases hnil;rename_i v1 v2;refine ⟨.bool false,?_,oD false⟩;rw[run_callFunc_extern hf hname hb hn he];obtain ⟨ad,cap,rfl,c1,c2,c3,gf⟩:=nJ h1;obtain ⟨y',b,cs,T,off,d1,d2,d3,q1,q2,q3,q4,q5,q6,q7,q8,q9,q10,q11,q12,rfl⟩:=hs.view (fs:=fs) h2 (by simp only[cH,hA,hat]);rw[hA] at q1;simp only[u8,ah.box.injEq] at q1;subst q1;rcases c3 with rfl | ⟨b1,off1,cs1,rfl,r1,dK⟩
   ·rw[zv0,Qh w tS tR e ht i.size hz];rfl
   ·cases es with
    |nil=>rw[zv0,Qh w tS tR e ht i.size hz];rfl
    |cons e0 es =>
     have hl:=aL.length _ _ dK;have he0:=gf e0 (by simp);have hpos:0<cs1.length:=by rw[hl];simp only[I.sizes];omega
     have hc:=r1 0 cs1[0] (zy0 hpos);obtain ⟨tA,uq,hsa⟩:=apG hc.1;have ho:=hs.bQ n;rw[hA] at ho;obtain ⟨b',cs',T',k1,k2,k3,k4,k5⟩:=ho;rw[q2] at k1;simp only[u8,bZ.aC.injEq,and_true] at k1;subst k1;have hne:b1≠b:=fun e1=>k5 _ (e1▸hc.2);have hcs:cs.size≠0:=by
      have:=ai.length _ _ q9;rw[zv2] at this;omega
     obtain ⟨kB,hkB⟩:∃ kB,cs.size=kB+1:=⟨cs.size-1,by omega⟩
     rw[apy w tS tR e ht i.size hz ⟨b1,off1,none⟩ ⟨b,off+lo*sz,none⟩ _ _ _ _ hne tA T uq kB hsa (by simp only[World.shape?,q3,hkB]) (by simp[World.frozen?,q3]) (by simp[World.frozen?,q3])];rfl
noncomputable def wb(A:af)(d:Option Nat)(esz bytes:Nat)(z s:I)(rest:List aE):I→cP
 | .int _ m=>rI A d esz bytes z m.toNat s (eB A esz s) (aF rest)
 |_=>.fail
theorem ans(A:af)(d:Option Nat)(rest:List aE)(e esz bytes:Nat)(z:I)(s n:aM):bR A d (.kO e esz bytes z s n) rest=wb A d esz bytes z (ae A s) rest (ae A n):=by
 simp only[bR,bA];cases ae A n <;>rfl
theorem an3(A:af)(d:Option Nat)(rest:List aE)(f:FuncId)(args:List aM):bR A d (.jR f args) rest=.jR f (args.map (ae A)) d rest A:=rfl
def rM(A:af):I→Option I
 | .nils _ | .c0 _=>some (.int .i64 ((0:Nat):Int))
 | .view n p _ lo _=>match fO (fk p (A.o n)) with
  |some fs=>some (.int .i64 ((fs.length-lo:Nat):Int))
  |none=>none
 |_=>none
theorem MU(A:af)(d:Option Nat)(rest:List aE)(x:aM):bR A d (.cap x) rest=cX (rM A (ae A x)) (dq d rest A):=by
 simp only[bR,bA,bF];cases ae A x <;>try rfl
 rename_i n p sz l0 k;simp only[rM,mf,ib];cases fk p (A.o n) with
 |none=>rfl
 |some c=>cases c <;>rfl
theorem uS(A:af)(d:Option Nat)(rest:List aE)(esz:Nat)(x y:aM):bR A d (.jc esz x y) rest=o7 A d esz (aF rest) (ae A x) (eB A esz (ae A y)):=rfl
section
variable {α:Type} [Enc α] {P:Program} {Y:Value→List I→List (Nat×ah)→cO→Prop} {K:af→Prop} {A:af} {rest:List aE} {esz bytes:Nat}
theorem VX{n lo k sz:Nat}{xs:List α}(ho:A.o n=some (.box (.agg (xs.map enc)))):rM A (.view n [] sz lo k)=some (.int .i64 ((xs.length-lo:Nat):Int)):=by
 have h2:(I.agg (xs.map (enc (α:=α)))).at []=some (.agg (xs.map enc)):=rfl;simp only[rM,fk,ho,h2,fO,I.dD,zy1]
theorem nR{n lo k:Nat}{xs:List α}(ho:A.o n=some (.box (.agg (xs.map enc))))(h:lo+k≤xs.length):eB A esz (.view n [] esz lo k)=some (((xs.drop lo).take k).map enc):=by
 have h1:cH A (.ptr n [])=some (.agg (xs.map enc)):=by simp only[cH,ho];rfl
 simp only[eB,h1,zy1];rw[if_pos ⟨h,trivial⟩,List.map_take,List.map_drop]
theorem Aq{xs ys:List α}(h:xs.length=ys.length):I.cT (xs.map enc)=I.cT (ys.map enc):=by
 rw[sK,sK,h]
theorem tx{d:Option Nat}{n lo l c:Nat}{xs ys:List α}(ho:A.o n=some (.box (.agg (xs.map enc))))(hl:lo+l≤xs.length)(hc:min ys.length l=c) :
  o7 A d esz (aF rest) (.view n [] esz lo l) (some (ys.map enc))=aF rest ((A.aU n (.box (.agg ((xs.take lo++(ys.take c++xs.drop (lo+c))).map enc)))).aT d (.int .i64 (c:Nat))):=by
 have h2:(I.agg (xs.map (enc (α:=α)))).at []=some (.agg (xs.map enc)):=rfl;have h1:I.cT ((ys.map (enc (α:=α))).take c)=I.cT (((xs.map (enc (α:=α))).drop lo).take c):=by
  rw[←List.map_take,←List.map_drop,←List.map_take];exact Aq (by rw[zy4,zy4,zy8];omega)
 have hc':min (ys.map (enc (α:=α))).length l=c:=by rw[zy1];exact hc
 simp only[o7,ho,h2,hc'];rw[if_pos ⟨rfl,by rw[hc'];exact h1⟩];have h3:((ys.map (enc (α:=α))).take c).length=c:=by rw[zy4,zy1];omega
 simp only[iS,fT,h3,zx4,List.map_take,List.map_drop]
theorem bn.Tb{d:Nat}(z:α)(hs:Enc.sz α=esz){n l m:Nat}{xs:List α}(ho:A.o n=some (.box (.agg (xs.map enc))))(hl:l≤xs.length)(hm:0<m)(hr:xs.length<l+m)(hf:A.o d=none)(hb:(l+m)*bytes≤140737488355328)(hml:l+m≤maxLen)
  (h:∀ q,bn P Y false K (aF rest ((A.aU d (.box (.agg ((xs.take l++(List.replicate m z++List.replicate q z)).map enc)))).aT (some d) (.view d [] esz 0 (l+m))))):bn P Y false K (wb A (some d) esz bytes (enc z) (.view n [] esz 0 l) rest (.int .i64 (m:Nat))):=by
 have h1:=nR (A:=A) (esz:=esz) (lo:=0) (k:=l) ho (by omega);have h2:(I.agg (xs.map (enc (α:=α)))).at []=some (.agg (xs.map enc)):=rfl;have h4:(xs.take l).length=l:=by rw[zy4];omega
 simp only[wb,h1,List.drop_zero,rI,ho,h2,zy1,Int.toNat_natCast];rw[if_pos ⟨hm,by omega⟩];simp only[gJ,hf,zy1,h4,zv4];rw[if_pos ⟨hb,hml⟩];refine .any rfl fun q _ =>?_;have:=h q;simp only[zx4,List.map_replicate] at this;exact this
theorem BE{d:Option Nat}{e:Nat}(z:I)(hs:Enc.sz α=esz){n l:Nat}{xs ys:List α}(hy:ys≠[])(ho:A.o n=some (.box (.agg (xs.map enc))))(hr:l+ys.length≤xs.length) :
  gE A d e esz bytes z (enc ys) rest (.view n [] esz 0 l)=aF rest ((A.aU n (.box (.agg ((xs.take l++(ys++xs.drop (l+ys.length))).map enc)))).aT d (.view n [] esz 0 (l+ys.length))):=by
 have h1:=nR (A:=A) (esz:=esz) (lo:=0) (k:=l) ho (by omega);have h2:(I.agg (xs.map (enc (α:=α)))).at []=some (.agg (xs.map enc)):=rfl;have h3:I.cT (ys.map (enc (α:=α)))=I.cT (((xs.map (enc (α:=α))).drop l).take ys.length):=by
  rw[←List.map_drop,←List.map_take];exact Aq (by rw[zy4,zy8];omega)
 simp only[gE,h1,pR A esz ys hs,fu];rw[if_neg (by simpa using hy)];simp only[ho,h2,zy1,zz4];rw[if_pos hr,if_pos ⟨rfl,by rw[zy1,zz4];exact h3⟩];simp only[iS,fT,zy1,zx4,List.map_take,List.map_drop]
theorem bn.S0{d e:Nat}(z:α)(hs:Enc.sz α=esz){n l:Nat}{xs ys:List α}(hy:ys≠[])(ho:A.o n=some (.box (.agg (xs.map enc))))(hl:l≤xs.length)(hr:xs.length<l+ys.length)(hf:A.o d=none)(hb:(l+ys.length)*bytes≤140737488355328)(hml:l+ys.length≤maxLen)
  (h:∀ q,bn P Y false K (aF rest ((A.aU d (.box (.agg ((xs.take l++(ys++List.replicate q z)).map enc)))).aT (some d) (.view d [] esz 0 (l+ys.length))))):bn P Y false K (gE A (some d) e esz bytes (enc z) (enc ys) rest (.view n [] esz 0 l)):=by
 have h1:=nR (A:=A) (esz:=esz) (lo:=0) (k:=l) ho (by omega);have h2:(I.agg (xs.map (enc (α:=α)))).at []=some (.agg (xs.map enc)):=rfl;have h4:(xs.take l).length=l:=by rw[zy4];omega
 simp only[gE,h1,List.drop_zero,pR A esz ys hs,fu];rw[if_neg (by simpa using hy)];simp only[ho,h2,zy1,zz4];rw[if_neg (by omega)];simp only[gJ,hf,zy1,h4];rw[if_pos ⟨hb,hml⟩];refine .any rfl fun q _ =>?_;have:=h q;simp only[zx4,List.map_replicate] at this;exact this
theorem bn.S1{d e q0:Nat}(z:α){l:List α}(hs:Enc.sz α=esz)(hl:l≠[])(hf:A.o d=none)(hb:l.length*bytes≤140737488355328)(hml:l.length≤maxLen)
  (h:∀ m,bn P Y false K (aF rest ((A.aU d (.box (.agg ((l++List.replicate m z).map enc)))).aT (some d) (.view d [] esz 0 l.length)))):bn P Y false K (gE A (some d) e esz bytes (enc z) (enc l) rest (.nils q0)):=by
 have hne:l.map (enc (α:=α))≠[]:=by simpa using hl
 have h1:eB A esz (.nils q0)=some []:=rfl;simp only[gE,h1,pR A esz l hs,fu,if_neg hne,gJ,hf,zv0,zz4,zy1,if_pos (v6 hb hml),zy3];refine .any rfl fun m _ =>?_;have:=h m;simp only[zx4,List.map_replicate] at this;exact this
end
theorem Qv{n:Nat}{p:List Nat}{sz k total i:Nat}(h:i≤k)(hk:k≤total):∃ y,iL n p sz 0 k total (some (.int .i64 i)) none none=some y:=by
 simp only[iL,iN];rw[if_pos ⟨by omega,by omega,by omega⟩];split <;>exact ⟨_,rfl⟩
theorem Mu(k:Nat):cm [] k=.dx:=rfl
def iF(ay:List Nat):List (Nat×I)→List (Nat×I)
 | []=>[]
 |(s,v)::ts=>if ay.contains s=true then (s,v)::iF ay ts else iF ay ts
theorem amb(ay:List Nat):iF ay []=[]:=rfl
theorem ama(ay:List Nat)(s:Nat)(v:I)(ts:List (Nat×I)):iF ay ((s,v)::ts)=if ay.contains s=true then (s,v)::iF ay ts else iF ay ts:=rfl
theorem Mt(ay:List Nat)(t:Nat):∀ ts,cm (iF ay ts) t=.dx∨cm (iF ay ts) t=cm ts t
 | []=>.inl rfl
 |(s,v)::ts=>by
  simp only[iF];have ih:=Mt ay t ts;by_cases hs:ay.contains s=true
  ·rw[if_pos hs];simp only[cm];split
   ·exact .inr rfl
   ·exact ih
  ·rw[if_neg hs];simp only[cm];split
   ·rename_i e;subst e
    left
    have:∀ ts,cm (iF ay ts) t=.dx:=by
     intro ts
     induction ts with
     |nil=>rfl
     |cons q ts ih2 =>
      obtain ⟨s',v'⟩:=q;simp only[iF];split
      ·rename_i h';simp only[cm];have:t≠s':=fun e=>hs (e▸h');rw[if_neg this];exact ih2
      ·exact ih2
    exact this ts
   ·exact ih
theorem U.gu(ay:List Nat){c:c6}{x:aR}{Q:Exit→af→Prop}{ts:List (Nat×I)}{os:List (Nat×ah)}(h:U c x Q (aw (iF ay ts) os)):U c x Q (aw ts os):=by
 refine U.sub ?_ h;rintro cc a w ⟨D,E,hs⟩;refine ⟨D,E,hs.sz,hs.fj,fun t =>?_,hs.eh,hs.dh,hs.dy,hs.bQ,hs.da,hs.en,hs.fx,hs.cV,hs.fD,hs.gl⟩;simp only[aw];rcases Mt ay t ts with e | e
 ·rw[e];simp[a7]
 ·rw[e];exact hs.eH t
theorem yV:(∀ ay,iF ay []=[])∧(∀ ay s v ts,iF ay ((s,v)::ts)=if ay.contains s=true then (s,v)::iF ay ts else iF ay ts)∧(∀ (a:Nat) l b,(a::l).contains b=(b==a||l.contains b))∧(∀ b:Nat,([]:List Nat).contains b=false)∧(∀ b,(false||b)=b)∧(∀ b,(true||b)=true)∧(∀ b,(b||true)=true)∧(∀ b,(b||false)=b)∧((false=true)=False) :=
 ⟨amb,ama,fun _ _ _=>List.contains_cons,fun _=>rfl,fun _=>rfl,fun _=>rfl,fun b=>by cases b <;>rfl,fun b=>by cases b <;>rfl,by simp⟩
end Go.Abs
namespace Go.Abs
open Go Go.RowKit
open Enc (enc)
def za:Option ah→Option (List I×List I)
 |some (.cE ks vs)=>some (ks,vs)
 |_=>none
noncomputable def zi(A:af)(n:Nat)(rest:List aE):Option (List I×List I)→cP
 |some (ks,vs)=>aF rest (A.aU n (.cE ks vs))
 |none=>.fail
noncomputable def zh(A:af)(n:Nat)(ty:cW)(k v:I)(rest:List aE):Option ah→cP
 |some (.cE ks vs)=>zi A n rest (gO ty k v ks vs)
 |_=>.fail
noncomputable def zg(A:af)(ty:cW)(k v:I)(rest:List aE):I→cP
 | .mref n=>zh A n ty k v rest (A.o n)
 |_=>.fail
noncomputable def zf(A:af)(d:Nat)(rest:List aE):Option ah→cP
 |none=>aF rest ((A.aU d (.cE [] [])).put d (.mref d))
 |some _=>.fail
open Classical in
noncomputable def uL(A:af)(d bytes:Nat)(z:I)(rest:List aE):I→cP
 | .int _ n=>if 0≤n∧n.toNat*bytes≤281474976710656∧n.toNat≤maxLen then aF rest ((A.aU d (.box (.agg (List.replicate n.toNat z)))).put d (.view d [] 1 0 n.toNat)) else .fail
 |_=>.fail
noncomputable def uK(A:af)(d bytes:Nat)(z n:I)(rest:List aE):Option ah→cP
 |none=>uL A d bytes z rest n
 |some _=>.fail
noncomputable def Ab(A:af)(d:Nat)(rest:List aE):I→cP
 | .c7 ks vs=>aF rest ((A.aU d (.it ks vs (List.range ks.length) none)).put d (.dI d))
 |_=>.fail
noncomputable def vp(A:af)(d:Nat)(x:I)(rest:List aE):Option ah→cP
 |none=>Ab A d rest x
 |some _=>.fail
def xe:Option ah→Option I
 |some (.it ks vs _ cur)=>qq ks vs cur
 |_=>none
def xd(A:af):I→Option I
 | .dI n=>xe (A.o n)
 |_=>none
open Classical in
noncomputable def qO(A:af)(d:Option Nat)(n:Nat)(rest:List aE):Option ah→cP
 |some (.it ks vs left _)=>if left=[] then aF rest (A.aT d (.tuple [.bool false])) else
   .any (fun i=>i∈left) fun i=>match ks[i]?,vs[i]? with
    |some kk,some x=>aF rest ((A.aU n (.it ks vs (left.filter (· != i)) (some i))).aT d (.tuple [.bool true,kk,x]))
    |_,_=>.fail
 |_=>.fail
noncomputable def zm(A:af)(d:Option Nat)(rest:List aE):I→cP
 | .dI n=>qO A d n rest (A.o n)
 |_=>.fail
section
variable (d:Option Nat) (rest:List aE) (A:af)
theorem anT(x:aM):bR A d (.nilC x) rest=cX (nA (ae A x)) (dq d rest A):=rfl
theorem anX(neg:Bool)(x y:aM):bR A d (.ptrE neg x y) rest=cX (nE neg (jD (ae A x)) (jD (ae A y))) (dq d rest A):=rfl
theorem anN(ty:cW)(z:I)(ok:Bool)(m k:aM):bR A d (.lk ty z ok m k) rest=cX (sc ty z ok (ae A k) (gV A (ae A m))) (dq d rest A):=rfl
theorem amM(n:Nat):gV A (.mref n)=za (A.o n):=by
 simp only[gV];cases A.o n with
 |none=>rfl
 |some y=>cases y <;>rfl
theorem anR(ty:cW)(m k v:aM):bR A none (.ir ty m k v) rest=zg A ty (ae A k) (ae A v) rest (ae A m):=by
 simp only[bR,bA];cases ae A m <;>rfl
theorem anP(d:Nat):bR A (some d) .kz rest=zf A d rest (A.o d):=by
 simp only[bR,bA];cases A.o d <;>rfl
theorem anQ(d e bytes:Nat)(z:I)(n:aM):bR A (some d) (.kX e bytes z n) rest=uK A d bytes z (ae A n) rest (A.o d):=by
 simp only[bR,bA];cases A.o d with
 |some _=>rfl
 |none=>simp only[uK];cases ae A n <;>rfl
theorem anY(d:Nat)(x:aM):bR A (some d) (.ln x) rest=vp A d (ae A x) rest (A.o d):=by
 simp only[bR,bA];cases A.o d with
 |some _=>rfl
 |none=>simp only[vp];cases ae A x <;>rfl
theorem anC(x:aM):bR A d (.ent x) rest=cX (xd A (ae A x)) (dq d rest A):=by
 simp only[bR,bA,bF];cases ae A x <;>rfl
theorem anV(x:aM):bR A d (.j7 x) rest=zm A d rest (ae A x):=by
 simp only[bR,bA];cases ae A x <;>rfl
end
theorem eU :
  (∀ d rest A x,bR A d (.nilC x) rest=cX (nA (ae A x)) (dq d rest A))∧(∀ n p,nA (.ptr n p)=some (.ptr n p))∧(∀ x,nA (.ref x)=some (.ref x)) ∧
  (∀ d rest A neg x y,bR A d (.ptrE neg x y) rest=cX (nE neg (jD (ae A x)) (jD (ae A y))) (dq d rest A))∧(jD .nilp=some true)∧(∀ n p,jD (.ptr n p)=some false)∧(∀ x,jD (.ref x)=some false) ∧
  (nE false (some true) (some true)=some (.bool true))∧(nE false (some false) (some true)=some (.bool false))∧(nE true (some true) (some true)=some (.bool false))∧(nE true (some false) (some true)=some (.bool true)) ∧
  (∀ d rest A ty z ok m k,bR A d (.lk ty z ok m k) rest=cX (sc ty z ok (ae A k) (gV A (ae A m))) (dq d rest A))∧(∀ A n,gV A (.mref n)=za (A.o n))∧(∀ A ks vs,gV A (.c7 ks vs)=some (ks,vs))∧(∀ ks vs,za (some (.cE ks vs))=some (ks,vs)) ∧
  (∀ ty z ok k ks vs,sc ty z ok k (some (ks,vs))=sd ok (gN ty z k ks vs))∧(∀ v b,sd false (some (v,b))=some v)∧(∀ v b,sd true (some (v,b))=some (.tuple [v,.bool b])) ∧
  (∀ rest A ty m k v,bR A none (.ir ty m k v) rest=zg A ty (ae A k) (ae A v) rest (ae A m))∧(∀ A ty k v rest n,zg A ty k v rest (.mref n)=zh A n ty k v rest (A.o n))∧(∀ A n ty k v rest ks vs,zh A n ty k v rest (some (.cE ks vs))=zi A n rest (gO ty k v ks vs)) ∧
  (∀ A n rest ks vs,zi A n rest (some (ks,vs))=aF rest (A.aU n (.cE ks vs))) ∧
  (∀ rest A d,bR A (some d) .kz rest=zf A d rest (A.o d))∧(∀ A d rest,zf A d rest none=aF rest ((A.aU d (.cE [] [])).put d (.mref d))) ∧
  (∀ rest A d e bytes z n,bR A (some d) (.kX e bytes z n) rest=uK A d bytes z (ae A n) rest (A.o d))∧(∀ A d bytes z n rest,uK A d bytes z n rest none=uL A d bytes z rest n) ∧
  (∀ rest A d x,bR A (some d) (.ln x) rest=vp A d (ae A x) rest (A.o d))∧(∀ A d x rest,vp A d x rest none=Ab A d rest x)∧(∀ A d rest ks vs,Ab A d rest (.c7 ks vs)=aF rest ((A.aU d (.it ks vs (List.range ks.length) none)).put d (.dI d))) ∧
  (∀ d rest A x,bR A d (.ent x) rest=cX (xd A (ae A x)) (dq d rest A))∧(∀ A n,xd A (.dI n)=xe (A.o n))∧(∀ ks vs l cur,xe (some (.it ks vs l cur))=qq ks vs cur) ∧
  (∀ d rest A x,bR A d (.j7 x) rest=zm A d rest (ae A x))∧(∀ A d rest n,zm A d rest (.dI n)=qO A d n rest (A.o n)) :=
 ⟨anT,fun _ _=>rfl,fun _=>rfl,anX,rfl,fun _ _=>rfl,fun _=>rfl,rfl,rfl,rfl,rfl,anN,amM,fun _ _ _=>rfl,fun _ _=>rfl,fun _ _ _ _ _ _=>rfl,fun _ _=>rfl,fun _ _=>rfl,
  fun rest A ty m k v=>anR rest A ty m k v,fun _ _ _ _ _ _=>rfl,fun _ _ _ _ _ _ _ _=>rfl,fun _ _ _ _ _=>rfl,fun rest A d=>anP rest A d,fun _ _ _=>rfl,fun rest A d e bytes z n=>anQ rest A d e bytes z n,fun _ _ _ _ _ _=>rfl,
  fun rest A d x=>anY rest A d x,fun _ _ _ _=>rfl,fun _ _ _ _ _=>rfl,anC,fun _ _=>rfl,fun _ _ _ _=>rfl,anV,fun _ _ _ _=>rfl⟩
theorem dY:(∀ n p z lo k,cj none (.view n p z lo k)=true)∧(∀ n,cj none (.mref n)=true)∧(∀ n p,cj none (.ptr n p)=true)∧(∀ x,cj none (.ref x)=true)∧cj none .nilp=true∧cj none .dz=true∧cj none (.raw (.map none))=true∧(∀ ks vs,cj none (.c7 ks vs)=true)∧(∀ {α:Type} [Enc α] (l:List α),cj none (enc l)=true) :=
 ⟨fun _ _ _ _ _=>rfl,fun _=>rfl,fun _ _=>rfl,fun _=>rfl,rfl,rfl,rfl,fun _ _=>rfl,fun l=>by simp[nj,oa]⟩
theorem am1{A:af}{d bytes:Nat}{z:I}{rest:List aE}{n:Nat}(h1:n*bytes≤281474976710656)(h2:n≤maxLen):uL A d bytes z rest (.int .i64 n)=aF rest ((A.aU d (.box (.agg (List.replicate n z)))).put d (.view d [] 1 0 n)):=by
 simp only[uL,Int.toNat_natCast];rw[if_pos ⟨Int.natCast_nonneg n,h1,h2⟩]
section
variable {α:Type} [Enc α] [DecidableEq α] {ty:cW}
theorem xt(az:∀ x y:α,cw ty (enc x) (enc y)=some (decide (x=y)))(k:α):∀ (ks:List α) (i:Nat),fv ty (enc k) (ks.map enc) i=some ((ks.findIdx? fun x=>decide (k=x)).map (· + i))
 | [],i=>rfl
 |x::ks,i=>by
  simp only[zy2,fv,az,List.findIdx?_cons];by_cases h:k=x
  ·simp[h]
  ·simp only[h,decide_false,zz6,if_false];rw[xt az k ks (i+1)];cases ks.findIdx? fun x=>decide (k=x) with
   |none=>rfl
   |some j=>simp;omega
theorem yZ(az:∀ x y:α,cw ty (enc x) (enc y)=some (decide (x=y)))(z:I)(k:α)(ks:List α)(vs:List I) :
  gN ty z (enc k) (ks.map enc) vs=match ks.findIdx? fun x=>decide (k=x) with
   |some i=>(vs[i]?).map fun v=>(v,true)
   |none=>some (z,false):=by
 simp only[gN,az,Option.isSome_some,if_true,xt az];cases ks.findIdx? fun x=>decide (k=x) <;>rfl
theorem MK(az:∀ x y:α,cw ty (enc x) (enc y)=some (decide (x=y)))(k:α)(v:I)(hv:v.cq=true)(ks:List α)(vs:List I) :
  gO ty (enc k) v (ks.map enc) vs=match ks.findIdx? fun x=>decide (k=x) with
   |some i=>some (ks.map enc,vs.set i v)
   |none=>some ((ks++[k]).map enc,vs++[v]):=by
 simp only[gO,az,Option.isSome_some,hv,Mb (dL k),and_self,if_true,xt az];cases ks.findIdx? fun x=>decide (k=x) with
 |none=>simp
 |some i=>rfl
omit [Enc α] in
theorem Fq{k:α}{ks:List α} : (ks.findIdx? fun x=>decide (k=x)).isSome=decide (k∈ks):=by
 induction ks with
 |nil=>rfl
 |cons x ks ih =>
  simp only[List.findIdx?_cons,zx2];by_cases h:k=x
  ·simp[h]
  ·simp only[h,decide_false,zz6,if_false,Option.isSome_map,ih,false_or]
theorem amE(az:∀ x y:α,cw ty (enc x) (enc y)=some (decide (x=y)))(k:α)(ks:List α):gN ty (.bool false) (enc k) (ks.map enc) (List.replicate ks.length (.bool true))=some (.bool (decide (k∈ks)),decide (k∈ks)):=by
 rw[yZ az,←Fq];cases h:ks.findIdx? fun x=>decide (k=x) with
 |none=>rfl
 |some i =>
  have:=(zu0.1 h).1;simp[this]
def nT{α:Type}[DecidableEq α](ks:List α)(k:α):List α:=if k∈ks then ks else ks++[k]
omit [Enc α] in
theorem amV{ks:List α}{k x:α} : x∈nT ks k↔x=k∨x∈ks:=by
 unfold nT;split
 ·rename_i h;exact ⟨.inr,fun h2=>h2.elim (fun e=>e▸h) id⟩
 ·simp[or_comm]
theorem am8(az:∀ x y:α,cw ty (enc x) (enc y)=some (decide (x=y)))(k:α)(ks:List α):gO ty (enc k) (.bool true) (ks.map enc) (List.replicate ks.length (.bool true))=some ((nT ks k).map enc,List.replicate (nT ks k).length (.bool true)):=by
 rw[MK az k _ rfl];have hm:=Fq (k:=k) (ks:=ks);cases h:ks.findIdx? fun x=>decide (k=x) with
 |none =>
  rw[h] at hm;have:k∉ks:=by simpa using hm.symm
  simp only[nT,if_neg this]
  congr 2
  rw[zz2,zv3,List.replicate_succ']
 |some i =>
  rw[h] at hm;have:k∈ks:=by simpa using hm.symm
  simp only[nT,if_pos this]
  congr 2
  have:=(zu0.1 h).1;exact List.ext_getElem (by simp) fun j h1 h2=>by
   simp only[List.getElem_set,List.getElem_replicate];split <;>rfl
end
section
variable {α:Type} [Enc α]
theorem wg{xs:List α}{i:Nat}(d:α)(h:i<xs.length):fU i [] (some (xs.map enc))=some (enc (xs.getD i d)):=by
 simp[fU,qd,h,I.at,zz0]
theorem QJ{A:af}{n i:Nat}{xs:List α}(v u:α){rest:List aE}(hA:Enc.gM α=false)(h:i<xs.length):dT A none n [i] (.agg (xs.map enc)) (enc v) rest (some (enc u))=aF rest (A.aU n (.box (.agg ((xs.set i v).map enc)))):=by
 rw[eG (du v) (by rw[nj,hA];rfl) ((eT v).trans (eT u).symm)];have h2:(xs.map (enc (α:=α)))[i]?=some (enc (xs[i])):=by simp[h]
 simp only[I.dS,h2,List.map_set]
end
theorem ap6{A:af}{n i:Nat}{xs:List Bool}(h:i<xs.length)(v u:Bool)(rest:List aE):dT A none n [i] (.agg (xs.map enc)) (.bool v) rest (some (.bool u))=aF rest (A.aU n (.box (.agg ((xs.set i v).map enc)))):=QJ v u rfl h
theorem mV{A:af}{n i:Nat}{xs:List Int}(h:i<xs.length)(v u:Int)(rest:List aE):dT A none n [i] (.agg (xs.map enc)) (.int .i64 v) rest (some (.int .i64 u))=aF rest (A.aU n (.box (.agg ((xs.set i v).map enc)))):=QJ v u rfl h
theorem BK{xs:List Bool}{i:Nat}(h:i<xs.length):fU i [] (some (xs.map enc))=some (.bool (xs.getD i false)):=wg false h
theorem fV{xs:List Int}{i:Nat}(h:i<xs.length):fU i [] (some (xs.map enc))=some (.int .i64 (xs.getD i 0)):=wg 0 h
theorem uo{m sz lo l i:Nat}{fs:List I}(h:i<l):lK m [] sz lo l sz (i:Int) (some fs)=some (.ptr m [lo+i]):=by rw[yR h];rfl
theorem ab5{α:Type}[Enc α]{A:af}{m n sz k:Nat}{xs:List α}(ho:A.o n=some (.box (.agg (xs.map enc))))(hs:Enc.sz α=sz)(hk:k=xs.length):ev A (m+1) (.view n [] sz 0 k)=some (enc xs):=by
 subst hk hs;have h1:cH A (.ptr n [])=some (.agg (xs.map enc)):=by simp only[cH,ho];rfl
 simp only[ev,I.bJ,zz6,if_false,h1];have h2:((xs.map (enc (α:=α))).drop 0).take xs.length=xs.map enc:=by rw[List.drop_zero,zv6 (by simp)]
 rw[h2,if_pos (lB xs),gT]
theorem gK:(∀ {α:Type} [Enc α] (x:α),(enc x).bJ=true)∧(∀ n p z lo k,(I.view n p z lo k).bJ=false)∧(∀ n,(I.mref n).bJ=false)∧(∀ n p,(I.ptr n p).bJ=false)∧(∀ n k,(I.own n k).bJ=false) :=
 ⟨@dL,fun _ _ _ _ _=>rfl,fun _=>rfl,fun _ _=>rfl,fun _ _=>rfl⟩
end Go.Abs
namespace Go.Abs
open Go Go.RowKit
open Enc (enc)
theorem aB.SQ{A:af}{d n T z:Nat}(hd:A.t d=.nils z)(hn:A.o n=none)(hlt:n<1000000):aB A ((A.aU n (.c4 T [])).put d (.own n 0)):=by
 rintro c a w ⟨D,E,h⟩;have az:E n=none:=by have:=h.bQ n;rw[hn] at this;exact this
 have hl:ec w D E w D (fun m=>if m=n then some (.rw none 0) else E m):=by
  have eK:∀ {m:Nat} {e:bZ},E m=some e→(if m=n then some (.rw none 0) else E m)=some e:=fun {m e} he=>by
   have:m≠n:=fun e=>by rw[e,az] at he;cases he
   rw[if_neg this];exact he
  refine ⟨fun _ _ h=>h,fun _ _ _ _ h=>h,fun m b aV he=>eK he,fun m aG l he =>?_,fun m b he=>eK he,fun m b he=>eK he,fun _ _ _ _ h=>h⟩
  ·have:m≠n:=fun e=>by rw[e,az] at he;cases he
   exact ⟨aG,l,by simp only[if_neg this];exact he,zz7 _,fun _=>rfl⟩
 refine ⟨D,fun m=>if m=n then some (.rw none 0) else E m,h.sz,h.fj,fun t =>?_,h.eh,h.dh,h.dy,fun m =>?_,fun m m' e e' b h1 h2 h3 h4 =>?_,fun m e hm =>?_,h.fx,h.cV,h.fD,h.gl⟩
 ·simp only[af.put,af.aU];by_cases ht:t=d
  ·subst ht;simp only[if_true];have hv:=h.eH t;rw[hd] at hv;obtain ⟨cs,q1,q2⟩:=hv;simp only[ai] at q2;subst q2;refine ⟨[.slice none 0 0],by simpa[bN,I.isAgg] using q1,?_⟩;simp only[ai,if_true];exact ⟨none,0,rfl,zz7 _,⟨_,_,_,rfl⟩,fun _=>trivial⟩
  ·simp only[if_neg ht];exact a7.bO hl (h.eH t)
 ·simp only[af.put,af.aU];by_cases hm:m=n
  ·subst hm;simp only[if_true,df];exact ⟨none,by simp,by simp,trivial⟩
  ·simp only[if_neg hm];exact (h.bQ m).bO hl (by simp only[if_neg hm]) fun _ _ _ _=>⟨rfl,fun _ ho=>ho⟩
 ·by_cases hm:m=n <;>by_cases hm':m'=n
  ·rw[hm,hm']
  ·simp only[if_pos hm,u8] at h1;subst h1;simp[bZ.aG] at h3
  ·simp only[if_pos hm',u8] at h2;subst h2;simp[bZ.aG] at h4
  ·simp only[if_neg hm] at h1;simp only[if_neg hm'] at h2;exact h.da m m' e e' b h1 h2 h3 h4
 ·have hmn:m≠n:=fun e=>by rw[e,h.kS (.inr hlt)] at hm;cases hm
  simp only[if_neg hmn];exact h.en m e hm
theorem aB.vZ{ts:List (Nat×I)}{os:List (Nat×ah)}(d n T z:Nat)(hd:cm ts d=.nils z)(hn:ao os n=none){B:af}(h:aB (aw ((d,.own n 0)::ts) ((n,.c4 T [])::os)) B)(hlt:n<1000000:=by decide):aB (aw ts os) B :=
 ((aB.SQ (A:=aw ts os) (T:=T) hd hn hlt).trans (by rw[py,uH];exact aB.refl _)).trans h
theorem aB.SR{A:af}{m n T z:Nat}{p:List Nat}{b:I}(hm:A.o m=some (.box b))(hp:b.at p=some (.nils z))(hn:A.o n=none)(hlt:n<1000000):aB A ((A.aU n (.c4 T [])).aU m (.box (b.dS p (.own n 0)))):=by
 rintro c a w ⟨D,E,h⟩;have az:E n=none:=by have:=h.bQ n;rw[hn] at this;exact this
 have hmn:m≠n:=fun e=>by rw[e,hn] at hm;cases hm
 have hl:ec w D E w D (fun m=>if m=n then some (.rw none 0) else E m):=by
  have eK:∀ {m:Nat} {e:bZ},E m=some e→(if m=n then some (.rw none 0) else E m)=some e:=fun {m e} he=>by
   have:m≠n:=fun e=>by rw[e,az] at he;cases he
   rw[if_neg this];exact he
  refine ⟨fun _ _ h=>h,fun _ _ _ _ h=>h,fun m b aV he=>eK he,fun m aG l he =>?_,fun m b he=>eK he,fun m b he=>eK he,fun _ _ _ _ h=>h⟩
  ·have:m≠n:=fun e=>by rw[e,az] at he;cases he
   exact ⟨aG,l,by simp only[if_neg this];exact he,zz7 _,fun _=>rfl⟩
 refine ⟨D,fun m=>if m=n then some (.rw none 0) else E m,h.sz,h.fj,fun t=>a7.bO hl (h.eH t),h.eh,h.dh,h.dy,fun k =>?_,fun m m' e e' b h1 h2 h3 h4 =>?_,fun m e hm =>?_,h.fx,h.cV,h.fD,h.gl⟩
 ·simp only[af.aU];by_cases hk:k=m
  ·subst hk;have ho:=h.bQ k;rw[hm] at ho;obtain ⟨b',cs,T',h1,h2,h3,h4,h5⟩:=ho;obtain ⟨q1,q2⟩:=PT (y:=.own n 0) (ai.bO hl _ _ h4) hp (fun ds hd=>by
    simp only[ai] at hd;subst hd;simp only[ai,if_true];exact ⟨none,0,rfl,zz7 _,⟨_,_,_,rfl⟩,fun _=>trivial⟩) rfl
   simp only[if_true,df];exact ⟨b',cs,T',by rw[q2];simp only[if_neg hmn];exact h1,h2,h3,q1,h5⟩
  ·simp only[if_neg hk];by_cases hkn:k=n
   ·subst hkn;simp only[if_true,df];exact ⟨none,by simp,by simp,trivial⟩
   ·simp only[if_neg hkn];exact (h.bQ k).bO hl (by simp only[if_neg hkn]) fun _ _ _ _=>⟨rfl,fun _ ho=>ho⟩
 ·by_cases hm:m=n <;>by_cases hm':m'=n
  ·rw[hm,hm']
  ·simp only[if_pos hm,u8] at h1;subst h1;simp[bZ.aG] at h3
  ·simp only[if_pos hm',u8] at h2;subst h2;simp[bZ.aG] at h4
  ·simp only[if_neg hm] at h1;simp only[if_neg hm'] at h2;exact h.da m m' e e' b h1 h2 h3 h4
 ·have hmn:m≠n:=fun e=>by rw[e,h.kS (.inr hlt)] at hm;cases hm
  simp only[if_neg hmn];exact h.en m e hm
theorem aB.SS{ts:List (Nat×I)}{os:List (Nat×ah)}(m n T z:Nat)(p:List Nat)(b:I)(hm:ao os m=some (.box b))(hp:b.at p=some (.nils z))(hn:ao os n=none){B:af}(h:aB (aw ts ((m,.box (b.dS p (.own n 0)))::(n,.c4 T [])::os)) B)(hlt:n<1000000:=by decide):aB (aw ts os) B :=
 ((aB.SR (A:=aw ts os) (T:=T) hm hp hn hlt).trans (by rw[py,py];exact aB.refl _)).trans h
theorem tk{A:af}{d:Option Nat}{e bytes n l:Nat}{xs:List Int}{y:Int}{rest:List aE}(hl:l=xs.length)(h1:xs.length+1≤maxLen)(h2:(xs.length+1)*bytes≤140737488355328) :
  qa A d e 1 bytes (.int .i64 0) n l e xs rest (enc [y])=aF rest ((A.aU n (.c4 e (xs++[y]))).aT d (.own n (xs.length+1))):=by
 show qa A d e 1 bytes (.int .i64 0) n l e xs rest (.slice 1 [.int .i64 y])=_
 simp only[qa];rw[if_pos ⟨hl,rfl,rfl,rfl,rfl,by simp,h1,h2⟩];rfl
def fB(n k:Nat):I→I
 | .own n' k'=>if n'=n∧k'=k then .view n [] 1 0 k else .own n' k'
 |v=>v
def gm(n:Nat):I→I
 | .own n' k'=>if n'=n∧k'=0 then .nils 1 else .own n' k'
 |v=>v
def iW(f:I→I):ah→ah
 | .box v=>.box (f v)
 |y=>y
def lM(n k:Nat)(v:I):Prop:=v=.own n k∨v.only (fun j=>j != n)=true
def aol(n k:Nat)(y:ah):Prop:=y=.box (.own n k)∨y.only (fun j=>j != n)=true
theorem rr{n k:Nat}{v:I}(h:v.only (fun j=>j != n)=true):fB n k v=v:=by
 cases v <;>try rfl
 rename_i n' k';simp only[I.only,bne_iff_ne,ne_eq] at h;simp only[fB,h,false_and,if_false]
theorem AD{n:Nat}{v:I}(h:v.only (fun j=>j != n)=true):gm n v=v:=by
 cases v <;>try rfl
 rename_i n' k';simp only[I.only,bne_iff_ne,ne_eq] at h;simp only[gm,h,false_and,if_false]
theorem oy(f:I→I)(hf:f .dx=.dx)(ts:List (Nat×I))(t:Nat):cm (ts.map fun q=>(q.1,f q.2)) t=f (cm ts t):=by
 induction ts with
 |nil=>exact hf.symm
 |cons q ts ih =>
  obtain ⟨k,v⟩:=q;simp only[zy2,cm];split
  ·rfl
  ·exact ih
theorem sh(f:ah→ah)(os:List (Nat×ah))(t:Nat):ao (os.map fun q=>(q.1,f q.2)) t=(ao os t).map f:=by
 induction os with
 |nil=>rfl
 |cons q os ih =>
  obtain ⟨k,v⟩:=q;simp only[zy2,ao];split
  ·rfl
  ·exact ih
theorem df.dM{M:Nat→Prop}{w:World}{D:aW}{E E':a8}{p:Nat→Bool}(hp:∀ n,p n=true→E' n=E n){m:Nat}(az:E' m=E m){y:ah}(hon:y.only p=true)(ho:df M w D E m (some y)):df M w D E' m (some y):=by
 cases y with
 |box x =>
  obtain ⟨b,cs,T,k1,k2,k3,k4,k5⟩:=ho;exact ⟨b,cs,T,az.trans k1,k2,k3,ai.dM hp _ _ (by simpa[ah.only] using hon) k4,k5⟩
 |b9 T sz es =>
  obtain ⟨aG,k1,k2,k3⟩:=ho;refine ⟨aG,az.trans k1,k2,?_⟩;cases aG with
  |none=>exact k3
  |some bc =>
   obtain ⟨b,cap⟩:=bc;obtain ⟨cs,pre,rest,q1,q2,q3,q4,q5⟩:=k3;exact ⟨cs,pre,rest,q1,q2,q3,aL.dM hp _ _ (by simpa[ah.only] using hon) q4,q5⟩
 |c4 T xs =>
  obtain ⟨aG,k1,k2,k3⟩:=ho;exact ⟨aG,az.trans k1,k2,k3⟩
 |dZ x =>
  obtain ⟨b,k1,k2⟩:=ho;exact ⟨b,az.trans k1,k2⟩
 |cE ks vs =>
  obtain ⟨b,es,ck,k1,k2,k3,k4,k5,k6,k7⟩:=ho;simp only[ah.only,zz3] at hon;exact ⟨b,es,ck,az.trans k1,k2,k3,k4,aK.dM hp _ _ hon.1 k5,aK.dM hp _ _ hon.2 k6,k7⟩
 |it ks vs left cur =>
  obtain ⟨r,b,es,ck,si,se,la,k1,k2,k3,k4,k5,k6,k7⟩:=ho;simp only[ah.only,zz3] at hon;exact ⟨r,b,es,ck,si,se,la,az.trans k1,k2,k3,k4,aK.dM hp _ _ hon.1 k5,aK.dM hp _ _ hon.2 k6,k7⟩
theorem rf(xs:List Int):(I.agg (xs.map enc)).aV=.ez (List.replicate xs.length .one):=by
 show c5.ez (I.cT _)=_
 congr 1
 induction xs with
 |nil=>rfl
 |cons x xs ih=>simp only[zy2,I.cT,ih,zu5,List.replicate_succ];rfl
theorem qY{w:World}{D:aW}{E:a8} : ∀ {xs:List Int},(∀ x∈xs,IntKind.i64.min≤x∧x≤IntKind.i64.max)→aL w D E (xs.map enc) (xs.map (Value.int .i64))
 | [],_=>rfl
 |x::xs,h=>⟨[.int .i64 x],xs.map (Value.int .i64),rfl,⟨rfl,h x (by simp)⟩,qY fun y hy=>h y (by simp[hy])⟩
theorem aB.QZ{ts:List (Nat×I)}{os:List (Nat×ah)}{n T:Nat}{B:af}(hn:ao os n=some (.c4 T []))
  (h:aB (aw (ts.map fun q=>(q.1,gm n q.2)) (os.map fun q=>(q.1,iW (gm n) q.2))) B):aB (aw ts os) B:=by
 refine aB.trans ?_ h;rintro c a w ⟨D,E,hs⟩;obtain ⟨aG,az,-,hblk⟩:=hs.sN (n:=n) (T:=T) (xs:=[]) hn;have hnone:aG=none:=by
  cases aG with
  |none=>rfl
  |some bc=>obtain ⟨b,cap⟩:=bc;obtain ⟨_,_,_,_,_,h,_⟩:=hblk;exact absurd rfl h
 subst hnone;have conv:∀ (v:I) (cs:List Value),ai w D E v cs→ai w D E (gm n v) cs:=fun v cs hr=>by
  cases v <;>try exact hr
  rename_i n' k';simp only[gm];split
  ·rename_i hh;obtain ⟨rfl,rfl⟩:=hh;obtain ⟨blk',l,q3,q4,q5,q6⟩:=hr;rw[az] at q3;simp only[u8,bZ.rw.injEq,zv0] at q3;obtain ⟨rfl,rfl⟩:=q3;exact q6 rfl
  ·exact hr
 refine ⟨D,E,hs.sz,hs.fj,fun t =>?_,hs.eh,hs.dh,hs.dy,fun m =>?_,hs.da,hs.en,hs.fx,hs.cV,hs.fD,hs.gl⟩
 ·show a7 w D E (cm _ t) _
  rw[oy _ rfl];have:=hs.eH t;simp only[aw] at this;revert this;generalize cm ts t=v;intro hv;cases v <;>try exact hv
  rename_i n' k';obtain ⟨cs,q1,q2⟩:=hv;have:=conv _ _ q2
  revert this;simp only[gm];split
  ·intro this;exact ⟨cs,q1,this⟩
  ·intro this;exact ⟨cs,q1,this⟩
 ·show df _ w D E m (ao _ m)
  rw[sh];have:=hs.bQ m;simp only[aw] at this;revert this;cases ao os m with
  |none=>exact id
  |some y =>
   cases y <;>try exact id
   rename_i x;rintro ⟨b,cs,T,k1,k2,k3,k4,k5⟩;refine ⟨b,cs,T,?_,k2,k3,conv _ _ k4,k5⟩;rw[k1];have:(gm n x).aV=x.aV:=by
    cases x <;>try rfl
    simp only[gm];split <;>rfl
   rw[this]
theorem U.AI{c:c6}{x:aR}{Q:Exit→af→Prop}{ts:List (Nat×I)}{os:List (Nat×ah)}{n T:Nat}{xs:List Int}(hn:ao os n=some (.c4 T xs))(hne:xs≠[])(hlt:n<1000000)
  (ht:∀ t,lM n xs.length (cm ts t)) (ho:∀ m y,ao os m=some y→m≠n→aol n xs.length y)
  (h:∀ q:Nat,U c x Q (aw (ts.map fun p=>(p.1,fB n xs.length p.2)) ((n,.box (.agg ((xs++List.replicate q 0).map enc)))::os.map fun p=>(p.1,iW (fB n xs.length) p.2)))):U c x Q (aw ts os):=by
 rintro code hc a w ⟨D,E,hs⟩;obtain ⟨aG,az,hr,hblk⟩:=hs.sN (n:=n) hn;cases aG with
 |none=>exact absurd hblk hne
 |some bc =>
 obtain ⟨b,cap⟩:=bc;obtain ⟨cs,q,hM,hb,hcs,-,hcap,hmax,hD⟩:=hblk;have hp:∀ j,(fun j=>j != n) j=true→(fun j=>if j=n then some (bZ.aC b (.ez (List.replicate (xs.length+q) .one))) else E j) j=E j:=fun j hj=>by
  have:j≠n:=by simpa using hj
  simp only[if_neg this]
 have conv:∀ cs0,ai w D E (.own n xs.length) cs0→ai w D (fun j=>if j=n then some (bZ.aC b (.ez (List.replicate (xs.length+q) .one))) else E j) (.view n [] 1 0 xs.length) cs0:=fun cs0 hr=>by
  obtain ⟨blk',l,q3,q4,q5,q6⟩:=hr;rw[az] at q3;simp only[u8,bZ.rw.injEq] at q3;obtain ⟨rfl,rfl⟩:=q3;have:=q6 rfl;refine ⟨b,_,0,List.replicate (xs.length+q) .one,if_pos rfl,rfl,rfl,?_,by rw[zv4];omega,by rw[zv4];omega,fun s hs =>?_⟩
  ·rw[this,zv4];simp only[Nat.zero_mul,Nat.add_zero,Nat.sub_zero,hcap]
  ·rw[List.eq_of_mem_replicate hs];rfl
 refine h q code hc a w ⟨D,fun j=>if j=n then some (.aC b (.ez (List.replicate (xs.length+q) .one))) else E j,hs.sz,hs.fj,fun t =>?_,hs.eh,hs.dh,hs.dy,fun m =>?_,fun m m' e e' b1 h1 h2 h3 h4 =>?_,fun m e hm =>?_,hs.fx,hs.cV,hs.fD,hs.gl⟩
 ·show a7 w D _ (cm _ t) _
  rw[oy _ rfl];have hv:=hs.eH t;simp only[aw] at hv;rcases ht t with h1 | h1
  ·rw[h1] at hv ⊢;simp only[fB,and_self,if_true];obtain ⟨cs0,q1,q2⟩:=hv;exact ⟨cs0,q1,conv _ q2⟩
  ·rw[rr h1];exact a7.dM hp h1 hv
 ·show df _ w D _ m (ao _ m)
  simp only[ao];by_cases hm:m=n
  ·subst hm;simp only[if_true];refine ⟨b,cs,T,?_,hM,hb,?_,hD⟩
   ·simp only[if_true];rw[rf,zz2,zv4]
   ·show aL w D _ _ _
    rw[hcs];refine qY fun y hy =>?_;rcases zy5.1 hy with hy | hy
    ·exact hr y hy
    ·rw[List.eq_of_mem_replicate hy];decide
  ·simp only[if_neg hm];rw[sh];have hob:=hs.bQ m;simp only[aw] at hob;cases hy:ao os m with
   |none=>rw[hy] at hob;simp only[df,zw5] at hob ⊢;rw[if_neg hm];exact hob
   |some y =>
    rw[hy] at hob;rcases ho m y hy hm with rfl | h1
    ·obtain ⟨b1,cs1,T1,k1,k2,k3,k4,k5⟩:=hob;refine ⟨b1,cs1,T1,?_,k2,k3,?_,k5⟩
     ·simp only[if_neg hm];rw[k1];simp only[fB,and_self,if_true];rfl
     ·simp only[fB,and_self,if_true];exact conv _ k4
    ·have e:iW (fB n xs.length) y=y:=by
      cases y <;>try rfl
      simp only[ah.only] at h1;simp only[iW,rr h1]
     simp only[zy6,e];exact hob.dM hp (if_neg hm) h1
 ·have cut:∀ m e,(if m=n then some (bZ.aC b (.ez (List.replicate (xs.length+q) .one))) else E m)=some e→∃ e2,E m=some e2∧e2.aG=e.aG:=fun m e he=>by
   by_cases hm:m=n
   ·subst hm;rw[if_pos rfl] at he;cases he;exact ⟨_,az,rfl⟩
   ·rw[if_neg hm] at he;exact ⟨e,he,rfl⟩
  obtain ⟨e2,k1,k2⟩:=cut m e h1;obtain ⟨e3,k3,k4⟩:=cut m' e' h2;exact hs.da m m' e2 e3 b1 k1 k3 (k2.trans h3) (k4.trans h4)
 ·have hmn:m≠n:=fun e=>by rw[e,hs.kS (.inr hlt)] at hm;cases hm
  simp only[if_neg hmn];exact hs.en m e hm
def yU:Option Nat→Code
 |none=>.ret
 |some id=>.exit id
def Fb:Option Nat→Exit
 |none=>.ret
 |some id=>.exit id
def rA(o:Obj)(A:af)(os:List (Nat×ah)):Prop:=∀ n x,ao (dw o os) n=some x→A.o n=some x∧x.only (aq (dw o os))=true∧x.eZ=true
def apt(o:Obj)(In:List (Nat×ah)→Prop)(Ix:Option Nat→List (Nat×ah)→Prop):Exit→af→Prop
 | .normal,A=>∃ os,rA o A os∧In os
 | .ret,A=>∃ os,rA o A os∧Ix none os
 | .exit id,A=>∃ os,rA o A os∧Ix (some id) os
 |_,_=>False
def SB(P:Program)(nn:Nat)(x y:aR)(ps:List Nat)(tsR:List (Nat×I))(N:Nat)(item:Nat→List I)(aj:Nat→List (Nat×ah)→Prop)(Ix:Option Nat→List (Nat×ah)→Prop):Prop :=
 ∀ k osb,k<N→aj k osb→∀ (w:World) (D:aW) (E:a8) (l:Nat) (o1 o2:Obj),
  U ⟨P,w,D,nn,dJ E,E,jk,some l⟩ x (au (fun B=>B.o 1999999=some (.dZ o1)∧U ⟨P,w,D,nn,dJ E,E,jk,some l⟩ y (apt o2 (aj (k+1)) Ix) (B.aU 1999999 (.dZ o2))) (fun _ _=>False)) (aw (qX ps (item k) tsR) (dw o1 osb))
section
variable {c:c6} {Q:Exit→af→Prop}
theorem alM{o:Obj}{A:af}{os:List (Nat×ah)}(h:rA o A os)(o':Obj):∀ n x,ao (dw o' os) n=some x→(A.aU 1999999 (.dZ o')).o n=some x∧x.only (aq (dw o' os))=true∧x.eZ=true:=fun n x hx=>by
 have e:aq (dw o' os)=aq (dw o os):=by funext m;rw[mB,mB]
 rw[e];by_cases hn:n=1999999
 ·subst hn;rw[qH,if_pos rfl,u8] at hx;subst hx;exact ⟨by simp[af.aU],rfl,rfl⟩
 ·rw[qH,if_neg hn] at hx;obtain ⟨h1,h2⟩:=h n x (by rw[qH,if_neg hn];exact hx);exact ⟨by simp only[af.aU,if_neg hn];exact h1,h2⟩
theorem U.kF{f:aM}{ps:List Nat}{x y:aR}{ts tsR:List (Nat×I)}{os0 osb0:List (Nat×ah)}{ρ:List (Nat×Nat)}{g:FuncId}{caps:List I}{N:Nat}{item:Nat→List I}
  (aj:Nat→List (Nat×ah)→Prop) (Ix:Option Nat→List (Nat×ah)→Prop) (hr:c.lj=none) (hn6:c.n≤1000000)
  (hf:ae (aw ts os0) f=.func g caps) (hcl:I.cg caps=true) (hcb:iC c.P g=true) (hit:vV c.P g caps N item) (hlen:∀ k,(item k).length=ps.length)
  (hfree:ao os0 999999=none) (h19:aq osb0 1999999=false) (hρ:bD ρ 1999999=999999)
  (hgv:∀ o,fK ρ (dw o osb0) ((999999,.dZ o)::os0)) (hts:mU ρ (aq osb0) ts tsR)
  (hI:∀ k os,aj k os→fJ osb0 os) (hIx:∀ e os,Ix e os→fJ osb0 os) (h0:aj 0 osb0)
  (hround:SB c.P c.n x y ps tsR N item aj Ix)
  (hdone:∀ os,aj N os→Q .normal (aw ts (dB ρ os++os0))) (hexit:∀ e os,Ix e os→Q (Fb e) (aw ts (dB ρ os++os0))) :
  U c (.kF f ps x y) Q (aw ts os0):=by
 intro code hc a w hs;cases code <;>simp only[fF] at hc <;>try (first | (cases hc;done) | ((repeat' split at hc) <;>cases hc;done))
 rename_i cf cps cx cy;split at hc
 case h_2=>cases hc
 rename_i f' x' y' hcf hcx hcy;split at hc
 case isFalse=>cases hc
 rename_i hpn;simp only[u8,aR.kF.injEq] at hc;obtain ⟨rfl,rfl,rfl,rfl⟩:=hc;obtain ⟨D,E,hs⟩:=hs;have hF:c.bB=Fence.wide:=by unfold c6.bB;rw[hr]
 have hE0:c.dV 999999=none:=hs.kS (.inr (by decide));have hval:∃ vs:List Value,a.eval cf=.func (.func g) #[] vs.toArray∧aK w D E caps vs:=by
  have hv:=cv hs hcf;rw[hf] at hv;obtain ⟨cs,q1,q2⟩:=hv;simp only[ai] at q2;obtain ⟨vs,q3,q4⟩:=q2;exact ⟨vs,by simpa[bN,I.isAgg,q3] using q1.symm,q4⟩
 obtain ⟨vs,hval,hvs⟩:=hval;rw[hF];refine wpIn_rangeFunc fun fn hfn =>?_;obtain ⟨rec,hrec⟩:∃ rec:LoopState→Option Code→Loop,rec=fun bu pe => { state:=bu,pending:=pe,fn,tmps:=a.tmps,params:=cps,assign:=cx,body:=cy,defers:=w.heap.size } :=⟨_,rfl⟩
 obtain ⟨E1,hs1,hE1,hup⟩:=hs.enter hfree hE0 (o:=.loop (rec .ready none)) rfl;obtain ⟨W1,hW1⟩:∃ W1,(w.alloc (.deferred (some []))).alloc (.loop (rec .ready none))=W1:=⟨_,rfl⟩
 rw[hW1] at hs1 hup;obtain ⟨l,hl⟩:∃ l,l=w.heap.size+1:=⟨_,rfl⟩
 rw[←hl] at hE1;obtain ⟨yv,hyv⟩:∃ yv:Value,yv=.func (.yield l) #[] #[]:=⟨_,rfl⟩
 obtain ⟨a1,ha1⟩:∃ a1:Act,a1 = { a with defers := { target:=.collected w.heap.size,args := #[] } :: a.defers } :=⟨_,rfl⟩
 rw[←ha1] at hs1;refine ⟨l,[{ target:=.collected w.heap.size,args := #[] }],W1,{ target:=.fn (.func g) vs.toArray,args := #[yv] },W1,g,#[yv]++vs.toArray,W1,?_,?_,?_,?_,fun _=>by decide,?_⟩
 ·rw[←hW1,hrec,hl];exact run_enterLoop_outer _ _ _ _ _
 ·simp only[resolve,hval,hyv];simp[go_sem]
 ·intro f' _;trivial
 ·simp only[invoke,Af hcb]
 ·-- the iterator's own bargain
  have hG0:=hI 0 osb0 h0;obtain ⟨I',hI'⟩:∃ I':Nat→List (Nat×ah)→Prop,I'=fun k os=>∃ osb,os=dw (.loop (rec .ready none)) osb∧aj k osb:=⟨_,rfl⟩
  obtain ⟨Ix',hIx'⟩:∃ Ix':List (Nat×ah)→Prop,Ix'=fun os=>∃ e osb,os=dw (.loop (rec .done (some (yU e)))) osb∧Ix e osb:=⟨_,rfl⟩
  obtain ⟨os1,hos1⟩:∃ os1,os1=dw (.loop (rec .ready none)) osb0:=⟨_,rfl⟩
  obtain ⟨Y,hY⟩:∃ Y:Value→List I→List (Nat×ah)→cO→Prop,Y=fun v args os post=>v=yv∧∃ k,args=item k∧k<N∧I' k os∧∀ r os2,(r=.bool true∧I' (k+1) os2)∨(r=.bool false∧Ix' os2)→post r os2:=⟨_,rfl⟩
  have kT:∀ k os',I' k os'→fJ os1 os':=fun k os' h=>by
   rw[hI'] at h;obtain ⟨osb,rfl,h⟩:=h;rw[hos1];exact (hI k osb h).dw _ _
  have goodx:∀ os',Ix' os'→fJ os1 os':=fun os' h=>by
   rw[hIx'] at h;obtain ⟨e,osb,rfl,h⟩:=h;rw[hos1];exact (hIx e osb h).dw _ _
  have hctr:=hit Y yv I' Ix' os1 (by rw[hyv];rfl) (fun k os' post hk h1 h2=>by rw[hY];exact ⟨rfl,k,rfl,hk,h1,h2⟩) kT goodx (by rw[hI'];exact ⟨osb0,hos1,h0⟩);have hgv1:fK ρ os1 ((999999,.dZ (.loop (rec .ready none)))::os0):=by rw[hos1];exact hgv _
  obtain ⟨A0,hA0⟩:∃ A0:af,A0=aw ts ((999999,.dZ (.loop (rec .ready none)))::os0):=⟨_,rfl⟩
  have hand:rD (Calls c.P g) (fun w D E=>∀ n,p7 ⟨c.P,w,D,n,dJ E,E,Y,none⟩) (.raw yv::caps) os1 (fun r os'=>r=.tuple []∧(I' N os'∨Ix' os')):=fun w D E vs hy hlive hheld hv=>by
   refine (hctr.2 w D E vs hy hlive hheld hv).mono fun e w' ⟨v,he,D',E',r,os',q⟩=>⟨v,D',E',r,os',he,q⟩
  have hshare:=hs1.pN;obtain ⟨Dh,hDh⟩:∃ Dh,Dh=pJ (aw ts ((999999,.dZ (.loop (rec .ready none)))::os0)) D E1:=⟨_,rfl⟩
  rw[←hDh] at hshare;have hsh:=hshare.1;obtain ⟨Eh,hEh⟩:∃ Eh,Eh=az ρ os1 E1:=⟨_,rfl⟩
  have isrec:aq os1 1999999=true:=by rw[hos1,mB];simp
  have hEl:Eh 1999999=some (.op l):=by rw[hEh];simp only[az,isrec,if_true,hρ];exact hE1
  have EhIn:∀ n e,Eh n=some e→aq os1 n=true:=fun n e h=>by
   rw[hEh] at h;simp only[az] at h;split at h
   ·assumption
   ·cases h
  have hyok:∀ n,p7 ⟨c.P,W1,Dh,n,dJ Eh,Eh,Y,none⟩:=by
   intro n v' args os' post' hYv w2 D2 E2 vs2 hsince hlive hheld hrvs;rw[hY] at hYv;obtain ⟨rfl,k,rfl,hkN,hIk,hpost⟩:=hYv;have hIk0:=hIk;rw[hI'] at hIk;obtain ⟨osb,rfl,hIk⟩:=hIk;have gk:=kT k _ hIk0;have gkb:=hI k osb hIk;have in2:∀ m,aq os1 m=true→E2 m≠none:=fun m hm=>by
    rw[←gk.same m] at hm;cases hx:ao (dw (.loop (rec .ready none)) osb) m with
    |none=>simp[aq,hx] at hm
    |some x=>have:=hheld.bQ m;rw[hx] at this;exact uT this
   have same2:∀ m e,Eh m=some e→e.eZ=true→E2 m=some e:=fun m e he hfx=>by
    rcases hsince.en m e he with h | ⟨e',h,hle⟩
    ·exact absurd h (in2 m (EhIn m e he))
    ·rw[hle.eq hfx] at h;exact h
   have hEl2:E2 1999999=some (.op l):=same2 _ _ hEl rfl;have hob:=hheld.bQ 1999999;rw[qH,if_pos rfl] at hob;obtain ⟨b,j1,_,j3,_,_⟩:=hob;rw[hEl2] at j1;cases j1;have hsz:vs2.toArray.size=cps.size:=by have:=Am hrvs;rw[hlen] at this;simpa using this
   have hyr:=run_yield (P:=c.P) (args:=vs2.toArray) j3 (by rw[hrec];exact hsz);rw[hrec] at hyr;refine ⟨l,hyv,fn,_,cx,cy,hyr,roundIn_of_wpIn trivial ?_⟩;clear hyr
   -- the round's own frame
   obtain ⟨cr,hcr⟩:∃ cr:c6,cr=⟨c.P,w2,D2,c.n,dJ E2,E2,jk,some l⟩:=⟨_,rfl⟩
   have hFr:cr.bB=Fence.wide.inRound l:=by rw[hcr];rfl
   have hlat:ec W1 Dh Eh w2 D2 E2:=by
    refine ⟨hsince.cV,hsince.gl.cell,fun m b aV he=>same2 m _ he rfl,fun m aG l he =>?_,fun m b he=>same2 m _ he rfl,fun m b he=>same2 m _ he rfl,hsince.gl.j5⟩;rcases hsince.en m _ he with h | ⟨e',h,hle⟩
    ·exact absurd h (in2 m (EhIn m _ he))
    ·rcases hle with rfl | ⟨_,_,blk',l',e,rfl,k1,k2⟩
     ·exact ⟨aG,l,h,zz7 _,fun _=>rfl⟩
     ·cases e;exact ⟨blk',l',h,k1,k2⟩
   have hslots:mU ρ (aq os1) ts tsR:=by
    have:∀ tsR:List (Nat×I),mU ρ (aq osb0) ts tsR→mU ρ (aq os1) ts tsR:=by
     intro tsR
     induction tsR with
     |nil=>exact fun h=>h
     |cons q r ih =>
      intro h;obtain ⟨h1,h2,h3⟩:=h;exact ⟨h1,jH (fun n hn=>by rw[hos1,mB,hn];simp) _ h2,ih h3⟩
    exact this tsR hts
   have hsr:a6 cr (aw tsR (dw (.loop (rec .ready none)) osb)) { tmps:=a.tmps,defers:=[] } w2 D2 E2:=by
    rw[hcr];refine ⟨hs.sz,⟨[],rfl,.nil,fun _ h=>by simp at h⟩,fun t =>?_,gp.refl _ _,fun _ _ h _=>h,hlive,fun m=>(hheld.bQ m).ny fun e b he hb=>.inr ⟨m,e,he,hb⟩,hheld.da,fun _ e h=>.inr ⟨e,h,.refl e⟩,fun m hm =>?_,fun _ _ h=>h,(fun _ _ _ _ h=>h.elim),.refl _ _⟩
    ·rcases Qx hslots t with h | ⟨h1,h2⟩
     ·simp only[aw];rw[h];simp[a7]
     ·have h3:=hsh.eH t;rw[ha1] at h3;simp only[aw] at h3 ⊢;rw[h1] at h3;have h4:=(a7.aN (w:=W1) (D:=Dh) (p:=aq os1) (ρ:=bD ρ) (E:=Eh) (E':=E1) (fun n hn=>by rw[hEh];simp only[az,hn,if_true]) h2).1 h3;exact a7.bO hlat h4
    ·have hmi:aq os1 m=true:=by
      rw[←gk.same m];have:=hheld.bQ m;cases hx:ao (dw (.loop (rec .ready none)) osb) m with
      |none=>rw[hx] at this;exact absurd this hm
      |some x=>simp[aq,hx]
     have:=gk.ph m hmi;exact ⟨zu4 hn6 this,this⟩
   have hsp:=a6.NQ cps.toList vs2 (item k) tsR _ hsr (fun p hp=>by rw[hcr];have:=zx3.1 hpn p hp;simpa using this) hrvs (by have:=hsz;simpa using this.symm);have htm:(cps.zip vs2.toArray).foldl (fun t (q:Tmp×Value)=>t.setIfInBounds q.1 q.2) a.tmps=(cps.toList.zip vs2).foldl (fun t q=>t.setIfInBounds q.1 q.2) a.tmps:=by
    rw[←Array.foldl_toList];simp
   have hx:=hround k osb hkN hIk w2 D2 E2 l (.loop (rec .ready none)) (.loop { rec .ready none with state:=.busy });rw[←hcr] at hx;have hx1:=hx cx (by rw[hcr];exact hcx) _ w2 ⟨D2,E2,hsp⟩;rw[hFr] at hx1;simp only[←htm] at hx1;rw[hcr] at hx1;refine wpIn_mono hx1 ?_;rintro e ax wx ⟨B,hq,hsx⟩;rw[←hcr] at hq hsx;cases e <;>simp only[au] at hq <;>try exact hq.elim
   simp only[Exit.then];obtain ⟨hB1,hB2⟩:=hq;obtain ⟨Dx,Ex,hsx⟩:=hsx;have hElx:Ex 1999999=some (.op l):=by
    have ho:=hsx.bQ 1999999;rw[hB1] at ho;rcases hsx.Fu (n:=1999999) (by rw[hcr];exact hEl2) rfl with h | h
    ·exact absurd h (uT ho)
    ·exact h
   have hLx:wx.heap[l]?=some (.loop (rec .ready none)):=by
    have ho:=hsx.bQ 1999999;rw[hB1] at ho;obtain ⟨b,k1,_,k3,_⟩:=ho;rw[hElx] at k1;cases k1;exact k3
   refine ⟨_,run_beginRound hLx (by rw[hrec]),?_⟩;have hsb:=hsx.Ap (o':=.loop { rec .ready none with state:=.busy }) hB1 hElx rfl;have hy1:=hB2 cy (by rw[hcr];exact hcy) _ _ ⟨Dx,Ex,hsb⟩;rw[hFr] at hy1;rw[hcr] at hy1;refine wpIn_mono hy1 ?_;rintro e a3 w3 ⟨A3,hq3,D3,E3,hs3⟩;rw[←hcr] at hs3
   -- the end of the round
   have bC:∀ (os:List (Nat×ah)) (jump:Option Code),rA (.loop { rec .ready none with state:=.busy }) A3 os→(post' (.bool jump.isNone) (dw (.loop (rec (if jump.isNone then .ready else .done) jump)) os)) →
     ∃ v w',(Instr.endRound l jump).run c.P w3=.ok v w'∧(fun e w'=>∃ v D' E' r os',e=Ending.returned v∧post' r os'∧a7 w' D' E' r v∧lX (fun b=>w2.heap.size≤b∨dJ E2 b) w' D' E' (ao os') ∧
      gp (fun b=>w2.heap.size≤b∨dJ E2 b) w2 w'∧(∀ b o,D2 b o→D' b o)∧(∀ b o,D' b o→b<w'.heap.size)∧(∀ b o,D' b o→b<w2.heap.size→¬ dJ E2 b→D2 b o) ∧
      (∀ n e,E2 n=some e→aq os' n=true→∃ e',E' n=some e'∧e.le e')∧iY w2 D2 w') (.returned v) w':=fun os jump hbk hp=>by
    have hA3:A3.o 1999999=some (.dZ (.loop { rec .ready none with state:=.busy })):=(hbk 1999999 _ (by rw[qH,if_pos rfl])).1;have hEl3:E3 1999999=some (.op l):=by
     have ho:=hs3.bQ 1999999;rw[hA3] at ho;rcases hs3.Fu (n:=1999999) (by rw[hcr];exact hEl2) rfl with h | h
     ·exact absurd h (uT ho)
     ·exact h
    have hL3:w3.heap[l]?=some (.loop { rec .ready none with state:=.busy }):=by
     have ho:=hs3.bQ 1999999;rw[hA3] at ho;obtain ⟨b,k1,_,k3,_⟩:=ho;rw[hEl3] at k1;cases k1;exact k3
    have hend:=run_endRound (P:=c.P) jump hL3;have erec:({ rec .ready none with state:=if jump.isNone then LoopState.ready else .done,pending:=jump } : Loop)=rec (if jump.isNone then .ready else .done) jump:=by rw[hrec]
    have hend':(Instr.endRound l jump).run c.P w3=.ok (.bool jump.isNone) (w3.putObj l (.loop (rec (if jump.isNone then .ready else .done) jump))):=by
     rw[hend];rw[hrec]
    have hs4:=hs3.Ap (o':=.loop (rec (if jump.isNone then .ready else .done) jump)) hA3 hEl3 rfl;rw[hcr] at hs4;obtain ⟨D',E',_,_,_,q1,q2,q3,q4,q5,q6⟩:=hs4.Mi (alM hbk _);exact ⟨_,_,hend',_,D',E',.bool jump.isNone,_,rfl,hp,⟨[.bool jump.isNone],by simp[bN,I.isAgg],by simp[ai]⟩,q1,q2,q3,q4,q5,q6⟩
   cases e with
   |normal =>
    obtain ⟨os,hbk,hin⟩:=hq3;exact bC os none hbk (hpost _ _ (.inl ⟨rfl,by rw[hI'];exact ⟨os,rfl,hin⟩⟩))
   |ret =>
    obtain ⟨os,hbk,hin⟩:=hq3;exact bC os (some .ret) hbk (hpost _ _ (.inr ⟨rfl,by rw[hIx'];exact ⟨none,os,rfl,hin⟩⟩))
   |exit id =>
    obtain ⟨os,hbk,hin⟩:=hq3;exact bC os (some (.exit id)) hbk (hpost _ _ (.inr ⟨rfl,by rw[hIx'];exact ⟨some id,os,rfl,hin⟩⟩))
   |goto t=>exact hq3.elim
   |panic ch=>exact hq3.elim
   |outgrown=>exact hq3.elim
  -- the call
  have hargs:gC (a7 W1 D E1) (.raw yv::caps) (yv::vs):=by
   exact .cons ⟨[yv],by simp[bN,I.isAgg],by rw[hyv];exact ⟨rfl,rfl⟩⟩ (Aj (hup caps vs hvs))
  have hus:=hand.use (ρ:=ρ) hs1 false (fun h=>h.mono) ⟨(fun h=>by cases h),fun _=>by rw[←hDh,←hEh];exact hyok⟩ hgv1 (wc _ (by simp[I.cg,I.bJ,hcl]))
   (fun r os' hp=>by
    have gg:fJ os1 os':=by
     rcases hp.2 with h | h
     ·exact kT _ _ h
     ·exact goodx _ h
    refine ⟨fun m x hx=>⟨(gg.ok m x hx).1,(gg.ok m x hx).2,fun h=>by cases h⟩,fun m m' h1 h2=>hgv1.inj m m' (by rw[←gg.same];exact h1) (by rw[←gg.same];exact h2),fun m hm=>by rw[gg.same];exact hm,fun m h1 h2=>(by rw[gg.same,h2] at h1;cases h1),(by rw[hp.1];simp[I.only,I.bV]),fun h=>by cases h⟩) hargs
  have ecl : #[yv]++vs.toArray=(yv::vs).toArray:=by simp
  rw[ecl];refine CallsIn.mono (callsIn_wide.2 hus) ?_;rintro e w3 ⟨v,r,os',D2,E2,rfl,hp,hs2,_,hE2⟩;have key:∀ (o3:Obj) (osb:List (Nat×ah)),os'=dw o3 osb→qD o3=true→E2 999999=some (.op l)∧w3.heap[l]?=some o3∧∀ o4,qD o4=true→cD c (aw ts (dB ρ osb++os0)) a1 (w3.putObj l o4):=fun o3 osb he h3=>by
   subst he;have hn2:E2 999999=some (.op l):=by
    obtain ⟨e',h1,h2⟩:=hE2 1999999 (.op l) (by rw[←hEh];exact hEl) (by rw[mB];simp);rw[hρ] at h1;rw[h1,h2.eq rfl]
   have eos:dB ρ (dw o3 osb)=(999999,.dZ o3)::dB ρ osb:=by simp only[dw,dB,zy2,hρ,ah.aN]
   rw[eos] at hs2;have ha:(aw ts ((999999,ah.dZ o3)::dB ρ osb++(999999,.dZ (.loop (rec .ready none)))::os0)).o 999999=some (.dZ o3):=by simp[aw,ao]
   have hgb:∀ m,aq osb m=true→bD ρ m≠999999:=fun m hm e=>by
    have h5:aq (dw o3 osb) m=true:=by rw[mB,hm];simp
    have g5:fJ os1 (dw o3 osb):=by
     rcases hp.2 with h | h
     ·exact kT _ _ h
     ·exact goodx _ h
    have h6:=hgv1.inj m 1999999 (by rw[←g5.same];exact h5) isrec (by rw[hρ];exact e);subst h6;have h7:fJ osb0 osb:=by
     rcases hp.2 with h | h
     ·rw[hI'] at h;obtain ⟨osb',h8,h9⟩:=h;simp only[dw,List.cons.injEq] at h8;rw[h8.2];exact hI _ _ h9
     ·rw[hIx'] at h;obtain ⟨e,osb',h8,h9⟩:=h;simp only[dw,List.cons.injEq] at h8;rw[h8.2];exact hIx _ _ h9
    rw[h7.same,h19] at hm;cases hm
   refine ⟨hn2,?_,fun o4 h4 =>?_⟩
   ·have ho:=hs2.bQ 999999;rw[ha] at ho;obtain ⟨b,k1,_,k3,_⟩:=ho;rw[hn2] at k1;cases k1;exact k3
   ·have h5:=(hs2.Ap (o':=o4) ha hn2 h4).abx hn2;have hst:(⟨((aw ts ((999999,ah.dZ o3)::dB ρ osb++(999999,.dZ (.loop (rec .ready none)))::os0)).aU 999999 (.dZ o4)).t,fun m=>if m=999999 then none else
      ((aw ts ((999999,ah.dZ o3)::dB ρ osb++(999999,.dZ (.loop (rec .ready none)))::os0)).aU 999999 (.dZ o4)).o m⟩:af)=aw ts (dB ρ osb++os0):=by
     simp only[aw,af.aU]
     congr 1
     funext m
     by_cases hm:m=999999
     ·subst hm;simp only[if_true,sg];cases hq:pre ρ osb 999999 with
      |none=>exact hfree.symm
      |some k=>exact absurd (mL hq).2 (hgb k (mL hq).1)
     ·simp only[if_neg hm,zz9,ao,sg]
    rw[hst] at h5;exact ⟨D2,_,h5⟩
  rcases hp.2 with h | h
  ·rw[hI'] at h;obtain ⟨osb,he,hin⟩:=h;obtain ⟨k1,k2,k3⟩:=key _ osb he rfl;refine ⟨none,_,(by have:=run_endLoop (P:=c.P) k2 (by rw[hrec];simp);rw[hrec] at this;exact this),_,hdone osb hin,?_⟩;have:=k3 (.loop { rec .ready none with state:=.exhausted }) rfl;rw[ha1] at this;rw[hrec] at this;exact this
  ·rw[hIx'] at h;obtain ⟨e,osb,he,hin⟩:=h;obtain ⟨k1,k2,k3⟩:=key _ osb he rfl;refine ⟨some (yU e),_,(by have:=run_endLoop (P:=c.P) k2 (by rw[hrec];simp);rw[hrec] at this;exact this),?_⟩;have:=k3 (.loop { rec .done (some (yU e)) with state:=.exhausted }) rfl;rw[ha1] at this;rw[hrec] at this;have hq:Mn c Q (Fb e) { a with defers := { target:=.collected w.heap.size,args := #[] } :: a.defers } _:=⟨_,hexit e osb hin,this⟩
   cases e with
   |none=>exact wpIn_ret hq
   |some id=>exact wpIn_exit hq
end
mutual
theorem mM{ρ:Nat→Nat}(h:∀ n,ρ n=n):∀ x:I,x.aN ρ=x
 | .agg fs | .tuple fs=>by simp only[I.aN];rw[nH h fs]
 | .slice _ es=>by simp only[I.aN];rw[nH h es]
 | .ref x=>by simp only[I.aN];rw[mM h x]
 | .func _ caps=>by simp only[I.aN];rw[nH h caps]
 | .iface _ v=>by simp only[I.aN];rw[mM h v]
 | .ptr _ _ | .own _ _ | .view _ _ _ _ _ | .mref _ | .dI _=>by simp only[I.aN,h]
 | .c7 ks vs=>by simp only[I.aN];rw[nH h ks,nH h vs]
 | .bool _ | .int _ _ | .db _ | .nilp | .dz | .eg | .raw _ | .nils _ | .c0 _ | .undef | .dx=>by simp only[I.aN]
theorem nH{ρ:Nat→Nat}(h:∀ n,ρ n=n):∀ xs:List I,I.cZ ρ xs=xs
 | []=>rfl
 |x::xs=>by simp only[I.cZ];rw[mM h x,nH h xs]
end
theorem ah.mM{ρ:Nat→Nat}(h:∀ n,ρ n=n):∀ x:ah,x.aN ρ=x
 | .box x=>by simp only[ah.aN,Abs.mM h]
 | .b9 _ _ es=>by simp only[ah.aN,nH h]
 | .dZ _=>rfl
 | .c4 _ _=>rfl
 | .cE _ _=>by simp only[ah.aN,nH h]
 | .it _ _ _ _=>by simp only[ah.aN,nH h]
theorem vi(os:List (Nat×ah)):dB [] os=os:=by
 simp only[dB];have:(fun q:Nat×ah=>(bD [] q.1,q.2.aN (bD [])))=id:=by
  funext q
  rw[ah.mM (ρ:=bD []) (fun n=>rfl)];rfl
 rw[this,List.map_id]
theorem kW(a b:List (Nat×ah))(n:Nat):ao (a++b) n=match ao a n with
  |some x=>some x
  |none=>ao b n:=by
 induction a with
 |nil=>rfl
 |cons q a ih =>
  obtain ⟨k,v⟩:=q;simp only[zz9,ao];split
  ·rfl
  ·exact ih
theorem fJ.none{os os':List (Nat×ah)}(h:fJ os os'){n:Nat}(hn:n<1000000):ao os' n=none:=by
 cases hx:ao os' n with
 |none=>rfl
 |some x =>
  have h1:aq os' n=true:=by simp[aq,hx]
  rw[h.same] at h1;exact absurd (h.ph n h1) (by omega)
theorem aB.dj{ts ts':List (Nat×I)}{os os':List (Nat×ah)}(h1:aQ ts ts')(h2:∀ n,ao os n=ao os' n):aB (aw ts os) (aw ts' os'):=by
 have e:aw ts os=aw ts os':=by
  simp only[aw];congr 1;funext n;exact h2 n
 rw[e];rintro c a w ⟨D,E,hs⟩;refine ⟨D,E,hs.sz,hs.fj,fun t =>?_,hs.eh,hs.dh,hs.dy,hs.bQ,hs.da,hs.en,hs.fx,hs.cV,hs.fD,hs.gl⟩;rcases Ay h1 t with h | h
 ·simp only[aw];rw[h];simp[a7]
 ·have:=hs.eH t;simp only[aw] at *;rw[h];exact this
theorem BL{os osk os2 ow:List (Nat×ah)}{ts:List (Nat×I)}(h1:fJ os osk)(h2:fJ os os2)(how:∀ m,aq ow m=true→m<1000000):aw ts (dB [] os2++(ow++osk))=aw ts (ow++os2):=by
 simp only[aw,vi]
 congr 1
 funext n
 simp only[kW];cases hw:ao ow n with
 |none =>
  simp only;cases h3:ao os2 n with
  |some x=>rfl
  |none =>
   simp only;cases h4:ao osk n with
   |none=>rfl
   |some x =>
    have h5:aq osk n=true:=by simp[aq,h4]
    rw[h1.same,←h2.same] at h5;simp[aq,h3] at h5
 |some x =>
  simp only;rw[h2.none (how n (by simp[aq,hw]))]
theorem fK.kT{os osk ow:List (Nat×ah)}(h1:fJ os osk)(how:∀ m,aq ow m=true→m<1000000):fK [] osk (ow++osk):=by
 refine ⟨fun m x hx =>?_,fun m m' _ _ h=>h⟩;have hm:aq osk m=true:=by simp[aq,hx]
 have hg:=h1.ph m (by rw[←h1.same];exact hm);obtain ⟨k1,k2⟩:=h1.ok m x hx;refine ⟨?_,k1,k2⟩;rw[ah.mM (ρ:=bD []) (fun n=>rfl)];simp only[bD,kW];cases hw:ao ow m with
 |none=>exact hx
 |some y=>have:=how m (by simp[aq,hw]);omega
theorem dn.kT{os osk os2 os0:List (Nat×ah)}{r:I}(h1:fJ os osk)(h2:fJ os os2)(hr:r.bJ=true):dn false [] osk os0 r os2:=by
 refine ⟨fun m x hx=>⟨(h2.ok m x hx).1,(h2.ok m x hx).2,fun h=>by cases h⟩,fun m m' _ _ h=>h,fun m hm=>by rw[h2.same,←h1.same];exact hm,fun m h3 h4 =>?_,nC _ r hr,fun h=>by cases h⟩;rw[h2.same,←h1.same,h4] at h3;cases h3
theorem bn.Ra{P:Program}{Y:Value→List I→List (Nat×ah)→cO→Prop}{K:af→Prop}{v:Value}{vs:List I}{dst:Option Nat}{rest:List aE}{ts:List (Nat×I)}{os osk ow:List (Nat×ah)}{In Ix:List (Nat×ah)→Prop}
  (hY:Y v vs osk (fun r os2=>(r=.bool true∧In os2)∨(r=.bool false∧Ix os2))) (hk:fJ os osk) (hi:∀ os',In os'→fJ os os') (hx:∀ os',Ix os'→fJ os os') (hcl:I.cg vs=true) (how:∀ m,aq ow m=true→m<1000000)
  (h1:∀ os2,In os2→bn P Y false K (aF rest ((aw ts (ow++os2)).aT dst (.bool true)))) (h2:∀ os2,Ix os2→bn P Y false K (aF rest ((aw ts (ow++os2)).aT dst (.bool false)))) :
  bn P Y false K (.qj v vs dst rest (aw ts (ow++osk))):=by
 refine .AL osk vs _ rfl hY (fK.kT hk how) (wc vs hcl) ?_ ?_
 ·rintro r os' (⟨rfl,h⟩ | ⟨rfl,h⟩)
  ·exact dn.kT hk (hi _ h) rfl
  ·exact dn.kT hk (hx _ h) rfl
 ·rintro r os' (⟨rfl,h⟩ | ⟨rfl,h⟩)
  ·rw[BL hk (hi _ h) how];exact h1 os' h
  ·rw[BL hk (hx _ h) how];exact h2 os' h
theorem Ea(A:af)(d:Option Nat)(args:List I)(rest:List aE)(v:Value):tv A d args rest (.raw v)=.qj v args d rest A:=rfl
def m8(w:World):aW:=fun b _=>b<w.heap.size
structure jU (P:Program) (t:TypeId) (α:Type) [Enc α]:Prop where
 cells:P.cellsOf t=Enc.sz α
 NL:0<Enc.sz α
 uZ:∀ {H:Type} {enc0:TypeId×Value→H} {w:World} {fuel:Nat} {cs:List Value} {x:DataW H×List MemPlace},DataW.trod enc0 P w 0 (fun _=>true) true fuel t cs=some x→∃ a:α,ai w (m8 w) dV (enc a) cs
theorem aoy{P:Program}{t:TypeId}(ht:P.underlying t=some (.int .i64))(hc:P.cellsOf t=1):jU P t Int :=
 ⟨hc,by decide,fun h=>by
  obtain ⟨n,rfl,_,hw⟩:=DataW.trod_int ht h;refine ⟨n,?_⟩;rw[ig,ai];simp only[Lit.wf,zz3,decide_eq_true_eq] at hw;exact ⟨rfl,hw.1,hw.2⟩⟩
theorem En{α:Type}[Enc α]{w:World}{D:aW}(c:Nat):∀ (n:Nat) (cs:List Value),cs.length=n*c→(∀ i,i<n→∃ a:α,ai w D dV (enc a) ((cs.drop (i*c)).take c))→∃ l:List α,l.length=n∧aL w D dV (l.map enc) cs
 |0,cs,hl,_=>⟨[],rfl,by simp only[Nat.zero_mul,zv9] at hl;subst hl;simp[aL]⟩
 |n+1,cs,hl,h=>by
  obtain ⟨a,ha⟩:=h 0 (by omega);simp only[Nat.zero_mul,List.drop_zero] at ha;obtain ⟨l,h1,h2⟩:=En c n (cs.drop c) (by rw[zy8,hl,Nat.succ_mul];omega) (fun i hi=>by
   obtain ⟨b,hb⟩:=h (i+1) (by omega);refine ⟨b,?_⟩;rw[List.drop_drop]
   rwa [Nat.succ_mul,Nat.add_comm] at hb)
  refine ⟨a::l,by simp[h1],?_⟩;simp only[zy2,aL];exact ⟨cs.take c,cs.drop c,(zx0 c cs).symm,ha,h2⟩
theorem aql{H:Type}{enc0:TypeId×Value→H}{P:Program}{w:World}{base:Nat}{spare:Nat→Bool}{held:Bool}{fuel n:Nat}{t e:TypeId}{cs:List Value}{x:DataW H×List MemPlace}(ht:P.underlying t=some (.array n e))(h:DataW.trod enc0 P w base spare held fuel t cs=some x) :
  ∃ (xs:List (DataW H×List MemPlace)) (m:Nat),cs.length=P.cellsOf t∧xs.length=n∧∀ (i:Nat),i<n→DataW.trod enc0 P w base spare held m e ((cs.drop (i*P.cellsOf e)).take (P.cellsOf e))=xs[i]?:=by
 cases fuel with
 |zero=>simp[DataW.trod] at h
 |succ m =>
  unfold DataW.trod at h;rw[ht] at h;split at h <;>simp_all
  obtain ⟨hl,xs,hp,hd⟩:=h;exact ⟨xs,by simpa using mapM_some_length hp,m,fun i hi=>mapM_some_get hp i i (by simp[hi])⟩
theorem zJ{P:Program}{t e:TypeId}{n:Nat}{α:Type}[Enc α](ht:P.underlying t=some (.array n e))(he:jU P e α)(hc:P.cellsOf t=n*Enc.sz α)(hn:0<n):jU P t (aX n α) :=
 ⟨hc,Nat.mul_pos hn he.NL,fun {H enc0 w fuel cs x} h=>by
  obtain ⟨xs,m,hl,hx,hp⟩:=aql ht h;obtain ⟨l,h1,h2⟩:=En (α:=α) (w:=w) (D:=m8 w) (Enc.sz α) n cs (by rw[hl,hc]) (fun i hi=>by
   have h3:=hp i hi;rw[he.cells,zy0 (by omega)] at h3;exact he.uZ h3)
  refine ⟨⟨l,h1⟩,?_⟩
  show ai w (m8 w) dV (.agg (l.map enc)) cs
  simp only[ai];exact h2⟩
theorem SL(a:Addr)(i j:Nat):(a.add i).add j=a.add (i+j):=by
 unfold Addr.add;by_cases hi:i=0 <;>by_cases hj:j=0 <;>simp[hi,hj,Nat.add_assoc]
theorem Nw{P:Program}{t e:TypeId}{α:Type}[Enc α](ht:P.underlying t=some (.slice e))(he:jU P e α)(hc:P.cellsOf t=1):jU P t (List α) :=
 ⟨hc,by rw[xc];exact Nat.one_pos,fun {H enc0 w fuel cs x} h=>by
  rcases DataW.trod_slice ht h with ⟨rfl,_⟩ | ⟨a,len,cap,elems,rest,n,_,rfl,_,hb,hl,hm,hlen,hel,_⟩
  ·refine ⟨[],?_⟩;simp only[gT,zx1];rw[ai];exact ⟨none,0,rfl,zz7 _,by decide,.inl rfl,by simp⟩
  ·have key:∀ k,k≤len→∃ (l:List α) (cs':List Value),l.length=k∧aL w (m8 w) dV (l.map enc) cs'∧cs'.length=k*Enc.sz α∧∀ j v,cs'[j]?=some v→w.cell? (a.add j)=some v:=by
    intro k
    induction k with
    |zero=>exact fun _=>⟨[],[],rfl,by simp[aL],by simp,by simp⟩
    |succ k ih =>
     intro hk;obtain ⟨l,cs',h1,h2,h3,h4⟩:=ih (by omega);have h5:=hel k (by omega);have h6:k<elems.length:=by omega
     rw[zy0 h6] at h5;obtain ⟨ce,h7,h8⟩:=Option.bind_eq_some_iff.1 h5;obtain ⟨y,hy⟩:=he.uZ h8;rw[he.cells] at h7;obtain ⟨_,h9,h10⟩:=World.cells?_some h7;refine ⟨l++[y],cs'++ce,by simp[h1],?_,by rw[zz2,h3,h9,Nat.succ_mul],fun j v hj =>?_⟩
     ·rw[zx4];refine lh _ _ _ _ h2 ?_;simp only[zy2,zx1,aL];exact ⟨ce,[],by simp,hy,rfl⟩
     ·rcases Nat.lt_or_ge j cs'.length with hlt | hge
      ·rw[zy9 hlt] at hj;exact h4 j v hj
      ·rw[zw0 hge] at hj;have hlt:j-cs'.length<Enc.sz α:=by
        have:=(zy7.1 hj).1;omega
       have:=h10 (j-cs'.length) hlt;rw[SL,←h3,Nat.add_sub_cancel' hge] at this;rw[this];exact hj
   obtain ⟨l,cs',h1,h2,h3,h4⟩:=key len (zz7 _);refine ⟨l,?_⟩;simp only[gT,ai,zy1];refine ⟨some a,cap,by rw[h1],by omega,hm,?_,SU l⟩;by_cases hz:len=0
   ·left;have:l=[]:=zv9.1 (by omega);rw[this];rfl
   right
   have hpos:0<cs'.length:=by rw[h3];exact Nat.mul_pos (Nat.pos_of_ne_zero hz) he.NL
   have h0:=h4 0 cs'[0] (zy0 hpos);have hsp:a.spot=none:=by
    simp only[Addr.add,if_true] at h0;unfold World.cell? at h0;split at h0
    ·split at h0
     ·cases h0
     ·rename_i hs;cases hh:a.spot <;>simp_all
    ·cases h0
   have ha:∀ j,a.add j=⟨a.block,a.off+j,none⟩:=fun j=>by
    unfold Addr.add;split
    ·rename_i hj;subst hj;cases a;simp_all
    ·rfl
   refine ⟨a.block,a.off,cs',by cases a;simp_all,fun j v hj =>?_,h2⟩;have h5:=h4 j v hj;rw[ha] at h5;refine ⟨h5,?_⟩
   show (⟨a.block,a.off+j,none⟩:Addr).block<_
   exact World.block_lt_of_cell? w _ h5⟩
end Go.Abs
namespace Go.Abs
open Go Go.RowKit Go.ChangeShapes
open Enc (enc)
def aqR(P:Program)(t:TypeId)(l:List (TypeId×Nat)):Bool:=match P.underlying t with
 |some (.struct fs)=>fs.toList.map (fun f=>(f.type,f.offset))==l
 |_=>false
def L5(P:Program)(t:TypeId)(n:Nat)(e:TypeId):Bool:=match P.underlying t with
 |some (.array n' e')=>n'==n&&e'==e
 |_=>false
theorem yM{P:Program}{t:TypeId}{n:Nat}{e:TypeId}(h:L5 P t n e=true):P.underlying t=some (.array n e):=by
 unfold L5 at h;split at h
 ·rename_i n' e' ht;simp only[zz3,beq_iff_eq] at h;rw[ht,h.1,h.2]
 ·cases h
section
variable {P:Program} {t:TypeId} {α β γ:Type} [Enc α] [Enc β] [Enc γ] {H:Type} {enc0:TypeId×Value→H} {w:World} {fuel:Nat} {cs:List Value} {x:DataW H×List MemPlace}
theorem Nu{base:Nat}{v:Value}{d:DataW H}{p:List MemPlace}(ho:jU P t α)(hA:Enc.gM α=true)(hst:(match P.underlying t with | some (.struct _) | some (.array _ _)=>true | _=>false)=true)(hv:Value.okWide P w .any base t v)
  (h:DataW.Trod enc0 P w 0 (fun _=>true) true t v d p):∃ (a:α) (cs:List Value),bN (enc a) v cs∧ai w (m8 w) dV (enc a) cs:=by
 obtain ⟨fuel,h⟩:=h;have hagg:∃ cs,v=.agg cs:=by
  unfold Value.okWide at hv;split at hst
  ·rename_i fs ht;rw[ht] at hv;obtain ⟨cs,h1,_⟩:=hv;exact ⟨cs,h1⟩
  ·rename_i n e ht;rw[ht] at hv;obtain ⟨cs,h1,_⟩:=hv;exact ⟨cs,h1⟩
  ·cases hst
 obtain ⟨cs,rfl⟩:=hagg;have e:(Value.agg cs).cells.toList=cs.toList:=rfl;rw[e] at h;obtain ⟨a,ha⟩:=ho.uZ h;exact ⟨a,cs.toList,by simp[bN,Enc.agg,hA],ha⟩
theorem zI{base:Nat}{v:Value}{d:DataW H}{p:List MemPlace}(ho:jU P t α)(hA:Enc.gM α=false)(hst:(match P.underlying t with | some (.slice _) | some (.int _) | some .bool=>true | _=>false)=true)(hv:Value.okWide P w .any base t v)
  (h:DataW.Trod enc0 P w 0 (fun _=>true) true t v d p):∃ (a:α) (cs:List Value),bN (enc a) v cs∧ai w (m8 w) dV (enc a) cs:=by
 obtain ⟨fuel,h⟩:=h;have hone:v.cells.toList=[v]:=by
  unfold Value.okWide at hv;split at hst
  ·rename_i e ht;rw[ht] at hv;simp only[Cell.okWide,ht] at hv;cases v <;>simp_all[Cell.ok,Value.cells]
  ·rename_i e ht;rw[ht] at hv;simp only[Cell.okWide,ht] at hv;cases v <;>simp_all[Cell.ok,Value.cells]
  ·rename_i ht;rw[ht] at hv;simp only[Cell.okWide,ht] at hv;cases v <;>simp_all[Cell.ok,Value.cells]
  ·cases hst
 rw[hone] at h;obtain ⟨a,ha⟩:=ho.uZ h;exact ⟨a,[v],by simp[bN,Enc.agg,hA],ha⟩
end
theorem aoQ{H:Type}{enc0:TypeId×Value→H}{P:Program}{f:Func}{s:ChangeSpec}{apart kS handsOn again:Bool}{W W':World}{args:Array Value}{v:Value}{ds gs:List (DataW H)}{before pa pv:List MemPlace}
  (hW:DataW.Whole enc0 P f.params.toList s.vars apart W args.toList ds gs before)
  (hres:∀ (b:Nat) (sp:Nat→Bool) (hd:Bool),DataW.TrodAll enc0 P W' b sp hd f.resultTypes.toList (v.resultList f.resultTypes.size) (s.fn H (ds++gs)).results [])
  (hargs:∀ sp:Nat→Bool,(∀ p∈before,sp p.block=true)→DataW.TrodAll enc0 P W' 0 sp true f.params.toList args.toList (s.fn H (ds++gs)).args pa)
  (hvars:∀ sp:Nat→Bool,(∀ p∈before,sp p.block=true)→DataW.TrodVars enc0 P W' sp s.vars (s.fn H (ds++gs)).vars pv)
  (hps:before=pa++pv) (hb:Below W.heap.size W W')
  (hok:∀ (j:Nat) (t:TypeId) (r:Value),f.resultTypes[j]?=some t→(v.resultList f.resultTypes.size)[j]?=some r→Value.okWide P W' .any 0 t r) :
  s.post enc0 P f apart kS handsOn again W args v W':=by
 have hlt:∀ p∈before,p.block<W.heap.size:=fun p hp=>by simpa using hW.lt p hp
 have hold:∀ p∈before,(fun b=>decide (b<W.heap.size)) p.block=true:=fun p hp=>by simpa using hlt p hp
 refine ⟨ds,gs,before,[],pa,pv,hW,hres _ _ _,hargs _ hold,hvars _ hold,World.keptBut_mono (fun p hp=>⟨hp,?_⟩) (hb.frame (· ∈ before)),fun _ =>?_⟩
 ·rw[hps,zy5] at hp;exact Or.inr hp
 ·obtain ⟨_,_,_,_,_,hz,hn⟩:=hW;refine ⟨hok,_,_,([]++pa)++pv,⟨[]++pa,pv,trodAll_append (hargs _ (fun _ _=>rfl)) (hres _ _ _),hvars _ (fun _ _=>rfl),rfl,?_,?_⟩,?_⟩
  ·intro b off hp;have hp':MemPlace.cell b off∈before:=by rw[hps];simpa using hp
   rw[hb.frozen (p:=⟨b,off,none⟩) (hlt _ hp')];exact hz b off hp'
  ·intro ha;have:=hn ha;rw[hps] at this;simpa using this
  ·intro p hp _;rw[hps];simpa using hp
theorem Me{P:Program}{f:FuncId}{fn:Func}{s:ChangeSpec}{H:Type}{enc0:TypeId×Value→H}{W:World}{ds gs:List (DataW H)}{before:List MemPlace}{xs:List I}{tb:TypeId}{v0 v1 v2:Value}{t0 t1 t2:TypeId}{d0 d1 d2:DataW H}{p0 p1 p2:List MemPlace}{again handsOn kS:Bool}
  (hl:laidOutB P=true) (hpar:fn.params.toList=[t0,t1,t2]) (hds:ds=[d0,d1,d2]) (hgs:gs=[]) (hbef:before=p0++p1++p2)
  (hvars:s.vars=[]) (hfn:s.fn H [d0,d1,d2] = { results:=[.lit (.bool true)],args:=[d0,d1,d2] }) (hres:fn.resultTypes = #[tb]) (htb:P.underlying tb=some .bool)
  (hW:DataW.Whole enc0 P fn.params.toList s.vars false W #[v0,v1,v2].toList ds gs before)
  (h0:DataW.Trod enc0 P W 0 (fun _=>true) true t0 v0 d0 p0) (h1:DataW.Trod enc0 P W 0 (fun _=>true) true t1 v1 d1 p1) (h2:DataW.Trod enc0 P W 0 (fun _=>true) true t2 v2 d2 p2)
  (hr:∀ t∈[t0,t1,t2],P.readableRec t=true∧t<P.types.size)
  (hctr:aA P f xs (enc true)) (hv:aK W (m8 W) dV xs [v0,v1,v2]) :
  Calls P f #[v0,v1,v2] W fun e W'=>∃ v,e=.returned v∧s.post enc0 P fn false kS handsOn again W #[v0,v1,v2] v W':=by
 subst hds hgs;refine (hctr.2 W (m8 W) [v0,v1,v2] (fun _ _ h=>h) hv).mono fun e W' ⟨v,D',he,hrv,hb,_,_⟩=>⟨v,he,?_⟩
 have hvb:v=.bool true:=mQ hrv;subst hvb;have hlt:∀ x∈before,x.block<W.heap.size:=fun x hx=>by simpa using hW.lt x hx
 rw[hbef] at hlt;refine aoQ (pa:=p0++(p1++p2)) (pv:=[]) hW (fun _ _ _ =>?_) (fun sp hsp =>?_) (fun _ _ =>?_) (by rw[hbef];simp) hb ?_
 ·simp only[zx6,hfn,hres];exact trodAll_mk1 (shut_bool htb true)
 ·simp only[zx6,hfn,hpar];rw[hbef] at hsp;have bu:∀ {t:TypeId} {v:Value} {d:DataW H} {p:List MemPlace},t∈[t0,t1,t2]→DataW.Trod enc0 P W 0 (fun _=>true) true t v d p→(∀ x∈p,x∈p0++p1++p2)→DataW.Trod enc0 P W' 0 sp true t v d p:=fun ht h hp =>
   WideElems.Trod_stays hl (hr _ ht).1 (hr _ ht).2 h (fun x hx=>hb.same (hlt x (hp x hx))) (fun x hx=>hsp x (hp x hx))
  exact trodAll_mk3 (bu (by simp) h0 fun x hx=>by simp[hx]) (bu (by simp) h1 fun x hx=>by simp[hx]) (bu (by simp) h2 fun x hx=>by simp[hx])
 ·simp only[zx6,hfn,hvars];rfl
 ·intro j t r hj hv';rw[hres] at hj hv'
  match j,hj,hv' with
  |0,hj,hv' =>
   simp[Value.resultList] at hj hv';subst hj;subst hv';simp[Value.okWide,htb,Cell.okWide,Cell.ok]
theorem Nv{P:Program}{t e:TypeId}{α:Type}[Enc α]{H:Type}{enc0:TypeId×Value→H}{w:World}{base:Nat}{v:Value}{d:DataW H}{p:List MemPlace}(ho:jU P t (List α))(hu:P.underlying t=some (.slice e))(hv:Value.okWide P w .any base t v)
  (h:DataW.Trod enc0 P w 0 (fun _=>true) true t v d p):∃ l:List α,(∃ cs:List Value,bN (enc l) v cs∧ai w (m8 w) dV (enc l) cs)∧(l.length=0∨∃ elems spare,d=.slice elems spare∧elems.length=l.length):=by
 obtain ⟨l,cs,h1,h2⟩:=zI ho rfl (by rw[hu]) hv h;refine ⟨l,⟨cs,h1,h2⟩,?_⟩;have hcs:cs=[v]:=by simpa[bN,gT,I.isAgg] using h1
 subst hcs;simp only[gT,ai] at h2;obtain ⟨a,cap,h3,_⟩:=h2;simp only[List.cons.injEq,and_true,zy1] at h3;subst h3;obtain ⟨fuel,h⟩:=h;have hc:(Value.slice a l.length cap).cells.toList=[Value.slice a l.length cap]:=rfl;rw[hc] at h;rcases DataW.trod_slice hu h with ⟨h4,_⟩ | ⟨a',len,cap',elems,rest,n,_,h4,h5,_,_,_,hlen,_⟩
 ·simp only[List.cons.injEq,Value.slice.injEq,and_true] at h4;exact .inl h4.2.1
 ·simp only[List.cons.injEq,Value.slice.injEq,and_true] at h4;simp only[Prod.mk.injEq] at h5;exact .inr ⟨_,_,h5.1,by rw[zy1,hlen,h4.2.1]⟩
end Go.Abs
namespace Go.Abs.C
open Go Go.Abs
abbrev o(a:Nat)(x:ct):aE:=⟨some a,x,none⟩
abbrev bW(a:Nat)(x:ct)(k:Nat):aE:=⟨some a,x,some (k,true)⟩
abbrev on(a:Nat)(x:ct)(k:Nat):aE:=⟨some a,x,some (k,false)⟩
abbrev p(x:ct):aE:=⟨none,x,none⟩
abbrev aj(n:Int):aM:=.c (.int .i64 n)
abbrev T:aM:=.c (.bool true)
abbrev bB:aM:=.c (.bool false)
abbrev m(a b:Nat):aE:=⟨some a,.mv (.t b),none⟩
abbrev di(a b k:Nat):aE:=⟨some a,.mv (.t b),some (k,true)⟩
abbrev gW(a b k:Nat):aE:=⟨some a,.mv (.t b),some (k,false)⟩
abbrev bh(a:Nat)(n:Int):aE:=⟨some a,.mv (.c (.int .i64 n)),none⟩
abbrev l(a b:Nat):aE:=⟨some a,.ld none (.t b),none⟩
abbrev e9(a b k:Nat):aE:=⟨some a,.ld none (.t b),some (k,true)⟩
abbrev fY(a b k:Nat):aE:=⟨some a,.ld none (.t b),some (k,false)⟩
abbrev ay(a s b:Nat):aE:=⟨some a,.ld (some s) (.t b),none⟩
abbrev f(a b c d:Nat):aE:=⟨some a,.fa b c (.t d),none⟩
abbrev ef(a b c d k:Nat):aE:=⟨some a,.fa b c (.t d),some (k,true)⟩
abbrev fn(a b c d k:Nat):aE:=⟨some a,.fa b c (.t d),some (k,false)⟩
abbrev ad(a b:Nat)(n:Int):aE:=⟨some a,.bin .add (.t b) (.c (.int .i64 n)),none⟩
abbrev lt(a b c:Nat):aE:=⟨some a,.bin .lss (.t b) (.t c),none⟩
abbrev and(a b c:Nat):aE:=⟨some a,.pick (.t b) (.t c) (.c (.bool false)),none⟩
abbrev or(a b c:Nat):aE:=⟨some a,.pick (.t b) (.c (.bool true)) (.t c),none⟩
abbrev no(a b:Nat):aE:=⟨some a,.un .not (.t b),none⟩
abbrev b(a c:Nat):aE:=⟨some a,.box (.t c),none⟩
abbrev s(x y:aR):aR:=.seq x y
abbrev r(g:List aE):aR:=.bX none g
abbrev bH(P:Program)(f:Func)(c:aR):Prop:=f.body.bind (fF P f.ntmps)=some c
abbrev bI(P:Program)(f:Func)(r:List bj):Prop:=jx P f.results.toList=some r
abbrev bG(P:Program)(n:FuncId):Prop:=iC P n=true
theorem e{α:Type}{a b:α}(h:a=b):a=b:=h
end Go.Abs.C
namespace Go.Proofs.YtcldiigclhgafaaGreat
open Go Go.Abs Go.Abs.C
def ai0:=[b 5 2,o 6 (.mv bB)]
def ai1:=[m 21 0,o 22 (.call 24 [.t 21]),m 23 1,m 24 0,o 25 (.call 23 [.t 22,.t 23,.t 24]),m 7 25]
def ajc:=[o 26 (.ia 2 1 (.t 5) (aj 0)),l 27 26,o 28 (.call 25 [.t 27,(aj 32)]),m 8 28]
def ajl:=[o 29 (.ia 2 1 (.t 5) (aj 1)),l 30 29,o 31 (.call 25 [.t 30,(aj 45)]),m 9 31]
def ajm:=[m 33 7,m 34 8,m 35 9,o 36 (.call 26 [.t 33,.t 34,.t 35]),m 32 36,o 37 (.ext (.t 32) 0),o 38 (.ext (.t 32) 1),m 10 37,m 11 38]
def ajn:=[m 39 11,o 40 (.bin .neq (.t 39) (aj 0))]
def ajo:=[o 6 (.mv bB)]
def ajp:=[bh 12 0]
def ajq:=[bh 13 0]
def ajr:=[m 41 13,m 42 10,o 43 (.len (.t 42)),lt 44 41 43]
def ai2:=[m 48 7,m 49 10,m 50 13,o 51 (.is 1 (.t 49) (.t 50)),l 52 51,m 53 8,m 54 9,o 55 (.call 27 [.t 48,.t 52,.t 53,.t 54]),m 47 55,o 56 (.ext (.t 47) 0),o 57 (.ext (.t 47) 1),m 14 56,m 15 57]
def ai3:=[m 58 15,o 59 (.bin .neq (.t 58) (aj 0))]
def ai4:=[o 6 (.mv bB)]
def ai5:=[m 60 14,o 61 (.bin .neq (.t 60) (aj 0))]
def ai6:=[m 62 12,ad 63 62 1,m 12 63]
def ai7:=[m 45 13,ad 46 45 1,m 13 46]
def ai8:=[bh 16 0]
def ai9:=[bh 17 1]
def aja:=[m 64 17,o 65 (.bin .leq (.t 64) (aj 12))]
def ajb:=[bh 18 1]
def ajd:=[m 68 18,o 69 (.bin .leq (.t 68) (aj 2))]
def aje:=[m 73 7,m 74 17,m 75 18,m 76 8,m 77 9,o 78 (.call 28 [.t 73,.t 74,.t 75,.t 76,.t 77]),m 72 78,o 79 (.ext (.t 72) 0),o 80 (.ext (.t 72) 1),m 19 79,m 20 80]
def ajf:=[m 81 20,o 82 (.bin .neq (.t 81) (aj 0))]
def ajg:=[o 6 (.mv bB)]
def ajh:=[m 83 16,m 84 19,o 85 (.bin .add (.t 83) (.t 84)),m 16 85]
def aji:=[m 70 18,ad 71 70 1,m 18 71]
def ajj:=[m 66 17,ad 67 66 1,m 17 67]
def ajk:=[m 86 16,m 87 12,o 88 (.bin .eql (.t 86) (.t 87)),m 89 88,bW 90 (.call 22 []) 89,and 91 89 90,m 6 91]
def gf:aR:=(s (r ai0) (s (r ai1) (s (r ajc) (s (r ajl) (s (r ajm) (s (s (r ajn) (.cond (.t 40) (s (r ajo) .ret) .skip)) (s (r ajp) (s (s (r ajq) (.block 0 (.loop (s (s (r ajr) (.cond (.t 44) .skip (.exit 0))) (s (.block 1 (s (r ai2) (s (s (r ai3) (.cond (.t 59) (s (r ai4) .ret) .skip)) (s (r ai5) (.cond (.t 61) (r ai6) .skip))))) (r ai7)))))) (s (r ai8) (s (s (r ai9) (.block 2 (.loop (s (s (r aja) (.cond (.t 65) .skip (.exit 2))) (s (.block 3 (s (r ajb) (.block 4 (.loop (s (s (r ajd) (.cond (.t 69) .skip (.exit 4))) (s (.block 5 (s (r aje) (s (s (r ajf) (.cond (.t 82) (s (r ajg) .ret) .skip)) (r ajh)))) (r aji))))))) (r ajj)))))) (s (r ajk) .ret)))))))))))
def Pn:List bj:=[.tmp 6]
theorem Xt:bH Tryz.prog Tryz.f4 gf:=e (by kernel_rfl)
theorem ZG:bI Tryz.prog Tryz.f4 Pn:=e (by kernel_rfl)
theorem Vp:bG Tryz.prog 4:=e (by kernel_rfl)
def adJ:=[b 5 2,o 6 (.mv bB)]
def adK:=[m 36 0,o 37 (.call 24 [.t 36]),o 7 (.alloc (.agg [.agg [.int .i64 0,.int .i64 0,.int .i64 0,.int .i64 0,.int .i64 0],.int .i64 0,.nils 7])),p (.bu (some 7) (.t 7) (.t 37))]
def adV:=[ay 38 7 7,m 39 1,m 40 0,o 41 (.call 23 [.t 38,.t 39,.t 40]),m 8 41]
def ad8:=[o 42 (.ia 3 1 (.t 5) (aj 0)),l 43 42,o 44 (.call 25 [.t 43,(aj 40)]),m 9 44]
def aej:=[m 46 8,o 47 (.call 44 [.t 46]),m 45 47,o 48 (.ext (.t 45) 0),o 49 (.ext (.t 45) 1),m 10 48,m 11 49]
def aep:=[m 50 11,o 51 (.bin .neq (.t 50) (aj 0))]
def aeq:=[o 6 (.mv bB)]
def aer:=[bh 12 (-1)]
def aes:=[o 13 (.mv (.c (.nils 17)))]
def aet:=[bh 14 0]
def adL:=[m 52 14,m 53 10,o 54 (.len (.t 53)),lt 55 52 54]
def adM:=[m 58 10,m 59 14,o 60 (.is 1 (.t 58) (.t 59)),l 61 60,m 62 9,o 63 (.bin .leq (.t 61) (.t 62))]
def adN:=[m 64 10,m 65 14,o 66 (.is 1 (.t 64) (.t 65)),l 67 66,m 12 67]
def adO:=[m 56 14,ad 57 56 1,m 14 57]
def adP:=[bh 15 0]
def adQ:=[m 68 15,m 69 8,o 70 (.len (.t 69)),lt 71 68 70]
def adR:=[m 74 8,m 75 15,o 76 (.is 17 (.t 74) (.t 75)),f 77 3 4 76,l 78 77,m 79 9,o 80 (.bin .leq (.t 78) (.t 79))]
def adS:=[m 81 13,m 82 8,m 83 15,o 84 (.is 17 (.t 82) (.t 83)),ay 85 17 84,o 86 (.bs 68 17 [.t 85]),o 87 (.dH 68 17 136 (.agg [.agg [.int .i64 0,.int .i64 0],.int .i64 0,.int .i64 0,.int .i64 0,.int .i64 0,.int .i64 0,.int .i64 0,.int .i64 0,.agg [.int .i64 0,.int .i64 0,.int .i64 0,.int .i64 0,.int .i64 0,.int .i64 0],.agg [.int .i64 0,.int .i64 0]]) (.t 81) (.t 86)),m 13 87]
def adT:=[m 72 15,ad 73 72 1,m 15 73]
def adU:=[bh 16 1]
def adW:=[m 88 16,o 89 (.bin .leq (.t 88) (aj 6))]
def adX:=[m 93 8,m 94 16,m 95 9,o 96 (.call 39 [.t 93,.t 94,.t 95]),m 92 96,o 97 (.ext (.t 92) 0),o 98 (.ext (.t 92) 1),o 17 (.alloc (.agg [.int .i64 0,.int .i64 0,.int .i64 0,.int .i64 0,.int .i64 0,.int .i64 0,.int .i64 0,.bool false,.nils 6])),p (.bu (some 9) (.t 17) (.t 97)),m 18 98]
def adY:=[m 100 13,m 101 16,m 102 9,o 103 (.call 39 [.t 100,.t 101,.t 102]),m 99 103,o 104 (.ext (.t 99) 0),o 105 (.ext (.t 99) 1),o 19 (.alloc (.agg [.int .i64 0,.int .i64 0,.int .i64 0,.int .i64 0,.int .i64 0,.int .i64 0,.int .i64 0,.bool false,.nils 6])),p (.bu (some 9) (.t 19) (.t 104)),m 20 105]
def adZ:=[m 106 18,m 107 20,o 108 (.bin .neq (.t 106) (.t 107)),m 109 108,on 110 (.ld (some 9) (.t 17)) 109,on 111 (.ld (some 9) (.t 19)) 109,on 112 (.call 47 [.t 110,.t 111]) 109,on 113 (.un .not (.t 112)) 109,or 114 109 113]
def ad0:=[o 6 (.mv bB)]
def ad3:=[m 115 12,o 116 (.bin .geq (.t 115) (aj 0))]
def ad4:=[m 118 8,m 119 16,m 120 12,o 121 (.call 39 [.t 118,.t 119,.t 120]),m 117 121,o 122 (.ext (.t 117) 0),o 123 (.ext (.t 117) 1),o 21 (.alloc (.agg [.int .i64 0,.int .i64 0,.int .i64 0,.int .i64 0,.int .i64 0,.int .i64 0,.int .i64 0,.bool false,.nils 6])),p (.bu (some 9) (.t 21) (.t 122)),m 22 123]
def ad5:=[m 124 18,m 125 22,o 126 (.bin .neq (.t 124) (.t 125)),m 127 126,on 128 (.ld (some 9) (.t 17)) 127,on 129 (.ld (some 9) (.t 21)) 127,on 130 (.call 47 [.t 128,.t 129]) 127,on 131 (.un .not (.t 130)) 127,or 132 127 131]
def ad6:=[o 6 (.mv bB)]
def ad7:=[m 90 16,ad 91 90 1,m 16 91]
def ad9:=[o 133 (.bld [.int .i64 0,.int .i64 0] [(0,(aj 5))]),o 134 (.ia 3 1 (.t 5) (aj 1)),l 135 134,o 136 (.call 25 [.t 135,(aj 30)]),m 137 9,o 138 (.ia 3 1 (.t 5) (aj 2)),l 139 138,o 140 (.call 25 [.t 139,(aj 6)]),o 141 (.bin .add (aj 1) (.t 140)),o 142 (.bld [.agg [.int .i64 0,.int .i64 0],.int .i64 0,.int .i64 0,.int .i64 0,.int .i64 0,.int .i64 0,.int .i64 0,.int .i64 0,.agg [.int .i64 0,.int .i64 0,.int .i64 0,.int .i64 0,.int .i64 0,.int .i64 0],.agg [.int .i64 0,.int .i64 0]] [(0,(.t 133)),(1,(aj 6)),(2,(.t 136)),(3,(.t 137)),(4,(.t 141))]),o 23 (.alloc (.agg [.agg [.int .i64 0,.int .i64 0],.int .i64 0,.int .i64 0,.int .i64 0,.int .i64 0,.int .i64 0,.int .i64 0,.int .i64 0,.agg [.int .i64 0,.int .i64 0,.int .i64 0,.int .i64 0,.int .i64 0,.int .i64 0],.agg [.int .i64 0,.int .i64 0]])),p (.bu (some 17) (.t 23) (.t 142))]
def aaq:=some [[],[],[1],[2],[],[],[5],[6,3],[7],[0,3,4,8],[],[10,9,7,0,1,2,3,4,5,6,7,8,9,10]]
def aea:=[o 143 (.bld [.int .i64 0,.int .i64 0] [(0,(aj 5)),(1,(aj 1))]),m 144 9,f 145 0 0 23,ay 146 2 145,o 147 (.bld [.agg [.int .i64 0,.int .i64 0],.int .i64 0,.int .i64 0,.int .i64 0,.int .i64 0,.int .i64 0,.int .i64 0,.int .i64 0,.agg [.int .i64 0,.int .i64 0,.int .i64 0,.int .i64 0,.int .i64 0,.int .i64 0],.agg [.int .i64 0,.int .i64 0]] [(0,(.t 143)),(1,(aj 0)),(3,(.t 144)),(9,(.t 146))]),o 24 (.alloc (.agg [.agg [.int .i64 0,.int .i64 0],.int .i64 0,.int .i64 0,.int .i64 0,.int .i64 0,.int .i64 0,.int .i64 0,.int .i64 0,.agg [.int .i64 0,.int .i64 0,.int .i64 0,.int .i64 0,.int .i64 0,.int .i64 0],.agg [.int .i64 0,.int .i64 0]])),p (.bu (some 17) (.t 24) (.t 147))]
def aeb:=[m 149 8,ay 150 17 23,o 151 (.call 54 [.t 149,.t 150]),m 148 151,o 152 (.ext (.t 148) 0),o 153 (.ext (.t 148) 1),m 25 152,m 26 153]
def aec:=[m 155 25,ay 156 17 24,o 157 (.call 54 [.t 155,.t 156]),m 154 157,o 158 (.ext (.t 154) 0),o 159 (.ext (.t 154) 1),m 27 158,m 28 159]
def aed:=[m 160 26,o 161 (.bin .neq (.t 160) (aj 0)),m 162 161,gW 163 28 162,on 164 (.bin .neq (.t 163) (aj 0)) 162,or 165 162 164]
def aee:=[o 6 (.mv bB)]
def aef:=[ay 167 7 7,m 168 27,f 169 0 0 23,ay 170 2 169,m 171 9,o 172 (.call 48 [.t 167,.t 168,.t 170,.t 171]),m 166 172,o 173 (.ext (.t 166) 0),o 174 (.ext (.t 166) 1),m 29 173,m 30 174]
def aeg:=[bh 31 1]
def aeh:=[m 175 31,o 176 (.bin .leq (.t 175) (aj 6))]
def aei:=[m 180 8,m 181 31,m 182 9,o 183 (.call 39 [.t 180,.t 181,.t 182]),m 179 183,o 184 (.ext (.t 179) 0),o 185 (.ext (.t 179) 1),o 32 (.alloc (.agg [.int .i64 0,.int .i64 0,.int .i64 0,.int .i64 0,.int .i64 0,.int .i64 0,.int .i64 0,.bool false,.nils 6])),p (.bu (some 9) (.t 32) (.t 184)),m 33 185]
def aek:=[m 187 27,m 188 31,m 189 9,o 190 (.call 39 [.t 187,.t 188,.t 189]),m 186 190,o 191 (.ext (.t 186) 0),o 192 (.ext (.t 186) 1),o 34 (.alloc (.agg [.int .i64 0,.int .i64 0,.int .i64 0,.int .i64 0,.int .i64 0,.int .i64 0,.int .i64 0,.bool false,.nils 6])),p (.bu (some 9) (.t 34) (.t 191)),m 35 192]
def ael:=[m 193 33,m 194 35,o 195 (.bin .neq (.t 193) (.t 194)),m 196 195,on 197 (.ld (some 9) (.t 32)) 196,on 198 (.ld (some 9) (.t 34)) 196,on 199 (.call 47 [.t 197,.t 198]) 196,on 200 (.un .not (.t 199)) 196,or 201 196 200]
def aem:=[o 6 (.mv bB)]
def aen:=[m 177 31,ad 178 177 1,m 31 178]
def aeo:=[m 202 30,o 203 (.bin .eql (.t 202) (aj 0)),m 204 203,di 205 29 204,bW 206 (.len (.t 205)) 204,bW 207 (.bin .eql (.t 206) (aj 0)) 204,and 208 204 207,m 209 208,bW 210 (.call 22 []) 209,and 211 209 210,m 6 211]
def Cg:aR:=(s (r adJ) (s (r adK) (s (r adV) (s (r ad8) (s (r aej) (s (s (r aep) (.cond (.t 51) (s (r aeq) .ret) .skip)) (s (r aer) (s (r aes) (s (s (r aet) (.block 0 (.loop (s (s (r adL) (.cond (.t 55) .skip (.exit 0))) (s (.block 1 (s (r adM) (.cond (.t 63) (r adN) .skip))) (r adO)))))) (s (s (r adP) (.block 2 (.loop (s (s (r adQ) (.cond (.t 71) .skip (.exit 2))) (s (.block 3 (s (r adR) (.cond (.t 80) (r adS) .skip))) (r adT)))))) (s (s (r adU) (.block 4 (.loop (s (s (r adW) (.cond (.t 89) .skip (.exit 4))) (s (.block 5 (s (r adX) (s (r adY) (s (s (r adZ) (.cond (.t 114) (s (r ad0) .ret) .skip)) (s (r ad3) (.cond (.t 116) (s (r ad4) (s (r ad5) (.cond (.t 132) (s (r ad6) .ret) .skip))) .skip)))))) (r ad7)))))) (s (.bX aaq ad9) (s (r aea) (s (r aeb) (s (r aec) (s (s (r aed) (.cond (.t 165) (s (r aee) .ret) .skip)) (s (r aef) (s (s (r aeg) (.block 6 (.loop (s (s (r aeh) (.cond (.t 176) .skip (.exit 6))) (s (.block 7 (s (r aei) (s (r aek) (s (r ael) (.cond (.t 201) (s (r aem) .ret) .skip))))) (r aen)))))) (s (r aeo) .ret)))))))))))))))))))
def Ob:List bj:=[.tmp 6]
theorem Wi:bH Tryz.prog Tryz.f13 Cg:=e (by kernel_rfl)
theorem Yz:bI Tryz.prog Tryz.f13 Ob:=e (by kernel_rfl)
theorem Uk:bG Tryz.prog 13:=e (by kernel_rfl)
def aeM:=[b 4 0,o 8 (.mv (.c (.nils 1))),bh 9 0]
def aeN:=[ay 13 7 4,o 14 (.call 66 [.t 13]),m 10 14]
def aeP:=[m 15 10,o 16 (.bin .neq (.t 15) (aj 0))]
def aeQ:=[m 17 10,o 8 (.mv (.c (.nils 1))),m 9 17]
def aeR:=[m 18 1,m 19 2,o 20 (.bld [.int .i64 0,.int .i64 0] [(0,(.t 19)),(1,(aj 9999))]),o 21 (.bs 28 2 [.t 20]),m 22 3,o 23 (.bs 3 1 [.t 22]),o 24 (.call 67 [.t 18,.t 21,.t 23]),m 11 24]
def aeS:=[m 25 11,o 26 (.bin .neq (.t 25) (aj 0))]
def aeT:=[m 27 11,o 8 (.mv (.c (.nils 1))),m 9 27]
def aeU:=[m 28 1,m 29 3,o 30 (.call 68 [.t 28,.t 29]),o 31 (.nilC (.t 30)),f 32 0 0 31,l 33 32,m 34 2,o 35 (.lk (.i .i64) (.nilp) false (.t 33) (.t 34)),m 12 35]
def aeV:=[m 36 12,o 37 (.ptrE false (.t 36) (.c (.nilp)))]
def aeW:=[o 8 (.mv (.c (.nils 1))),bh 9 42]
def aeO:=[ay 38 7 4,m 39 12,o 40 (.call 69 [.t 38,.t 39]),m 8 40,bh 9 0]
def Co:aR:=(s (r aeM) (s (s (r aeN) (s (r aeP) (.cond (.t 16) (s (r aeQ) .ret) .skip))) (s (s (r aeR) (s (r aeS) (.cond (.t 26) (s (r aeT) .ret) .skip))) (s (r aeU) (s (s (r aeV) (.cond (.t 37) (s (r aeW) .ret) .skip)) (s (r aeO) .ret))))))
def Oj:List bj:=[.tmp 8,.tmp 9]
theorem Wq:bH Tryz.prog Tryz.f14 Co:=e (by kernel_rfl)
theorem YH:bI Tryz.prog Tryz.f14 Oj:=e (by kernel_rfl)
theorem Us:bG Tryz.prog 14:=e (by kernel_rfl)
def afw:=[b 3 0,o 6 (.mv (.c (.nils 1))),bh 7 0]
def afx:=[ay 10 7 3,o 11 (.call 66 [.t 10]),m 8 11]
def afy:=[m 12 8,o 13 (.bin .neq (.t 12) (aj 0))]
def afz:=[m 14 8,o 6 (.mv (.c (.nils 1))),m 7 14]
def afA:=[m 15 1,m 16 2,o 17 (.bs 3 1 [.t 16]),o 18 (.call 67 [.t 15,(.c (.nils 2)),.t 17]),m 9 18]
def afB:=[m 19 9,o 20 (.bin .neq (.t 19) (aj 0))]
def afC:=[m 21 9,o 6 (.mv (.c (.nils 1))),m 7 21]
def afD:=[m 22 1,m 23 2,o 24 (.call 68 [.t 22,.t 23]),o 25 (.mk 73 [.t 3]),o 26 (.call 72 [.t 24,.t 25]),m 6 26,bh 7 0]
def CD:aR:=(s (r afw) (s (s (r afx) (s (r afy) (.cond (.t 13) (s (r afz) .ret) .skip))) (s (s (r afA) (s (r afB) (.cond (.t 20) (s (r afC) .ret) .skip))) (s (r afD) .ret))))
def OC:List bj:=[.tmp 6,.tmp 7]
theorem WG:bH Tryz.prog Tryz.f16 CD:=e (by kernel_rfl)
theorem YW:bI Tryz.prog Tryz.f16 OC:=e (by kernel_rfl)
theorem UG:bG Tryz.prog 16:=e (by kernel_rfl)
def agn:=[b 4 0,o 8 (.mv (.c (.nils 2))),bh 9 0]
def ago:=[ay 17 7 4,m 18 1,m 19 2,m 20 3,o 21 (.call 14 [.t 17,.t 18,.t 19,.t 20]),m 16 21,o 22 (.ext (.t 16) 0),o 23 (.ext (.t 16) 1),m 10 22,m 11 23]
def ags:=[m 24 11,o 25 (.bin .neq (.t 24) (aj 0))]
def agt:=[m 26 11,o 8 (.mv (.c (.nils 2))),m 9 26]
def agu:=[m 27 1,m 28 3,o 29 (.call 68 [.t 27,.t 28]),o 30 (.nilC (.t 29)),f 31 0 0 30,l 32 31,m 33 2,o 34 (.lk (.i .i64) (.nilp) false (.t 32) (.t 33)),m 12 34]
def agv:=[o 13 (.mv (.c (.nils 2)))]
def agw:=[m 35 1,o 36 (.len (.t 35)),bh 37 0]
def agx:=[lt 38 37 36]
def agy:=[m 39 37,o 40 (.is 17 (.t 35) (.t 37)),ay 41 17 40,o 15 (.alloc (.agg [.agg [.int .i64 0,.int .i64 0],.int .i64 0,.int .i64 0,.int .i64 0,.int .i64 0,.int .i64 0,.int .i64 0,.int .i64 0,.agg [.int .i64 0,.int .i64 0,.int .i64 0,.int .i64 0,.int .i64 0,.int .i64 0],.agg [.int .i64 0,.int .i64 0]])),m 14 39,p (.bu (some 17) (.t 15) (.t 41))]
def agz:=[ay 42 7 4,m 43 12,m 44 1,m 45 14,o 46 (.call 78 [.t 44,.t 45]),m 47 3,o 48 (.call 68 [.t 46,.t 47]),o 49 (.nilC (.t 48)),f 50 0 0 49,l 51 50,m 52 2,o 53 (.lk (.i .i64) (.nilp) false (.t 51) (.t 52)),o 54 (.call 77 [.t 42,.t 43,.t 53]),no 55 54]
def aaH:=some [[],[],[],[],[2,3],[],[4,5,4],[6],[7],[8],[],[9,10],[0,1,11,6],[12]]
def agp:=[m 56 13,f 57 0 0 15,ay 58 2 57,o 59 (.bs 65 2 [.t 58]),o 60 (.dH 65 2 16 (.agg [.int .i64 0,.int .i64 0]) (.t 56) (.t 59)),m 13 60]
def agq:=[ad 61 37 1,m 37 61]
def agr:=[m 62 13,m 8 62,bh 9 0]
def CV:aR:=(s (r agn) (s (s (r ago) (s (r ags) (.cond (.t 25) (s (r agt) .ret) .skip))) (s (r agu) (s (r agv) (s (s (r agw) (.block 0 (.loop (s (r agx) (s (.cond (.t 38) .skip (.exit 0)) (s (.block 1 (s (r agy) (s (.bX aaH agz) (.cond (.t 55) (r agp) .skip)))) (r agq))))))) (s (r agr) .ret))))))
def OU:List bj:=[.tmp 8,.tmp 9]
theorem WZ:bH Tryz.prog Tryz.f18 CV:=e (by kernel_rfl)
theorem Ze:bI Tryz.prog Tryz.f18 OU:=e (by kernel_rfl)
theorem UY:bG Tryz.prog 18:=e (by kernel_rfl)
def Jv:=[o 4 (.mv bB)]
def Jw:=[m 6 0,o 7 (.len (.t 6)),m 8 1,o 9 (.len (.t 8)),o 10 (.bin .neq (.t 7) (.t 9))]
def Jx:=[o 4 (.mv bB)]
def Jy:=[bh 5 0]
def Jz:=[m 11 5,m 12 0,o 13 (.len (.t 12)),lt 14 11 13]
def JA:=[m 17 0,m 18 5,o 19 (.is 1 (.t 17) (.t 18)),l 20 19,m 21 1,m 22 5,o 23 (.is 1 (.t 21) (.t 22)),l 24 23,o 25 (.bin .neq (.t 20) (.t 24))]
def aaR:=some [[],[],[0,1],[2],[],[],[4,5],[6],[3,7]]
def JB:=[o 4 (.mv bB)]
def JC:=[m 15 5,ad 16 15 1,m 5 16]
def JD:=[o 4 (.mv T)]
def C4:aR:=(s (r Jv) (s (s (r Jw) (.cond (.t 10) (s (r Jx) .ret) .skip)) (s (s (r Jy) (.block 0 (.loop (s (s (r Jz) (.cond (.t 14) .skip (.exit 0))) (s (.block 1 (s (.bX aaR JA) (.cond (.t 25) (s (r JB) .ret) .skip))) (r JC)))))) (s (r JD) .ret))))
def O3:List bj:=[.tmp 4]
theorem Xa:bH Tryz.prog Tryz.f20 C4:=e (by kernel_rfl)
theorem Zn:bI Tryz.prog Tryz.f20 O3:=e (by kernel_rfl)
theorem U6:bG Tryz.prog 20:=e (by kernel_rfl)
def ahg:=[o 4 (.mv bB)]
def ahh:=[m 6 0,o 7 (.len (.t 6)),m 8 1,o 9 (.len (.t 8)),o 10 (.bin .neq (.t 7) (.t 9))]
def ahi:=[o 4 (.mv bB)]
def ahj:=[bh 5 0]
def ahk:=[m 11 5,m 12 0,o 13 (.len (.t 12)),lt 14 11 13]
def ahl:=[m 17 0,m 18 5,o 19 (.is 2 (.t 17) (.t 18)),ay 20 2 19,m 21 1,m 22 5,o 23 (.is 2 (.t 21) (.t 22)),ay 24 2 23,o 25 (.eqv (.bu [(.i .i64),(.i .i64)]) true (.t 20) (.t 24))]
def aaU:=some [[],[],[0,1],[2],[],[],[4,5],[6],[3,7]]
def ahm:=[o 4 (.mv bB)]
def ahn:=[m 15 5,ad 16 15 1,m 5 16]
def aho:=[o 4 (.mv T)]
def C7:aR:=(s (r ahg) (s (s (r ahh) (.cond (.t 10) (s (r ahi) .ret) .skip)) (s (s (r ahj) (.block 0 (.loop (s (s (r ahk) (.cond (.t 14) .skip (.exit 0))) (s (.block 1 (s (.bX aaU ahl) (.cond (.t 25) (s (r ahm) .ret) .skip))) (r ahn)))))) (s (r aho) .ret))))
def O6:List bj:=[.tmp 4]
theorem Xd:bH Tryz.prog Tryz.f21 C7:=e (by kernel_rfl)
theorem Zq:bI Tryz.prog Tryz.f21 O6:=e (by kernel_rfl)
theorem U9:bG Tryz.prog 21:=e (by kernel_rfl)
def ahp:=[o 0 (.mv bB)]
def ahq:=[o 18 (.call 81 []),m 1 18]
def aht:=[o 19 (.call 82 []),o 2 (.alloc (.agg [.agg [.int .i64 0,.int .i64 0,.int .i64 0,.int .i64 0,.int .i64 0],.int .i64 0,.nils 7])),p (.bu (some 7) (.t 2) (.t 19))]
def ahu:=[m 21 1,o 22 (.call 27 [.t 21,(aj 10),(aj 6),(aj 7)]),m 20 22,o 23 (.ext (.t 20) 0),o 24 (.ext (.t 20) 1),m 3 23,m 4 24]
def ahv:=[ay 26 7 2,m 27 1,o 28 (.call 14 [.t 26,.t 27,(aj 20),(aj 9)]),m 25 28,o 29 (.ext (.t 25) 0),o 30 (.ext (.t 25) 1),m 5 29,m 6 30]
def ahw:=[ay 32 7 2,m 33 1,o 34 (.call 14 [.t 32,.t 33,(aj 20),(aj 14)]),m 31 34,o 35 (.ext (.t 31) 0),o 36 (.ext (.t 31) 1),m 7 35,m 8 36]
def ahx:=[ay 38 7 2,m 39 1,o 40 (.call 16 [.t 38,.t 39,(aj 11)]),m 37 40,o 41 (.ext (.t 37) 0),o 42 (.ext (.t 37) 1),m 9 41,m 10 42]
def ahy:=[m 44 1,o 45 (.call 28 [.t 44,(aj 2),(aj 3),(aj 7),(aj 7)]),m 43 45,o 46 (.ext (.t 43) 0),o 47 (.ext (.t 43) 1),m 11 46,m 12 47]
def ahz:=[m 49 1,o 50 (.call 26 [.t 49,(aj 12),(aj 12)]),m 48 50,o 51 (.ext (.t 48) 0),o 52 (.ext (.t 48) 1),m 13 51,m 14 52]
def ahA:=[ay 54 7 2,m 55 1,o 56 (.call 18 [.t 54,.t 55,(aj 20),(aj 9)]),m 53 56,o 57 (.ext (.t 53) 0),o 58 (.ext (.t 53) 1),m 15 57,m 16 58]
def ahr:=[m 59 4,o 60 (.bin .eql (.t 59) (aj 0)),m 61 60,di 62 6 61,bW 63 (.bin .eql (.t 62) (aj 0)) 61,and 64 61 63,m 65 64,di 66 8 65,bW 67 (.bin .eql (.t 66) (aj 0)) 65,and 68 65 67,m 69 68,di 70 10 69,bW 71 (.bin .eql (.t 70) (aj 0)) 69,and 72 69 71,m 73 72,di 74 12 73,bW 75 (.bin .eql (.t 74) (aj 0)) 73,and 76 73 75,m 77 76,di 78 14 77,bW 79 (.bin .eql (.t 78) (aj 0)) 77,and 80 77 79,m 81 80,di 82 16 81,bW 83 (.bin .eql (.t 82) (aj 0)) 81,and 84 81 83,m 17 84]
def ahs:=[m 85 17,m 86 85,di 87 3 86,bW 88 (.bin .eql (.t 87) (aj 2)) 86,and 89 86 88,m 90 89,di 91 5 90,bW 92 (.bs 3 1 [(aj 3)]) 90,bW 93 (.call 20 [.t 91,.t 92]) 90,and 94 90 93,m 95 94,di 96 7 95,bW 97 (.bs 3 1 [(aj 1),(aj 2),(aj 3)]) 95,bW 98 (.call 20 [.t 96,.t 97]) 95,and 99 95 98,m 100 99,di 101 9 100,bW 102 (.bs 3 1 [(aj 11)]) 100,bW 103 (.call 20 [.t 101,.t 102]) 100,and 104 100 103,m 105 104,di 106 11 105,bW 107 (.bin .eql (.t 106) (aj 1)) 105,and 108 105 107,m 109 108,di 110 13 109,bW 111 (.bs 3 1 [(aj 11),(aj 20)]) 109,bW 112 (.call 20 [.t 110,.t 111]) 109,and 113 109 112,m 114 113,di 115 15 114,bW 116 (.bld [.int .i64 0,.int .i64 0] [(1,(aj 2))]) 114,bW 117 (.bld [.int .i64 0,.int .i64 0] [(1,(aj 5))]) 114,bW 118 (.bs 65 2 [.t 116,.t 117]) 114,bW 119 (.call 21 [.t 115,.t 118]) 114,and 120 114 119,m 0 120]
def Dc:aR:=(s (r ahp) (s (r ahq) (s (r aht) (s (r ahu) (s (r ahv) (s (r ahw) (s (r ahx) (s (r ahy) (s (r ahz) (s (r ahA) (s (r ahr) (s (r ahs) .ret))))))))))))
def Pb:List bj:=[.tmp 0]
theorem Xi:bH Tryz.prog Tryz.f22 Dc:=e (by kernel_rfl)
theorem Zv:bI Tryz.prog Tryz.f22 Pb:=e (by kernel_rfl)
theorem Ve:bG Tryz.prog 22:=e (by kernel_rfl)
def ahB:=[b 3 0,o 6 (.mv (.c (.nils 17)))]
def ahC:=[o 7 (.alloc (.agg [.int .i64 0,.int .i64 0,.int .i64 0]))]
def ahN:=[o 8 (.mv (.c (.nils 17)))]
def ahT:=[bh 9 0]
def ahU:=[m 13 9,o 14 (.bin .lss (.t 13) (aj 3))]
def ahV:=[bh 10 0]
def ahW:=[m 17 10,m 18 1,o 19 (.len (.t 18)),lt 20 17 19,m 21 20,di 22 10 21,bW 23 (.bin .lss (.t 22) (aj 20)) 21,and 24 21 23]
def ahX:=[m 27 1,m 28 10,o 29 (.is 9 (.t 27) (.t 28)),ay 30 9 29,o 11 (.alloc (.agg [.int .i64 0,.int .i64 0,.int .i64 0,.int .i64 0,.int .i64 0,.int .i64 0,.int .i64 0,.int .i64 0,.int .i64 0])),p (.bu (some 9) (.t 11) (.t 30))]
def ahY:=[o 31 (.ia 9 1 (.t 11) (aj 0)),l 32 31,o 33 (.call 25 [.t 32,(aj 3)]),m 34 9,o 35 (.bin .neq (.t 33) (.t 34))]
def ahZ:=[m 36 9,m 37 9,o 38 (.ia 3 1 (.t 7) (.t 37)),l 39 38,o 40 (.bld [.int .i64 0,.int .i64 0] [(0,(.t 36)),(1,(.t 39))]),o 41 (.ia 9 1 (.t 11) (aj 1)),l 42 41,o 43 (.call 25 [.t 42,(aj 7)]),o 44 (.ia 9 1 (.t 11) (aj 2)),l 45 44,o 46 (.call 25 [.t 45,(aj 30)]),o 47 (.ia 9 1 (.t 11) (aj 3)),l 48 47,o 49 (.call 25 [.t 48,(aj 40)]),o 50 (.ia 9 1 (.t 11) (aj 4)),l 51 50,o 52 (.call 25 [.t 51,(aj 6)]),o 53 (.bin .add (aj 1) (.t 52)),o 54 (.ia 9 1 (.t 11) (aj 5)),l 55 54,o 56 (.call 25 [.t 55,(aj 2)]),o 57 (.bin .add (aj 1) (.t 56)),o 58 (.ia 9 1 (.t 11) (aj 6)),l 59 58,o 60 (.call 25 [.t 59,(aj 12)]),o 61 (.bin .add (aj 1) (.t 60)),o 62 (.ia 9 1 (.t 11) (aj 7)),l 63 62,o 64 (.call 25 [.t 63,(aj 7)]),o 65 (.bld [.agg [.int .i64 0,.int .i64 0],.int .i64 0,.int .i64 0,.int .i64 0,.int .i64 0,.int .i64 0,.int .i64 0,.int .i64 0,.agg [.int .i64 0,.int .i64 0,.int .i64 0,.int .i64 0,.int .i64 0,.int .i64 0],.agg [.int .i64 0,.int .i64 0]] [(0,(.t 40)),(1,(.t 43)),(2,(.t 46)),(3,(.t 49)),(4,(.t 53)),(6,(.t 57)),(7,(.t 61)),(5,(.t 64))]),o 12 (.alloc (.agg [.agg [.int .i64 0,.int .i64 0],.int .i64 0,.int .i64 0,.int .i64 0,.int .i64 0,.int .i64 0,.int .i64 0,.int .i64 0,.agg [.int .i64 0,.int .i64 0,.int .i64 0,.int .i64 0,.int .i64 0,.int .i64 0],.agg [.int .i64 0,.int .i64 0]])),p (.bu (some 17) (.t 12) (.t 65))]
def aaX:=some [[],[],[1],[2],[0,3],[],[5],[6],[],[8],[9,7],[],[11],[12,10],[],[14],[15,13],[16],[],[18],[19,16],[20],[],[22],[23,20],[24],[],[26],[27,24],[4,7,10,13,17,21,25,28],[],[30,29,28,0,1,2,3,4,5,6,7,8,9,10,11,12,13,14,15,16,17,18,19,20,21,22,23,24,25,26,27,28,29,30]]
def ahD:=[f 66 5 6 12,l 67 66,f 68 4 5 12,l 69 68,o 70 (.bin .eql (.t 67) (.t 69))]
def ahE:=[f 71 5 6 12,p (.bu none (.t 71) (aj 0))]
def ahF:=[f 72 1 2 12,l 73 72,o 74 (.bin .eql (.t 73) (aj 0))]
def ahG:=[m 75 9,o 76 (.ia 3 1 (.t 7) (.t 75)),l 77 76,o 78 (.bin .eql (.t 77) (aj 0))]
def ahH:=[f 79 2 3 12,p (.bu none (.t 79) (aj 0))]
def ahI:=[m 80 9,o 81 (.ia 9 1 (.t 11) (aj 4)),l 82 81,m 83 9,o 84 (.ia 3 1 (.t 7) (.t 83)),l 85 84,o 86 (.call 25 [.t 82,.t 85]),o 87 (.bld [.int .i64 0,.int .i64 0] [(0,(.t 80)),(1,(.t 86))]),f 88 9 15 12,p (.bu (some 2) (.t 88) (.t 87))]
def aaV:=some [[],[],[1],[],[3],[4],[2,5],[0,6],[0,1,2,3,4,5,6,7],[8,7,6,0,1,2,3,4,5,6,7]]
def ahJ:=[f 89 1 2 12,l 90 89,o 91 (.bin .eql (.t 90) (aj 4))]
def ahK:=[o 92 (.bld [.int .i64 0,.int .i64 0,.int .i64 0,.int .i64 0,.int .i64 0,.int .i64 0] [(0,(aj 31)),(1,(aj 31)),(2,(aj 31)),(3,(aj 31)),(4,(aj 31)),(5,(aj 31))]),f 93 8 9 12,p (.bu (some 6) (.t 93) (.t 92))]
def ahL:=[f 94 2 6 3,l 95 94,o 96 (.len (.t 95)),o 97 (.bin .gtr (.t 96) (aj 0))]
def ahM:=[ay 98 7 3,f 99 2 6 3,l 100 99,o 101 (.ia 9 1 (.t 11) (aj 8)),l 102 101,f 103 2 6 3,l 104 103,o 105 (.len (.t 104)),o 106 (.call 25 [.t 102,.t 105]),o 107 (.is 7 (.t 100) (.t 106)),f 108 1 1 107,ay 109 6 108,m 110 2,m 111 10,o 112 (.call 83 [.t 110,.t 111]),o 113 (.call 35 [.t 98,.t 109,.t 112]),f 114 8 9 12,p (.bu (some 6) (.t 114) (.t 113))]
def aaW:=some [[],[],[1],[],[3],[],[5],[6],[4,7],[2,8],[9],[10],[],[],[12,13,8],[0,11,14,14],[0,1,2,3,4,5,6,7,8,9,10,11,12,13,14,15],[16,15,15,0,1,2,3,4,5,6,7,8,9,10,11,12,13,14,15]]
def ahO:=[m 115 8,ay 116 17 12,o 117 (.call 84 [.t 116]),o 118 (.bs 68 17 [.t 117]),o 119 (.dH 68 17 136 (.agg [.agg [.int .i64 0,.int .i64 0],.int .i64 0,.int .i64 0,.int .i64 0,.int .i64 0,.int .i64 0,.int .i64 0,.int .i64 0,.agg [.int .i64 0,.int .i64 0,.int .i64 0,.int .i64 0,.int .i64 0,.int .i64 0],.agg [.int .i64 0,.int .i64 0]]) (.t 115) (.t 118)),m 8 119]
def ahP:=[m 120 9,o 121 (.ia 3 1 (.t 7) (.t 120)),l 122 121,ad 123 122 1,o 124 (.ia 3 1 (.t 7) (.t 120)),p (.bu none (.t 124) (.t 123))]
def ahQ:=[m 25 10,ad 26 25 1,m 10 26]
def ahR:=[m 15 9,ad 16 15 1,m 9 16]
def ahS:=[m 125 8,m 6 125]
def Dd:aR:=(s (r ahB) (s (r ahC) (s (r ahN) (s (s (r ahT) (.block 0 (.loop (s (s (r ahU) (.cond (.t 14) .skip (.exit 0))) (s (.block 1 (s (r ahV) (.block 2 (.loop (s (s (r ahW) (.cond (.t 24) .skip (.exit 2))) (s (.block 3 (s (r ahX) (s (s (r ahY) (.cond (.t 35) (.exit 3) .skip)) (s (.bX aaX ahZ) (s (s (r ahD) (.cond (.t 70) (r ahE) .skip)) (s (s (r ahF) (.cond (.t 74) (s (s (r ahG) (.cond (.t 78) (.exit 3) .skip)) (s (r ahH) (.bX aaV ahI))) .skip)) (s (s (r ahJ) (.cond (.t 91) (s (r ahK) (s (r ahL) (.cond (.t 97) (.bX aaW ahM) .skip))) .skip)) (s (r ahO) (r ahP))))))))) (r ahQ))))))) (r ahR)))))) (s (r ahS) .ret)))))
def Pc:List bj:=[.tmp 6]
theorem Xj:bH Tryz.prog Tryz.f23 Dd:=e (by kernel_rfl)
theorem Zw:bI Tryz.prog Tryz.f23 Pc:=e (by kernel_rfl)
theorem Vf:bG Tryz.prog 23:=e (by kernel_rfl)
def JS:=[o 2 (.alloc (.agg [.agg [.int .i64 0,.int .i64 0,.int .i64 0,.int .i64 0,.int .i64 0],.int .i64 0,.nils 7]))]
def JT:=[m 7 0,o 8 (.call 85 [.t 7]),m 9 0,o 10 (.call 34 [.t 9,(aj 5)]),o 11 (.call 25 [.t 10,(aj 2)]),o 12 (.bld [.agg [.int .i64 0,.int .i64 0,.int .i64 0,.int .i64 0,.int .i64 0],.int .i64 0,.nils 7] [(0,(.t 8)),(1,(.t 11))]),o 3 (.alloc (.agg [.agg [.int .i64 0,.int .i64 0,.int .i64 0,.int .i64 0,.int .i64 0],.int .i64 0,.nils 7])),p (.bu (some 7) (.t 3) (.t 12))]
def JU:=[bh 4 0]
def JV:=[bh 5 0]
def JW:=[m 13 5,m 14 0,o 15 (.len (.t 14)),lt 16 13 15,m 17 16,di 18 5 17,bW 19 (.bin .lss (.t 18) (aj 12)) 17,and 20 17 19,m 21 20,ef 22 2 6 3 21,e9 23 22 21,bW 24 (.len (.t 23)) 21,bW 25 (.bin .lss (.t 24) (aj 9)) 21,and 26 21 25]
def JX:=[m 29 4,m 30 0,m 31 5,o 32 (.is 1 (.t 30) (.t 31)),l 33 32,o 34 (.call 25 [.t 33,(aj 4)]),o 35 (.bin .add (aj 1) (.t 34)),o 36 (.bin .add (.t 29) (.t 35)),m 4 36]
def JY:=[m 37 4,m 38 0,m 39 5,o 40 (.is 1 (.t 38) (.t 39)),l 41 40,o 42 (.bin .mul (.t 41) (aj 7)),m 43 5,o 44 (.bin .mul (.t 43) (aj 2503)),o 45 (.bin .add (.t 42) (.t 44)),o 46 (.call 25 [.t 45,(aj 15625)]),o 47 (.call 86 [.t 46]),o 48 (.bld [.int .i64 0,.agg [.int .i64 0,.int .i64 0,.int .i64 0,.int .i64 0,.int .i64 0,.int .i64 0]] [(0,(.t 37)),(1,(.t 47))]),o 6 (.alloc (.agg [.int .i64 0,.agg [.int .i64 0,.int .i64 0,.int .i64 0,.int .i64 0,.int .i64 0,.int .i64 0]])),p (.bu (some 7) (.t 6) (.t 48))]
def JZ:=[ay 49 7 3,f 50 1 1 6,ay 51 6 50,o 52 (.call 87 [.t 49,.t 51]),no 53 52]
def J0:=[f 54 2 6 3,l 55 54,ay 56 7 6,o 57 (.bs 63 7 [.t 56]),o 58 (.dH 63 7 56 (.agg [.int .i64 0,.agg [.int .i64 0,.int .i64 0,.int .i64 0,.int .i64 0,.int .i64 0,.int .i64 0]]) (.t 55) (.t 57)),f 59 2 6 3,p (.bu none (.t 59) (.t 58))]
def x9:=[m 27 5,ad 28 27 1,m 5 28]
def tX:=[ay 60 7 3,p (.bu (some 7) (.t 2) (.t 60))]
def De:aR:=(s (r JS) (s (r JT) (s (r JU) (s (s (r JV) (.block 0 (.loop (s (s (r JW) (.cond (.t 26) .skip (.exit 0))) (s (.block 1 (s (r JX) (s (r JY) (s (r JZ) (.cond (.t 53) (r J0) .skip))))) (r x9)))))) (s (r tX) .ret)))))
def Pd:List bj:=[.cell 2 (some 7)]
theorem Xk:bH Tryz.prog Tryz.f24 De:=e (by kernel_rfl)
theorem Zx:bI Tryz.prog Tryz.f24 Pd:=e (by kernel_rfl)
theorem Vg:bG Tryz.prog 24:=e (by kernel_rfl)
def J1:=[bh 4 0]
def J2:=[m 5 0,m 6 1,o 7 (.bin .rem (.t 5) (.t 6)),m 8 1,o 9 (.bin .add (.t 7) (.t 8)),m 10 1,o 11 (.bin .rem (.t 9) (.t 10)),m 4 11]
def Df:aR:=(s (r J1) (s (r J2) .ret))
def Pe:List bj:=[.tmp 4]
theorem Xl:bH Tryz.prog Tryz.f25 Df:=e (by kernel_rfl)
theorem Zy:bI Tryz.prog Tryz.f25 Pe:=e (by kernel_rfl)
theorem Vh:bG Tryz.prog 25:=e (by kernel_rfl)
def ah0:=[o 6 (.mv (.c (.nils 1))),bh 7 0]
def ah1:=[m 11 0,m 12 1,m 13 2,o 14 (.bs 3 1 [.t 12,.t 13]),o 15 (.call 67 [.t 11,(.c (.nils 2)),.t 14]),m 8 15]
def ah2:=[m 16 8,o 17 (.bin .neq (.t 16) (aj 0))]
def ah3:=[m 18 8,o 6 (.mv (.c (.nils 1))),m 7 18]
def ah4:=[m 20 0,m 21 1,m 22 2,o 23 (.call 88 [.t 20,.t 21,.t 22]),m 19 23,o 24 (.ext (.t 19) 0),o 25 (.ext (.t 19) 1),m 9 24,m 10 25]
def ah5:=[m 26 9,o 27 (.call 72 [.t 26,(.c (.func 89 []))]),m 6 27,bh 7 0]
def Dg:aR:=(s (r ah0) (s (s (r ah1) (s (r ah2) (.cond (.t 17) (s (r ah3) .ret) .skip))) (s (r ah4) (s (r ah5) .ret))))
def Pf:List bj:=[.tmp 6,.tmp 7]
theorem Xm:bH Tryz.prog Tryz.f26 Dg:=e (by kernel_rfl)
theorem Zz:bI Tryz.prog Tryz.f26 Pf:=e (by kernel_rfl)
theorem Vi:bG Tryz.prog 26:=e (by kernel_rfl)
def ah6:=[bh 8 0,bh 9 0]
def ah7:=[m 14 0,m 15 1,o 16 (.bld [.int .i64 0,.int .i64 0] [(0,(.t 15)),(1,(aj 9999))]),o 17 (.bs 28 2 [.t 16]),m 18 2,m 19 3,o 20 (.bs 3 1 [.t 18,.t 19]),o 21 (.call 67 [.t 14,.t 17,.t 20]),m 10 21]
def ah9:=[m 22 10,o 23 (.bin .neq (.t 22) (aj 0))]
def aia:=[m 24 10,bh 8 0,m 9 24]
def aib:=[m 26 0,m 27 2,m 28 3,o 29 (.call 88 [.t 26,.t 27,.t 28]),m 25 29,o 30 (.ext (.t 25) 0),o 31 (.ext (.t 25) 1),m 11 30,m 12 31]
def aic:=[m 32 11,o 33 (.nilC (.t 32)),f 34 0 0 33,l 35 34,m 36 1,o 37 (.lk (.i .i64) (.nilp) false (.t 35) (.t 36)),m 13 37]
def aid:=[m 39 13,o 40 (.ptrE false (.t 39) (.c (.nilp))),m 38 40]
def aie:=[bh 8 0,bh 9 42]
def aif:=[m 42 13,o 43 (.call 90 [.t 42]),m 41 43]
def aih:=[bh 8 0,bh 9 0]
def ah8:=[m 44 13,o 45 (.nilC (.t 44)),f 46 0 0 45,f 47 3 3 46,l 48 47,m 8 48,bh 9 0]
def Di:aR:=(s (r ah6) (s (s (r ah7) (s (r ah9) (.cond (.t 23) (s (r aia) .ret) .skip))) (s (r aib) (s (r aic) (s (.block 0 (s (r aid) (.cond (.t 38) (s (r aie) .ret) (s (r aif) (.cond (.t 41) (s (r aih) .ret) .skip))))) (s (r ah8) .ret))))))
def Pg:List bj:=[.tmp 8,.tmp 9]
theorem Xn:bH Tryz.prog Tryz.f27 Di:=e (by kernel_rfl)
theorem ZA:bI Tryz.prog Tryz.f27 Pg:=e (by kernel_rfl)
theorem Vj:bG Tryz.prog 27:=e (by kernel_rfl)
def aii:=[b 6 1,b 7 2,bh 10 0,bh 11 0]
def aij:=[m 15 0,l 16 6,o 17 (.bld [.int .i64 0,.int .i64 0] [(0,(.t 16)),(1,(aj 99))]),l 18 7,o 19 (.bld [.int .i64 0,.int .i64 0] [(0,(.t 18)),(1,(aj 9))]),o 20 (.bs 28 2 [.t 17,.t 19]),m 21 3,m 22 4,o 23 (.bs 3 1 [.t 21,.t 22]),o 24 (.call 67 [.t 15,.t 20,.t 23]),m 12 24]
def aik:=[m 25 12,o 26 (.bin .neq (.t 25) (aj 0))]
def ail:=[m 27 12,bh 10 0,m 11 27]
def aim:=[m 29 0,m 30 3,m 31 4,o 32 (.call 88 [.t 29,.t 30,.t 31]),m 28 32,o 33 (.ext (.t 28) 0),o 34 (.ext (.t 28) 1),m 13 33,m 14 34]
def ain:=[m 35 13,o 36 (.mk 91 [.t 6,.t 7]),o 37 (.call 72 [.t 35,.t 36]),o 38 (.len (.t 37)),m 10 38,bh 11 0]
def Dj:aR:=(s (r aii) (s (s (r aij) (s (r aik) (.cond (.t 26) (s (r ail) .ret) .skip))) (s (r aim) (s (r ain) .ret))))
def Ph:List bj:=[.tmp 10,.tmp 11]
theorem Xo:bH Tryz.prog Tryz.f28 Dj:=e (by kernel_rfl)
theorem ZB:bI Tryz.prog Tryz.f28 Ph:=e (by kernel_rfl)
theorem Vk:bG Tryz.prog 28:=e (by kernel_rfl)
def J3:=[bh 4 0]
def J4:=[m 5 0,o 6 (.len (.t 5)),o 7 (.bin .eql (.t 6) (aj 0))]
def J5:=[bh 4 0]
def J6:=[m 8 0,m 9 1,m 10 0,o 11 (.len (.t 10)),o 12 (.call 25 [.t 9,.t 11]),o 13 (.is 1 (.t 8) (.t 12)),l 14 13,m 4 14]
def Dk:aR:=(s (r J3) (s (s (r J4) (.cond (.t 7) (s (r J5) .ret) .skip)) (s (r J6) .ret)))
def Pj:List bj:=[.tmp 4]
theorem Xp:bH Tryz.prog Tryz.f34 Dk:=e (by kernel_rfl)
theorem ZC:bI Tryz.prog Tryz.f34 Pj:=e (by kernel_rfl)
theorem Vl:bG Tryz.prog 34:=e (by kernel_rfl)
def J7:=[b 3 0,b 4 1,o 6 (.alloc (.agg [.int .i64 0,.int .i64 0,.int .i64 0,.int .i64 0,.int .i64 0,.int .i64 0]))]
def J8:=[f 13 0 0 3,ay 14 5 13,ay 15 6 4,m 16 2,o 17 (.call 98 [.t 14,.t 15,.t 16]),m 12 17,o 18 (.ext (.t 12) 0),o 19 (.ext (.t 12) 1),o 7 (.alloc (.agg [.int .i64 0,.int .i64 0,.int .i64 0,.int .i64 0,.int .i64 0,.int .i64 0])),p (.bu (some 6) (.t 7) (.t 18)),m 8 19]
def Kb:=[bh 9 0]
def Kc:=[m 20 9,f 21 1 5 3,l 22 21,lt 23 20 22]
def Kd:=[m 26 2,m 27 9,ad 28 27 2,o 29 (.call 34 [.t 26,.t 28]),o 30 (.call 25 [.t 29,(aj 6)]),m 31 2,m 32 9,ad 33 32 5,o 34 (.call 34 [.t 31,.t 33]),o 35 (.call 25 [.t 34,(aj 5)]),o 36 (.bin .shl (aj 1) (.t 35)),o 37 (.ia 6 1 (.t 7) (.t 30)),p (.bu none (.t 37) (.t 36))]
def Ke:=[m 24 9,ad 25 24 1,m 9 25]
def Kf:=[bh 10 0]
def Kg:=[m 38 10,m 39 2,o 40 (.call 34 [.t 39,(aj 1)]),o 41 (.call 25 [.t 40,(aj 4)]),lt 42 38 41]
def Kh:=[m 45 2,m 46 10,ad 47 46 7,o 48 (.call 34 [.t 45,.t 47]),o 49 (.call 25 [.t 48,(aj 6)]),m 11 49]
def Ki:=[m 50 11,m 51 11,o 52 (.ia 6 1 (.t 7) (.t 51)),l 53 52,m 54 2,m 55 10,ad 56 55 3,o 57 (.call 34 [.t 54,.t 56]),o 58 (.call 25 [.t 57,(aj 32)]),o 59 (.bin .or (.t 53) (.t 58)),o 60 (.ia 6 1 (.t 7) (.t 50)),p (.bu none (.t 60) (.t 59))]
def aaY:=some [[],[],[1],[2],[],[],[5],[4,6],[7,7],[3,8],[0,0,1,2,3,4,5,6,7,8,9],[10,9,8,0,1,2,3,4,5,6,7,8,9]]
def J9:=[m 43 10,ad 44 43 1,m 10 44]
def Ka:=[ay 61 6 7,p (.bu (some 6) (.t 6) (.t 61))]
def Dl:aR:=(s (r J7) (s (r J8) (s (s (r Kb) (.block 0 (.loop (s (s (r Kc) (.cond (.t 23) .skip (.exit 0))) (s (.block 1 (r Kd)) (r Ke)))))) (s (s (r Kf) (.block 2 (.loop (s (s (r Kg) (.cond (.t 42) .skip (.exit 2))) (s (.block 3 (s (r Kh) (.bX aaY Ki))) (r J9)))))) (s (r Ka) .ret)))))
def Pk:List bj:=[.cell 6 (some 6)]
theorem Xq:bH Tryz.prog Tryz.f35 Dl:=e (by kernel_rfl)
theorem ZD:bI Tryz.prog Tryz.f35 Pk:=e (by kernel_rfl)
theorem Vm:bG Tryz.prog 35:=e (by kernel_rfl)
def Kj:=[o 4 (.mv bB)]
def Kk:=[bh 5 0]
def Kl:=[m 6 5,m 7 0,o 8 (.len (.t 7)),lt 9 6 8]
def Km:=[m 12 0,m 13 5,o 14 (.is 1 (.t 12) (.t 13)),l 15 14,m 16 1,o 17 (.bin .eql (.t 15) (.t 16))]
def Kn:=[o 4 (.mv T)]
def Ko:=[m 10 5,ad 11 10 1,m 5 11]
def Kp:=[o 4 (.mv bB)]
def Dm:aR:=(s (r Kj) (s (s (r Kk) (.block 0 (.loop (s (s (r Kl) (.cond (.t 9) .skip (.exit 0))) (s (.block 1 (s (r Km) (.cond (.t 17) (s (r Kn) .ret) .skip))) (r Ko)))))) (s (r Kp) .ret)))
def Pl:List bj:=[.tmp 4]
theorem Xr:bH Tryz.prog Tryz.f36 Dm:=e (by kernel_rfl)
theorem ZE:bI Tryz.prog Tryz.f36 Pl:=e (by kernel_rfl)
theorem Vn:bG Tryz.prog 36:=e (by kernel_rfl)
def aio:=[o 6 (.alloc (.agg [.int .i64 0,.int .i64 0,.int .i64 0,.int .i64 0,.int .i64 0,.int .i64 0,.int .i64 0,.bool false,.nils 6])),bh 7 0]
def aip:=[m 10 0,m 11 1,o 12 (.bld [.int .i64 0,.int .i64 0] [(0,(.t 11)),(1,(aj 9999))]),o 13 (.bs 28 2 [.t 12]),m 14 2,o 15 (.bs 3 1 [.t 14]),o 16 (.call 67 [.t 10,.t 13,.t 15]),m 8 16]
def aiq:=[m 17 8,o 18 (.bin .neq (.t 17) (aj 0))]
def air:=[o 19 (.bld [.int .i64 0,.int .i64 0,.int .i64 0,.int .i64 0,.int .i64 0,.int .i64 0,.int .i64 0,.bool false,.nils 6] []),m 20 8,p (.bu (some 9) (.t 6) (.t 19)),m 7 20]
def ais:=[m 21 0,m 22 2,o 23 (.call 68 [.t 21,.t 22]),o 24 (.nilC (.t 23)),f 25 0 0 24,l 26 25,m 27 1,o 28 (.lk (.i .i64) (.nilp) false (.t 26) (.t 27)),m 9 28]
def ait:=[m 29 9,o 30 (.ptrE false (.t 29) (.c (.nilp)))]
def aiu:=[o 31 (.bld [.int .i64 0,.int .i64 0,.int .i64 0,.int .i64 0,.int .i64 0,.int .i64 0,.int .i64 0,.bool false,.nils 6] []),p (.bu (some 9) (.t 6) (.t 31)),bh 7 42]
def aiv:=[m 32 9,o 33 (.nilC (.t 32)),f 34 0 0 33,ay 35 9 34,p (.bu (some 9) (.t 6) (.t 35)),bh 7 0]
def Dn:aR:=(s (r aio) (s (s (r aip) (s (r aiq) (.cond (.t 18) (s (r air) .ret) .skip))) (s (r ais) (s (s (r ait) (.cond (.t 30) (s (r aiu) .ret) .skip)) (s (r aiv) .ret)))))
def Pm:List bj:=[.cell 6 (some 9),.tmp 7]
theorem Xs:bH Tryz.prog Tryz.f39 Dn:=e (by kernel_rfl)
theorem ZF:bI Tryz.prog Tryz.f39 Pm:=e (by kernel_rfl)
theorem Vo:bG Tryz.prog 39:=e (by kernel_rfl)
def aiw:=[o 2 (.mv (.c (.nils 1))),bh 3 0]
def aix:=[m 8 0,o 9 (.call 64 [.t 8]),m 4 9]
def aiz:=[m 10 4,o 11 (.bin .neq (.t 10) (aj 0))]
def aiA:=[m 12 4,o 2 (.mv (.c (.nils 1))),m 3 12]
def aiB:=[o 5 (.mv (.c (.nils 1)))]
def aiC:=[m 13 0,o 14 (.len (.t 13)),bh 15 0]
def Kr:=[lt 16 15 14]
def aiD:=[o 17 (.is 17 (.t 13) (.t 15)),ay 18 17 17,o 7 (.alloc (.agg [.agg [.int .i64 0,.int .i64 0],.int .i64 0,.int .i64 0,.int .i64 0,.int .i64 0,.int .i64 0,.int .i64 0,.int .i64 0,.agg [.int .i64 0,.int .i64 0,.int .i64 0,.int .i64 0,.int .i64 0,.int .i64 0],.agg [.int .i64 0,.int .i64 0]])),p (.bu (some 17) (.t 7) (.t 18))]
def aiE:=[m 19 5,f 20 3 4 7,l 21 20,o 22 (.bs 3 1 [.t 21]),o 23 (.dH 3 1 8 (.int .i64 0) (.t 19) (.t 22)),m 5 23]
def aiF:=[ad 24 15 1,m 15 24]
def aiy:=[m 25 5,o 26 (.call 107 [.t 25])]
def Kq:=[m 27 5,o 28 (.call 108 [.t 27]),m 2 28,bh 3 0]
def Dp:aR:=(s (r aiw) (s (s (r aix) (s (r aiz) (.cond (.t 11) (s (r aiA) .ret) .skip))) (s (r aiB) (s (s (r aiC) (.block 0 (.loop (s (r Kr) (s (.cond (.t 16) .skip (.exit 0)) (s (.block 1 (s (r aiD) (r aiE))) (r aiF))))))) (s (r aiy) (s (r Kq) .ret))))))
def Po:List bj:=[.tmp 2,.tmp 3]
theorem Xu:bH Tryz.prog Tryz.f44 Dp:=e (by kernel_rfl)
theorem ZH:bI Tryz.prog Tryz.f44 Po:=e (by kernel_rfl)
theorem Vq:bG Tryz.prog 44:=e (by kernel_rfl)
def aiG:=[b 2 0,b 3 1,o 4 (.mv bB)]
def aiH:=[f 6 0 0 2,l 7 6,f 8 0 0 3,l 9 8,o 10 (.bin .neq (.t 7) (.t 9)),m 11 10,fn 12 1 1 2 11,fY 13 12 11,fn 14 1 1 3 11,fY 15 14 11,on 16 (.bin .neq (.t 13) (.t 15)) 11,or 17 11 16,m 18 17,fn 19 2 2 2 18,fY 20 19 18,fn 21 2 2 3 18,fY 22 21 18,on 23 (.bin .neq (.t 20) (.t 22)) 18,or 24 18 23,m 25 24,fn 26 3 3 2 25,fY 27 26 25,fn 28 3 3 3 25,fY 29 28 25,on 30 (.bin .neq (.t 27) (.t 29)) 25,or 31 25 30,m 32 31,fn 33 4 4 2 32,fY 34 33 32,fn 35 4 4 3 32,fY 36 35 32,on 37 (.bin .neq (.t 34) (.t 36)) 32,or 38 32 37,m 39 38,fn 40 5 5 2 39,fY 41 40 39,fn 42 5 5 3 39,fY 43 42 39,on 44 (.bin .neq (.t 41) (.t 43)) 39,or 45 39 44,m 46 45,fn 47 6 6 2 46,fY 48 47 46,fn 49 6 6 3 46,fY 50 49 46,on 51 (.bin .neq (.t 48) (.t 50)) 46,or 52 46 51,m 53 52,fn 54 7 7 2 53,fY 55 54 53,fn 56 7 7 3 53,fY 57 56 53,on 58 (.eqv .b true (.t 55) (.t 57)) 53,or 59 53 58,m 60 59,fn 61 8 8 2 60,fY 62 61 60,on 63 (.len (.t 62)) 60,fn 64 8 8 3 60,fY 65 64 60,on 66 (.len (.t 65)) 60,on 67 (.bin .neq (.t 63) (.t 66)) 60,or 68 60 67]
def aiI:=[o 4 (.mv bB)]
def aiJ:=[bh 5 0]
def aiK:=[m 69 5,f 70 8 8 2,l 71 70,o 72 (.len (.t 71)),lt 73 69 72]
def aiL:=[f 76 8 8 2,l 77 76,m 78 5,o 79 (.is 6 (.t 77) (.t 78)),ay 80 6 79,f 81 8 8 3,l 82 81,m 83 5,o 84 (.is 6 (.t 82) (.t 83)),ay 85 6 84,o 86 (.eqv (.kj 6 (.i .i64)) true (.t 80) (.t 85))]
def aaZ:=some [[],[0],[],[1,2],[3],[],[5],[],[6,7],[8],[4,9]]
def aiM:=[o 4 (.mv bB)]
def aiN:=[m 74 5,ad 75 74 1,m 5 75]
def aiO:=[o 4 (.mv T)]
def Dq:aR:=(s (r aiG) (s (s (r aiH) (.cond (.t 68) (s (r aiI) .ret) .skip)) (s (s (r aiJ) (.block 0 (.loop (s (s (r aiK) (.cond (.t 73) .skip (.exit 0))) (s (.block 1 (s (.bX aaZ aiL) (.cond (.t 86) (s (r aiM) .ret) .skip))) (r aiN)))))) (s (r aiO) .ret))))
def Pp:List bj:=[.tmp 4]
theorem Xv:bH Tryz.prog Tryz.f47 Dq:=e (by kernel_rfl)
theorem ZI:bI Tryz.prog Tryz.f47 Pp:=e (by kernel_rfl)
theorem Vr:bG Tryz.prog 47:=e (by kernel_rfl)
def aiP:=[b 4 0,b 6 2,o 8 (.mv (.c (.nils 1))),bh 9 0]
def aiQ:=[ay 14 7 4,o 15 (.call 66 [.t 14]),m 10 15]
def aiS:=[m 16 10,o 17 (.bin .neq (.t 16) (aj 0))]
def aiT:=[m 18 10,o 8 (.mv (.c (.nils 1))),m 9 18]
def aiU:=[m 19 1,m 20 3,o 21 (.bs 3 1 [.t 20]),o 22 (.call 67 [.t 19,(.c (.nils 2)),.t 21]),m 11 22]
def aiV:=[m 23 11,o 24 (.bin .neq (.t 23) (aj 0))]
def aiW:=[m 25 11,o 8 (.mv (.c (.nils 1))),m 9 25]
def aiX:=[m 27 1,ay 28 2 6,o 29 (.call 103 [.t 27,.t 28]),m 26 29,o 30 (.ext (.t 26) 0),o 31 (.ext (.t 26) 1),m 12 30,m 13 31]
def aiY:=[m 32 13,no 33 32]
def aiZ:=[o 8 (.mv (.c (.nils 1))),bh 9 3]
def aiR:=[ay 34 7 4,m 35 1,m 36 3,o 37 (.call 68 [.t 35,.t 36]),m 38 1,m 39 12,o 40 (.call 78 [.t 38,.t 39]),m 41 3,o 42 (.call 68 [.t 40,.t 41]),o 43 (.call 109 [.t 34,.t 37,.t 42]),m 8 43,bh 9 0]
def aa0:=some [[],[],[],[1,2],[],[],[4,5,3],[],[6,7,6],[0,3,8,8],[9,9,0,1,2,3,4,5,6,7,8,9],[10,0,1,2,3,4,5,6,7,8,9,10]]
def Dr:aR:=(s (r aiP) (s (s (r aiQ) (s (r aiS) (.cond (.t 17) (s (r aiT) .ret) .skip))) (s (s (r aiU) (s (r aiV) (.cond (.t 24) (s (r aiW) .ret) .skip))) (s (r aiX) (s (s (r aiY) (.cond (.t 33) (s (r aiZ) .ret) .skip)) (s (.bX aa0 aiR) .ret))))))
def Pq:List bj:=[.tmp 8,.tmp 9]
theorem Xw:bH Tryz.prog Tryz.f48 Dr:=e (by kernel_rfl)
theorem ZJ:bI Tryz.prog Tryz.f48 Pq:=e (by kernel_rfl)
theorem Vs:bG Tryz.prog 48:=e (by kernel_rfl)
def ajs:=[o 4 (.mv (.c (.nils 17))),bh 5 0]
def ajt:=[m 6 0,o 7 (.call 64 [.t 6]),o 8 (.bin .neq (.t 7) (aj 0)),m 9 8,gW 10 1 9,on 11 (.call 64 [.t 10]) 9,on 12 (.bin .neq (.t 11) (aj 0)) 9,or 13 9 12]
def aju:=[o 4 (.mv (.c (.nils 17))),bh 5 41]
def ajv:=[m 14 0,m 15 1,o 16 (.call 112 [.t 14,.t 15]),o 17 (.ext (.t 16) 0),o 18 (.ext (.t 16) 1),m 4 17,m 5 18]
def Ds:aR:=(s (r ajs) (s (s (r ajt) (.cond (.t 13) (s (r aju) .ret) .skip)) (s (r ajv) .ret)))
def Pr:List bj:=[.tmp 4,.tmp 5]
theorem Xx:bH Tryz.prog Tryz.f52 Ds:=e (by kernel_rfl)
theorem ZK:bI Tryz.prog Tryz.f52 Pr:=e (by kernel_rfl)
theorem Vt:bG Tryz.prog 52:=e (by kernel_rfl)
def ajw:=[b 3 1,o 4 (.mv (.c (.nils 17))),bh 5 0]
def ajx:=[m 8 0,o 9 (.call 64 [.t 8]),m 6 9]
def ajy:=[m 10 6,o 11 (.bin .neq (.t 10) (aj 0))]
def ajz:=[m 12 6,o 4 (.mv (.c (.nils 17))),m 5 12]
def ajA:=[ay 13 17 3,o 14 (.call 62 [.t 13]),m 7 14]
def ajB:=[m 15 7,o 16 (.bin .neq (.t 15) (aj 0))]
def ajC:=[m 17 7,o 4 (.mv (.c (.nils 17))),m 5 17]
def ajD:=[m 18 0,ay 19 17 3,o 20 (.bs 68 17 [.t 19]),o 21 (.call 112 [.t 18,.t 20]),o 22 (.ext (.t 21) 0),o 23 (.ext (.t 21) 1),m 4 22,m 5 23]
def Dt:aR:=(s (r ajw) (s (s (r ajx) (s (r ajy) (.cond (.t 11) (s (r ajz) .ret) .skip))) (s (s (r ajA) (s (r ajB) (.cond (.t 16) (s (r ajC) .ret) .skip))) (s (r ajD) .ret))))
def Ps:List bj:=[.tmp 4,.tmp 5]
theorem Xy:bH Tryz.prog Tryz.f54 Dt:=e (by kernel_rfl)
theorem ZL:bI Tryz.prog Tryz.f54 Ps:=e (by kernel_rfl)
theorem Vu:bG Tryz.prog 54:=e (by kernel_rfl)
def ajE:=[b 1 0,bh 2 0]
def ajF:=[ay 3 17 1,o 4 (.call 117 [.t 3]),no 5 4]
def ajG:=[bh 2 40]
def ajH:=[bh 2 0]
def Du:aR:=(s (r ajE) (s (s (r ajF) (.cond (.t 5) (s (r ajG) .ret) .skip)) (s (r ajH) .ret)))
def Pt:List bj:=[.tmp 2]
theorem Xz:bH Tryz.prog Tryz.f62 Du:=e (by kernel_rfl)
theorem ZM:bI Tryz.prog Tryz.f62 Pt:=e (by kernel_rfl)
theorem Vv:bG Tryz.prog 62:=e (by kernel_rfl)
def Ks:=[bh 2 0]
def Kt:=[m 5 0,o 6 (.len (.t 5)),o 7 (.bin .gtr (.t 6) (aj 60))]
def ajI:=[bh 2 41]
def Ku:=[m 8 0,o 9 (.len (.t 8)),bh 10 0]
def ajJ:=[lt 11 10 9]
def ajK:=[m 12 10,o 13 (.is 17 (.t 8) (.t 10)),ay 14 17 13,o 4 (.alloc (.agg [.agg [.int .i64 0,.int .i64 0],.int .i64 0,.int .i64 0,.int .i64 0,.int .i64 0,.int .i64 0,.int .i64 0,.int .i64 0,.agg [.int .i64 0,.int .i64 0,.int .i64 0,.int .i64 0,.int .i64 0,.int .i64 0],.agg [.int .i64 0,.int .i64 0]])),m 3 12,p (.bu (some 17) (.t 4) (.t 14))]
def ajL:=[ay 15 17 4,o 16 (.call 117 [.t 15]),no 17 16,m 18 17,gW 19 3 18,on 20 (.bin .gtr (.t 19) (aj 0)) 18,gW 21 20 18,di 22 0 21,di 23 3 21,bW 24 (.bin .sub (.t 23) (aj 1)) 21,bW 25 (.is 17 (.t 22) (.t 24)) 21,ef 26 0 0 25 21,bW 27 (.ld (some 2) (.t 26)) 21,ef 28 0 0 4 21,bW 29 (.ld (some 2) (.t 28)) 21,bW 30 (.call 118 [.t 27,.t 29]) 21,bW 31 (.bin .geq (.t 30) (aj 0)) 21,on 32 (.pick (.t 21) (.t 31) bB) 18,or 33 18 32]
def aa1:=some [[],[0],[1],[2,1],[3],[4,3],[5,3,3],[6],[6],[8,6],[7,9,6],[10,6],[11,6],[6],[13,6],[12,14,6,6],[15,6],[6,16,3],[3,17]]
def ajM:=[bh 2 41]
def ajN:=[ad 34 10 1,m 10 34]
def ajO:=[bh 2 0]
def Dv:aR:=(s (r Ks) (s (s (r Kt) (.cond (.t 7) (s (r ajI) .ret) .skip)) (s (s (r Ku) (.block 0 (.loop (s (r ajJ) (s (.cond (.t 11) .skip (.exit 0)) (s (.block 1 (s (r ajK) (s (.bX aa1 ajL) (.cond (.t 33) (s (r ajM) .ret) .skip)))) (r ajN))))))) (s (r ajO) .ret))))
def Pu:List bj:=[.tmp 2]
theorem XA:bH Tryz.prog Tryz.f64 Dv:=e (by kernel_rfl)
theorem ZN:bI Tryz.prog Tryz.f64 Pu:=e (by kernel_rfl)
theorem Vw:bG Tryz.prog 64:=e (by kernel_rfl)
def Kv:=[b 1 0,bh 2 0]
def Kx:=[f 5 0 0 1,ay 6 5 5,o 7 (.call 120 [.t 6]),no 8 7,m 9 8,fn 10 1 5 1 9,fY 11 10 9,on 12 (.call 121 [.t 11,(aj 0),(aj 2)]) 9,on 13 (.un .not (.t 12)) 9,or 14 9 13,m 15 14,fn 16 2 6 1 15,fY 17 16 15,on 18 (.len (.t 17)) 15,on 19 (.bin .gtr (.t 18) (aj 40)) 15,or 20 15 19]
def tY:=[bh 2 13]
def Ky:=[f 21 2 6 1,l 22 21,o 23 (.len (.t 22)),bh 24 0]
def Kz:=[lt 25 24 23]
def KA:=[m 26 24,o 27 (.is 7 (.t 22) (.t 24)),ay 28 7 27,o 4 (.alloc (.agg [.int .i64 0,.agg [.int .i64 0,.int .i64 0,.int .i64 0,.int .i64 0,.int .i64 0,.int .i64 0]])),m 3 26,p (.bu (some 7) (.t 4) (.t 28))]
def KB:=[f 29 0 0 4,l 30 29,o 31 (.call 122 [.t 30]),no 32 31,m 33 32,fn 34 1 1 4 33,on 35 (.ld (some 6) (.t 34)) 33,on 36 (.call 123 [.t 35]) 33,on 37 (.un .not (.t 36)) 33,or 38 33 37,m 39 38,gW 40 3 39,on 41 (.bin .gtr (.t 40) (aj 0)) 39,gW 42 41 39,ef 43 2 6 1 42,e9 44 43 42,di 45 3 42,bW 46 (.bin .sub (.t 45) (aj 1)) 42,bW 47 (.is 7 (.t 44) (.t 46)) 42,ef 48 0 0 47 42,e9 49 48 42,ef 50 0 0 4 42,e9 51 50 42,bW 52 (.bin .geq (.t 49) (.t 51)) 42,on 53 (.pick (.t 42) (.t 52) bB) 39,or 54 39 53,m 55 54,on 56 (.ld (some 7) (.t 1)) 55,fn 57 2 6 1 55,fY 58 57 55,gW 59 3 55,on 60 (.sl 7 (.t 58) none (some (.t 59)) none) 55,fn 61 1 1 4 55,on 62 (.ld (some 6) (.t 61)) 55,on 63 (.call 124 [.t 56,.t 60,.t 62]) 55,on 64 (.un .not (.t 63)) 55,or 65 55 64]
def aa2:=some [[],[0],[1],[2],[3,2],[4],[5,4],[6,4,4],[7,4],[4,8],[9,7],[10],[11,10],[12,10,10],[13],[14,13],[13],[16,13],[15,17,13],[18,13],[19,13],[13],[21,13],[20,22,13],[13,23,10],[10,24],[25,13],[26],[26],[28,26],[26],[29,30,26],[26],[32,26],[27,31,33,26,26],[34,26],[26,35]]
def qz:=[bh 2 13]
def ya:=[ad 66 24 1,m 24 66]
def KC:=[bh 2 0]
def Dw:aR:=(s (r Kv) (s (s (r Kx) (.cond (.t 20) (s (r tY) .ret) .skip)) (s (s (r Ky) (.block 0 (.loop (s (r Kz) (s (.cond (.t 25) .skip (.exit 0)) (s (.block 1 (s (r KA) (s (.bX aa2 KB) (.cond (.t 65) (s (r qz) .ret) .skip)))) (r ya))))))) (s (r KC) .ret))))
def Pv:List bj:=[.tmp 2]
theorem XB:bH Tryz.prog Tryz.f66 Dw:=e (by kernel_rfl)
theorem ZO:bI Tryz.prog Tryz.f66 Pv:=e (by kernel_rfl)
theorem Vx:bG Tryz.prog 66:=e (by kernel_rfl)
def ajP:=[bh 6 0]
def ajQ:=[m 10 0,o 11 (.call 64 [.t 10]),m 7 11]
def ajU:=[m 12 7,o 13 (.bin .neq (.t 12) (aj 0))]
def ajV:=[m 14 7,m 6 14]
def ajW:=[m 15 1,o 16 (.len (.t 15)),bh 17 0]
def ajX:=[lt 18 17 16]
def ajY:=[o 19 (.is 2 (.t 15) (.t 17)),ay 20 2 19,o 9 (.alloc (.agg [.int .i64 0,.int .i64 0])),p (.bu (some 2) (.t 9) (.t 20))]
def ajZ:=[o 21 (.ia 2 1 (.t 9) (aj 0)),l 22 21,o 23 (.ia 2 1 (.t 9) (aj 1)),l 24 23,o 25 (.call 114 [.t 22,(aj 1),.t 24]),no 26 25]
def aj0:=[bh 6 1]
def aj1:=[ad 27 17 1,m 17 27]
def ajR:=[m 28 2,o 29 (.call 125 [.t 28,(.c (.func 126 []))])]
def ajS:=[bh 6 6]
def ajT:=[bh 6 0]
def Dy:aR:=(s (r ajP) (s (s (r ajQ) (s (r ajU) (.cond (.t 13) (s (r ajV) .ret) .skip))) (s (s (r ajW) (.block 0 (.loop (s (r ajX) (s (.cond (.t 18) .skip (.exit 0)) (s (.block 1 (s (r ajY) (s (r ajZ) (.cond (.t 26) (s (r aj0) .ret) .skip)))) (r aj1))))))) (s (s (r ajR) (.cond (.t 29) (s (r ajS) .ret) .skip)) (s (r ajT) .ret)))))
def Pw:List bj:=[.tmp 6]
theorem XC:bH Tryz.prog Tryz.f67 Dy:=e (by kernel_rfl)
theorem ZP:bI Tryz.prog Tryz.f67 Pw:=e (by kernel_rfl)
theorem Vy:bG Tryz.prog 67:=e (by kernel_rfl)
def aj2:=[o 4 (.mv (.c (.nilp)))]
def aj3:=[m 8 0,m 9 1,o 10 (.call 88 [.t 8,(aj 100000),.t 9]),m 7 10,o 11 (.ext (.t 7) 0),o 12 (.ext (.t 7) 1),m 5 11,m 6 12]
def aj4:=[m 13 5,m 4 13]
def Dz:aR:=(s (r aj2) (s (r aj3) (s (r aj4) .ret)))
def Px:List bj:=[.tmp 4]
theorem XD:bH Tryz.prog Tryz.f68 Dz:=e (by kernel_rfl)
theorem ZQ:bI Tryz.prog Tryz.f68 Px:=e (by kernel_rfl)
theorem Vz:bG Tryz.prog 68:=e (by kernel_rfl)
def aj5:=[b 2 0,o 4 (.mv (.c (.nils 1)))]
def aj6:=[ay 8 7 2,m 9 1,o 10 (.nilC (.t 9)),f 11 0 0 10,f 12 8 8 11,l 13 12,o 14 (.call 128 [.t 8,.t 13]),m 7 14,o 15 (.ext (.t 7) 0),o 16 (.ext (.t 7) 1),m 5 15,m 6 16]
def aa3:=some [[],[],[1],[2],[3],[4],[0,5],[6],[7],[7],[8,6,0,1,2,3,4,5,6,7,8],[9,10,0,1,2,3,4,5,6,7,8,9,10]]
def aj7:=[m 17 5,m 4 17]
def DA:aR:=(s (r aj5) (s (.bX aa3 aj6) (s (r aj7) .ret)))
def Py:List bj:=[.tmp 4]
theorem XE:bH Tryz.prog Tryz.f69 DA:=e (by kernel_rfl)
theorem ZR:bI Tryz.prog Tryz.f69 Py:=e (by kernel_rfl)
theorem VA:bG Tryz.prog 69:=e (by kernel_rfl)
def KD:=[o 4 (.mv (.c (.nils 1)))]
def KE:=[o 5 (.mv (.c (.nils 1)))]
def KF:=[m 8 0,o 9 (.nilC (.t 8)),f 10 0 0 9,l 11 10,o 12 (.ln (.t 11))]
def yb:=[o 13 (.j7 (.t 12)),o 14 (.ext (.t 13) 0)]
def KG:=[o 15 (.ent (.t 12)),o 16 (.ext (.t 15) 0),o 17 (.ext (.t 15) 1),m 6 16,m 7 17]
def KH:=[m 18 1,m 19 7,o 20 (.eM (.t 18) [.t 19])]
def aj8:=[m 21 5,m 22 6,o 23 (.bs 3 1 [.t 22]),o 24 (.dH 3 1 8 (.int .i64 0) (.t 21) (.t 23)),m 5 24]
def aj9:=[m 25 5,o 26 (.call 107 [.t 25])]
def aka:=[m 27 5,m 4 27]
def DB:aR:=(s (r KD) (s (r KE) (s (s (r KF) (.block 0 (.loop (s (r yb) (s (.cond (.t 14) .skip (.exit 0)) (.block 1 (s (r KG) (s (r KH) (.cond (.t 20) (r aj8) .skip))))))))) (s (r aj9) (s (r aka) .ret)))))
def Pz:List bj:=[.tmp 4]
theorem XF:bH Tryz.prog Tryz.f72 DB:=e (by kernel_rfl)
theorem ZS:bI Tryz.prog Tryz.f72 Pz:=e (by kernel_rfl)
theorem VB:bG Tryz.prog 72:=e (by kernel_rfl)
def akb:=[o 3 (.mv bB)]
def akc:=[m 4 0,o 5 (.nilC (.t 4)),f 6 0 0 5,f 7 4 4 6,l 8 7,o 9 (.bin .gtr (.t 8) (aj 0)),m 10 9,bW 11 (.ld (some 7) (.t 1)) 10,di 12 0 10,bW 13 (.call 69 [.t 11,.t 12]) 10,di 14 0 10,bW 15 (.nilC (.t 14)) 10,ef 16 0 0 15 10,ef 17 4 4 16 10,e9 18 17 10,bW 19 (.call 74 [.t 13,.t 18]) 10,bW 20 (.un .not (.t 19)) 10,and 21 10 20,m 3 21]
def aa4:=some [[],[0],[1],[2],[3],[4],[5],[6],[6],[7,8,6,6],[6],[10,6],[11,6],[12,6],[13,6],[9,14,9,6],[15,6],[6,16],[17,15,0,1,2,3,4,5,6,7,8,9,10,11,12,13,14,15,16,17]]
def DC:aR:=(s (r akb) (s (.bX aa4 akc) .ret))
def PA:List bj:=[.tmp 3]
theorem XG:bH Tryz.prog Tryz.f73 DC:=e (by kernel_rfl)
theorem ZT:bI Tryz.prog Tryz.f73 PA:=e (by kernel_rfl)
theorem VC:bG Tryz.prog 73:=e (by kernel_rfl)
def akd:=[o 4 (.mv bB)]
def ake:=[m 5 0,m 6 1,o 7 (.call 131 [.t 5,.t 6]),o 8 (.bin .geq (.t 7) (aj 0)),m 4 8]
def DE:aR:=(s (r akd) (s (r ake) .ret))
def PB:List bj:=[.tmp 4]
theorem XH:bH Tryz.prog Tryz.f74 DE:=e (by kernel_rfl)
theorem ZU:bI Tryz.prog Tryz.f74 PB:=e (by kernel_rfl)
theorem VD:bG Tryz.prog 74:=e (by kernel_rfl)
def akf:=[b 3 0,o 6 (.mv bB)]
def akg:=[m 8 1,o 9 (.ptrE false (.t 8) (.c (.nilp))),m 10 9,gW 11 2 10,on 12 (.ptrE false (.t 11) (.c (.nilp))) 10,or 13 10 12]
def akh:=[m 14 1,m 15 2,o 16 (.ptrE false (.t 14) (.t 15)),m 6 16]
def aki:=[o 7 (.mv (.c (.func 133 [])))]
def akj:=[m 17 7,m 18 1,o 19 (.eM (.t 17) [.t 18]),m 20 7,m 21 2,o 22 (.eM (.t 20) [.t 21]),o 23 (.eqv (.kj 8 (.i .i64)) false (.t 19) (.t 22)),m 24 23,bW 25 (.ld (some 7) (.t 3)) 24,di 26 1 24,bW 27 (.call 69 [.t 25,.t 26]) 24,bW 28 (.ld (some 7) (.t 3)) 24,di 29 2 24,bW 30 (.call 69 [.t 28,.t 29]) 24,bW 31 (.call 134 [.t 27,.t 30]) 24,and 32 24 31,m 6 32]
def aa5:=some [[],[],[0,1],[],[],[3,4,2],[2,5],[6,5],[7],[7],[8,9,7,7],[7],[7],[11,12,10,7],[10,13,13,7],[7,14],[15,14,0,1,2,3,4,5,6,7,8,9,10,11,12,13,14,15]]
def tu:aR:=(s (r akf) (s (s (r akg) (.cond (.t 13) (s (r akh) .ret) .skip)) (s (r aki) (s (.bX aa5 akj) .ret))))
def u9:List bj:=[.tmp 6]
theorem wI:bH Tryz.prog Tryz.f77 tu:=e (by kernel_rfl)
theorem wV:bI Tryz.prog Tryz.f77 u9:=e (by kernel_rfl)
theorem wF:bG Tryz.prog 77:=e (by kernel_rfl)
def KI:=[o 4 (.mv (.c (.nils 17)))]
def KJ:=[m 5 0,o 6 (.call 136 [.t 5]),m 7 1,m 8 1,ad 9 8 1,o 10 (.call 135 [.t 6,.t 7,.t 9]),m 4 10]
def DF:aR:=(s (r KI) (s (r KJ) .ret))
def PC:List bj:=[.tmp 4]
theorem XI:bH Tryz.prog Tryz.f78 DF:=e (by kernel_rfl)
theorem ZV:bI Tryz.prog Tryz.f78 PC:=e (by kernel_rfl)
theorem VE:bG Tryz.prog 78:=e (by kernel_rfl)
def KK:=[o 0 (.mv (.c (.nils 17)))]
def KL:=[o 1 (.bld [.agg [.int .i64 0,.int .i64 0],.int .i64 0,.int .i64 0,.int .i64 0,.int .i64 0,.int .i64 0,.int .i64 0,.int .i64 0,.agg [.int .i64 0,.int .i64 0,.int .i64 0,.int .i64 0,.int .i64 0,.int .i64 0],.agg [.int .i64 0,.int .i64 0]] [(1,(aj 1)),(2,(aj 1)),(3,(aj 1)),(4,(aj 10)),(6,(aj 3)),(7,(aj 2))]),o 2 (.bld [.int .i64 0,.int .i64 0] [(1,(aj 1))]),o 3 (.bld [.agg [.int .i64 0,.int .i64 0],.int .i64 0,.int .i64 0,.int .i64 0,.int .i64 0,.int .i64 0,.int .i64 0,.int .i64 0,.agg [.int .i64 0,.int .i64 0,.int .i64 0,.int .i64 0,.int .i64 0,.int .i64 0],.agg [.int .i64 0,.int .i64 0]] [(0,(.t 2)),(1,(aj 1)),(2,(aj 5)),(3,(aj 5)),(4,(aj 11)),(6,(aj 3)),(7,(aj 2)),(5,(aj 10))]),o 4 (.bld [.int .i64 0,.int .i64 0] [(1,(aj 2))]),o 5 (.bld [.agg [.int .i64 0,.int .i64 0],.int .i64 0,.int .i64 0,.int .i64 0,.int .i64 0,.int .i64 0,.int .i64 0,.int .i64 0,.agg [.int .i64 0,.int .i64 0,.int .i64 0,.int .i64 0,.int .i64 0,.int .i64 0],.agg [.int .i64 0,.int .i64 0]] [(0,(.t 4)),(1,(aj 2)),(2,(aj 6)),(3,(aj 6)),(4,(aj 20)),(6,(aj 3))]),o 6 (.bld [.int .i64 0,.int .i64 0] [(1,(aj 3))]),o 7 (.bld [.int .i64 0,.int .i64 0,.int .i64 0,.int .i64 0,.int .i64 0,.int .i64 0] [(0,(aj 31)),(1,(aj 1)),(2,(aj 1)),(3,(aj 1)),(4,(aj 1)),(5,(aj 31))]),o 8 (.bld [.agg [.int .i64 0,.int .i64 0],.int .i64 0,.int .i64 0,.int .i64 0,.int .i64 0,.int .i64 0,.int .i64 0,.int .i64 0,.agg [.int .i64 0,.int .i64 0,.int .i64 0,.int .i64 0,.int .i64 0,.int .i64 0],.agg [.int .i64 0,.int .i64 0]] [(0,(.t 6)),(1,(aj 4)),(2,(aj 6)),(3,(aj 6)),(4,(aj 20)),(8,(.t 7))]),o 9 (.bld [.int .i64 0,.int .i64 0] [(1,(aj 4))]),o 10 (.bld [.agg [.int .i64 0,.int .i64 0],.int .i64 0,.int .i64 0,.int .i64 0,.int .i64 0,.int .i64 0,.int .i64 0,.int .i64 0,.agg [.int .i64 0,.int .i64 0,.int .i64 0,.int .i64 0,.int .i64 0,.int .i64 0],.agg [.int .i64 0,.int .i64 0]] [(0,(.t 9)),(1,(aj 3)),(2,(aj 7)),(3,(aj 7)),(4,(aj 10)),(7,(aj 1))]),o 11 (.bld [.int .i64 0,.int .i64 0] [(1,(aj 5))]),o 12 (.bld [.int .i64 0,.int .i64 0,.int .i64 0,.int .i64 0,.int .i64 0,.int .i64 0] [(0,(aj 24)),(1,(aj 1)),(2,(aj 1)),(3,(aj 1)),(4,(aj 1)),(5,(aj 31))]),o 13 (.bld [.agg [.int .i64 0,.int .i64 0],.int .i64 0,.int .i64 0,.int .i64 0,.int .i64 0,.int .i64 0,.int .i64 0,.int .i64 0,.agg [.int .i64 0,.int .i64 0,.int .i64 0,.int .i64 0,.int .i64 0,.int .i64 0],.agg [.int .i64 0,.int .i64 0]] [(0,(.t 11)),(1,(aj 4)),(2,(aj 6)),(3,(aj 9)),(4,(aj 20)),(8,(.t 12))]),o 14 (.bld [.int .i64 0,.int .i64 0] [(1,(aj 6))]),o 15 (.bld [.agg [.int .i64 0,.int .i64 0],.int .i64 0,.int .i64 0,.int .i64 0,.int .i64 0,.int .i64 0,.int .i64 0,.int .i64 0,.agg [.int .i64 0,.int .i64 0,.int .i64 0,.int .i64 0,.int .i64 0,.int .i64 0],.agg [.int .i64 0,.int .i64 0]] [(0,(.t 14)),(1,(aj 5)),(2,(aj 10)),(3,(aj 10)),(4,(aj 20)),(7,(aj 3))]),o 16 (.bld [.int .i64 0,.int .i64 0] [(1,(aj 7))]),o 17 (.bld [.int .i64 0,.int .i64 0,.int .i64 0,.int .i64 0,.int .i64 0,.int .i64 0] [(0,(aj 1)),(1,(aj 1)),(2,(aj 1)),(3,(aj 1)),(4,(aj 1)),(5,(aj 1))]),o 18 (.bld [.agg [.int .i64 0,.int .i64 0],.int .i64 0,.int .i64 0,.int .i64 0,.int .i64 0,.int .i64 0,.int .i64 0,.int .i64 0,.agg [.int .i64 0,.int .i64 0,.int .i64 0,.int .i64 0,.int .i64 0,.int .i64 0],.agg [.int .i64 0,.int .i64 0]] [(0,(.t 16)),(1,(aj 4)),(2,(aj 8)),(3,(aj 11)),(4,(aj 11)),(8,(.t 17))]),o 19 (.bld [.int .i64 0,.int .i64 0] [(1,(aj 8))]),o 20 (.bld [.agg [.int .i64 0,.int .i64 0],.int .i64 0,.int .i64 0,.int .i64 0,.int .i64 0,.int .i64 0,.int .i64 0,.int .i64 0,.agg [.int .i64 0,.int .i64 0,.int .i64 0,.int .i64 0,.int .i64 0,.int .i64 0],.agg [.int .i64 0,.int .i64 0]] [(0,(.t 19)),(1,(aj 6)),(2,(aj 12)),(3,(aj 12)),(4,(aj 10))]),o 21 (.bld [.int .i64 0,.int .i64 0] [(1,(aj 9))]),o 22 (.bld [.int .i64 0,.int .i64 0] [(1,(aj 5))]),o 23 (.bld [.agg [.int .i64 0,.int .i64 0],.int .i64 0,.int .i64 0,.int .i64 0,.int .i64 0,.int .i64 0,.int .i64 0,.int .i64 0,.agg [.int .i64 0,.int .i64 0,.int .i64 0,.int .i64 0,.int .i64 0,.int .i64 0],.agg [.int .i64 0,.int .i64 0]] [(0,(.t 21)),(1,(aj 0)),(3,(aj 14)),(9,(.t 22))]),o 24 (.bs 68 17 [.t 1,.t 3,.t 5,.t 8,.t 10,.t 13,.t 15,.t 18,.t 20,.t 23]),m 0 24]
def DG:aR:=(s (r KK) (s (r KL) .ret))
def PD:List bj:=[.tmp 0]
theorem XJ:bH Tryz.prog Tryz.f81 DG:=e (by kernel_rfl)
theorem ZW:bI Tryz.prog Tryz.f81 PD:=e (by kernel_rfl)
theorem VF:bG Tryz.prog 81:=e (by kernel_rfl)
def KM:=[o 0 (.alloc (.agg [.agg [.int .i64 0,.int .i64 0,.int .i64 0,.int .i64 0,.int .i64 0],.int .i64 0,.nils 7]))]
def KN:=[o 1 (.bld [.int .i64 0,.int .i64 0,.int .i64 0,.int .i64 0,.int .i64 0] [(0,(aj 1)),(1,(aj 3)),(2,(aj 4)),(3,(aj 24)),(4,(aj 24))]),o 2 (.bld [.int .i64 0,.agg [.int .i64 0,.int .i64 0,.int .i64 0,.int .i64 0,.int .i64 0,.int .i64 0]] [(0,(aj 1))]),o 3 (.bld [.int .i64 0,.int .i64 0,.int .i64 0,.int .i64 0,.int .i64 0,.int .i64 0] [(0,(aj 2)),(1,(aj 0)),(2,(aj 0)),(3,(aj 0)),(4,(aj 0)),(5,(aj 0))]),o 4 (.bld [.int .i64 0,.agg [.int .i64 0,.int .i64 0,.int .i64 0,.int .i64 0,.int .i64 0,.int .i64 0]] [(0,(aj 2)),(1,(.t 3))]),o 5 (.bld [.int .i64 0,.int .i64 0,.int .i64 0,.int .i64 0,.int .i64 0,.int .i64 0] [(0,(aj 3)),(1,(aj 0)),(2,(aj 0)),(3,(aj 0)),(4,(aj 0)),(5,(aj 2))]),o 6 (.bld [.int .i64 0,.agg [.int .i64 0,.int .i64 0,.int .i64 0,.int .i64 0,.int .i64 0,.int .i64 0]] [(0,(aj 3)),(1,(.t 5))]),o 7 (.bs 63 7 [.t 2,.t 4,.t 6]),o 8 (.bld [.agg [.int .i64 0,.int .i64 0,.int .i64 0,.int .i64 0,.int .i64 0],.int .i64 0,.nils 7] [(0,(.t 1)),(2,(.t 7))]),p (.bu (some 7) (.t 0) (.t 8))]
def DH:aR:=(s (r KM) (s (r KN) .ret))
def PE:List bj:=[.cell 0 (some 7)]
theorem XK:bH Tryz.prog Tryz.f82 DH:=e (by kernel_rfl)
theorem ZX:bI Tryz.prog Tryz.f82 PE:=e (by kernel_rfl)
theorem VG:bG Tryz.prog 82:=e (by kernel_rfl)
def akk:=[o 4 (.mv (.c (.nils 1)))]
def akl:=[o 5 (.mv (.c (.nils 1)))]
def akm:=[bh 6 0]
def akn:=[m 7 6,m 8 0,o 9 (.len (.t 8)),lt 10 7 9]
def ako:=[m 13 5,m 14 0,m 15 6,m 16 1,o 17 (.bin .add (.t 15) (.t 16)),o 18 (.call 34 [.t 14,.t 17]),m 19 1,o 20 (.bin .add (.t 18) (.t 19)),o 21 (.bs 3 1 [.t 20]),o 22 (.dH 3 1 8 (.int .i64 0) (.t 13) (.t 21)),m 5 22]
def akp:=[m 11 6,ad 12 11 1,m 6 12]
def akq:=[m 23 5,m 4 23]
def DI:aR:=(s (r akk) (s (r akl) (s (s (r akm) (.block 0 (.loop (s (s (r akn) (.cond (.t 10) .skip (.exit 0))) (s (.block 1 (r ako)) (r akp)))))) (s (r akq) .ret))))
def PF:List bj:=[.tmp 4]
theorem XL:bH Tryz.prog Tryz.f83 DI:=e (by kernel_rfl)
theorem ZY:bI Tryz.prog Tryz.f83 PF:=e (by kernel_rfl)
theorem VH:bG Tryz.prog 83:=e (by kernel_rfl)
def akr:=[b 1 0,o 2 (.alloc (.agg [.agg [.int .i64 0,.int .i64 0],.int .i64 0,.int .i64 0,.int .i64 0,.int .i64 0,.int .i64 0,.int .i64 0,.int .i64 0,.agg [.int .i64 0,.int .i64 0,.int .i64 0,.int .i64 0,.int .i64 0,.int .i64 0],.agg [.int .i64 0,.int .i64 0]]))]
def aks:=[f 4 0 0 1,ay 5 2 4,f 6 1 2 1,l 7 6,f 8 2 3 1,l 9 8,f 10 3 4 1,l 11 10,o 12 (.bld [.agg [.int .i64 0,.int .i64 0],.int .i64 0,.int .i64 0,.int .i64 0,.int .i64 0,.int .i64 0,.int .i64 0,.int .i64 0,.agg [.int .i64 0,.int .i64 0,.int .i64 0,.int .i64 0,.int .i64 0,.int .i64 0],.agg [.int .i64 0,.int .i64 0]] [(0,(.t 5)),(1,(.t 7)),(2,(.t 9)),(3,(.t 11))]),o 3 (.alloc (.agg [.agg [.int .i64 0,.int .i64 0],.int .i64 0,.int .i64 0,.int .i64 0,.int .i64 0,.int .i64 0,.int .i64 0,.int .i64 0,.agg [.int .i64 0,.int .i64 0,.int .i64 0,.int .i64 0,.int .i64 0,.int .i64 0],.agg [.int .i64 0,.int .i64 0]])),p (.bu (some 17) (.t 3) (.t 12))]
def akC:=[f 13 1 2 1,l 14 13,o 15 (.bin .eql (.t 14) (aj 0))]
def akD:=[f 16 9 15 1,ay 17 2 16,f 18 9 15 3,p (.bu (some 2) (.t 18) (.t 17))]
def akE:=[ay 19 17 3,p (.bu (some 17) (.t 2) (.t 19))]
def akF:=[f 20 4 5 1,l 21 20,f 22 4 5 3,p (.bu none (.t 22) (.t 21))]
def akG:=[f 23 1 2 1,l 24 23]
def akH:=[o 26 (.bin .eql (.t 24) (aj 1)),m 25 26]
def akI:=[f 27 6 7 1,l 28 27,f 29 6 7 3,p (.bu none (.t 29) (.t 28))]
def akJ:=[f 30 7 8 1,l 31 30,f 32 7 8 3,p (.bu none (.t 32) (.t 31))]
def akt:=[f 33 5 6 1,l 34 33,f 35 5 6 3,p (.bu none (.t 35) (.t 34))]
def aku:=[o 37 (.bin .eql (.t 24) (aj 2)),m 36 37]
def akv:=[f 38 6 7 1,l 39 38,f 40 6 7 3,p (.bu none (.t 40) (.t 39))]
def akw:=[o 42 (.bin .eql (.t 24) (aj 3)),m 41 42]
def akx:=[o 43 (.bin .eql (.t 24) (aj 5)),m 41 43]
def aky:=[f 44 7 8 1,l 45 44,f 46 7 8 3,p (.bu none (.t 46) (.t 45))]
def akz:=[o 48 (.bin .eql (.t 24) (aj 4)),m 47 48]
def akA:=[f 49 8 9 1,ay 50 6 49,f 51 8 9 3,p (.bu (some 6) (.t 51) (.t 50))]
def akB:=[ay 52 17 3,p (.bu (some 17) (.t 2) (.t 52))]
def DJ:aR:=(s (r akr) (s (r aks) (s (s (r akC) (.cond (.t 15) (s (r akD) (s (r akE) .ret)) .skip)) (s (r akF) (s (s (r akG) (.block 0 (s (r akH) (.cond (.t 25) (s (r akI) (s (r akJ) (r akt))) (s (r aku) (.cond (.t 36) (r akv) (s (s (r akw) (.cond (.t 41) .skip (r akx))) (.cond (.t 41) (r aky) (s (r akz) (.cond (.t 47) (r akA) .skip)))))))))) (s (r akB) .ret))))))
def PG:List bj:=[.cell 2 (some 17)]
theorem XM:bH Tryz.prog Tryz.f84 DJ:=e (by kernel_rfl)
theorem ZZ:bI Tryz.prog Tryz.f84 PG:=e (by kernel_rfl)
theorem VI:bG Tryz.prog 84:=e (by kernel_rfl)
def KO:=[o 2 (.alloc (.agg [.int .i64 0,.int .i64 0,.int .i64 0,.int .i64 0,.int .i64 0]))]
def KP:=[o 3 (.alloc (.agg [.int .i64 0,.int .i64 0,.int .i64 0,.int .i64 0,.int .i64 0]))]
def KQ:=[bh 4 0]
def KR:=[m 6 4,o 7 (.bin .lss (.t 6) (aj 5))]
def KS:=[m 10 4,m 11 4,o 12 (.bin .shl (aj 1) (.t 11)),o 13 (.ia 5 1 (.t 3) (.t 10)),p (.bu none (.t 13) (.t 12))]
def KT:=[m 14 0,m 15 4,o 16 (.call 34 [.t 14,.t 15]),o 17 (.call 25 [.t 16,(aj 12)]),m 5 17]
def KU:=[m 18 5,o 19 (.bin .lss (.t 18) (aj 5))]
def KV:=[m 20 4,m 21 4,o 22 (.ia 5 1 (.t 3) (.t 21)),l 23 22,m 24 5,o 25 (.bin .shl (aj 1) (.t 24)),o 26 (.bin .or (.t 23) (.t 25)),o 27 (.ia 5 1 (.t 3) (.t 20)),p (.bu none (.t 27) (.t 26))]
def aa6:=some [[],[],[1],[2],[],[4],[3,5],[0,0,1,2,3,4,5,6],[7,6,0,1,2,3,4,5,6]]
def yc:=[m 8 4,ad 9 8 1,m 4 9]
def KW:=[ay 28 5 3,p (.bu (some 5) (.t 2) (.t 28))]
def DK:aR:=(s (r KO) (s (r KP) (s (s (r KQ) (.block 0 (.loop (s (s (r KR) (.cond (.t 7) .skip (.exit 0))) (s (.block 1 (s (r KS) (s (r KT) (s (r KU) (.cond (.t 19) (.bX aa6 KV) .skip))))) (r yc)))))) (s (r KW) .ret))))
def PH:List bj:=[.cell 2 (some 5)]
theorem XN:bH Tryz.prog Tryz.f85 DK:=e (by kernel_rfl)
theorem Z0:bI Tryz.prog Tryz.f85 PH:=e (by kernel_rfl)
theorem VJ:bG Tryz.prog 85:=e (by kernel_rfl)
def KX:=[o 2 (.alloc (.agg [.int .i64 0,.int .i64 0,.int .i64 0,.int .i64 0,.int .i64 0,.int .i64 0]))]
def KY:=[o 3 (.alloc (.agg [.int .i64 0,.int .i64 0,.int .i64 0,.int .i64 0,.int .i64 0,.int .i64 0]))]
def KZ:=[bh 4 5]
def K0:=[m 5 4,o 6 (.bin .geq (.t 5) (aj 0))]
def K1:=[m 9 4,m 10 0,o 11 (.bin .rem (.t 10) (aj 5)),o 12 (.ia 6 1 (.t 3) (.t 9)),p (.bu none (.t 12) (.t 11))]
def K2:=[m 13 0,o 14 (.bin .quo (.t 13) (aj 5)),m 0 14]
def K3:=[m 7 4,o 8 (.bin .sub (.t 7) (aj 1)),m 4 8]
def K4:=[ay 15 6 3,p (.bu (some 6) (.t 2) (.t 15))]
def DL:aR:=(s (r KX) (s (r KY) (s (s (r KZ) (.block 0 (.loop (s (s (r K0) (.cond (.t 6) .skip (.exit 0))) (s (.block 1 (s (r K1) (r K2))) (r K3)))))) (s (r K4) .ret))))
def PI:List bj:=[.cell 2 (some 6)]
theorem XO:bH Tryz.prog Tryz.f86 DL:=e (by kernel_rfl)
theorem Z1:bI Tryz.prog Tryz.f86 PI:=e (by kernel_rfl)
theorem VK:bG Tryz.prog 86:=e (by kernel_rfl)
def K5:=[b 2 0,b 3 1,o 4 (.mv bB)]
def K6:=[bh 5 0]
def K7:=[m 6 5,f 7 2 6 2,l 8 7,o 9 (.len (.t 8)),lt 10 6 9]
def K8:=[f 13 0 0 2,ay 14 5 13,f 15 2 6 2,l 16 15,m 17 5,o 18 (.is 7 (.t 16) (.t 17)),f 19 1 1 18,ay 20 6 19,ay 21 6 3,o 22 (.call 129 [.t 14,.t 20,.t 21]),f 23 1 5 2,l 24 23,o 25 (.bin .mul (aj 2) (.t 24)),o 26 (.bin .leq (.t 22) (.t 25))]
def aa7:=some [[],[0],[],[2],[],[3,4],[5],[6],[],[1,7,8],[],[10],[11],[9,12]]
def K9:=[o 4 (.mv T)]
def La:=[m 11 5,ad 12 11 1,m 5 12]
def Lb:=[o 4 (.mv bB)]
def DM:aR:=(s (r K5) (s (s (r K6) (.block 0 (.loop (s (s (r K7) (.cond (.t 10) .skip (.exit 0))) (s (.block 1 (s (.bX aa7 K8) (.cond (.t 26) (s (r K9) .ret) .skip))) (r La)))))) (s (r Lb) .ret)))
def PJ:List bj:=[.tmp 4]
theorem XP:bH Tryz.prog Tryz.f87 DM:=e (by kernel_rfl)
theorem Z2:bI Tryz.prog Tryz.f87 PJ:=e (by kernel_rfl)
theorem VL:bG Tryz.prog 87:=e (by kernel_rfl)
def Lc:=[b 3 0,b 4 1,o 6 (.mv (.c (.nilp))),o 7 (.mv (.c (.nils 1)))]
def Ld:=[o 8 (.alloc (.nils 1)),o 9 (.mv (.c (.nils 1)))]
def Li:=[l 15 3,m 16 2,o 17 (.call 105 [.t 15,.t 16])]
def akK:=[m 10 18]
def akL:=[l 19 3,m 20 10,o 21 (.is 17 (.t 19) (.t 20)),f 22 1 2 21,l 23 22,o 24 (.bin .neq (.t 23) (aj 0)),m 25 24,e9 26 3 25,di 27 10 25,bW 28 (.is 17 (.t 26) (.t 27)) 25,ef 29 2 3 28 25,e9 30 29 25,e9 31 4 25,bW 32 (.bin .leq (.t 30) (.t 31)) 25,and 33 25 32]
def aa8:=some [[],[],[0,1],[2],[3],[4],[5],[6],[6],[7,8,6],[9,6],[10,6],[6],[11,12,6],[6,13]]
def akM:=[l 34 8,m 35 10,o 36 (.bs 3 1 [.t 35]),o 37 (.dH 3 1 8 (.int .i64 0) (.t 34) (.t 36)),p (.bu none (.t 8) (.t 37))]
def ye:=[l 38 8,o 39 (.mk 138 [.t 3]),o 40 (.call 137 [.t 38,.t 39])]
def yf:=[o 41 (.kz),o 42 (.bld [.raw (.map none)] [(0,(.t 41))]),b 43 42,m 11 43]
def yg:=[o 44 (.call 139 []),m 12 44]
def yh:=[l 45 8,o 46 (.len (.t 45)),bh 47 0]
def tZ:=[lt 48 47 46]
def yd:=[o 49 (.is 1 (.t 45) (.t 47)),l 50 49,m 14 50]
def ua:=[m 51 12,l 52 3,m 53 14,o 54 (.is 17 (.t 52) (.t 53)),f 55 1 2 54,l 56 55,o 57 (.lk (.i .i64) (.dz) false (.t 51) (.t 56)),m 58 11,l 59 3,m 60 14,o 61 (.is 17 (.t 59) (.t 60)),ay 62 17 61,o 63 (.eM (.t 57) [.t 58,.t 62]),no 64 63]
def EF:=some [[],[],[],[1,2],[3],[4],[0,5],[],[],[],[8,9],[10],[6,7,11],[12]]
def Le:=[m 65 9,m 66 14,o 67 (.bs 3 1 [.t 66]),o 68 (.dH 3 1 8 (.int .i64 0) (.t 65) (.t 67)),m 9 68]
def Lf:=[ad 69 47 1,m 47 69]
def Lg:=[m 70 9,o 71 (.call 107 [.t 70])]
def Lh:=[m 72 11,m 73 9,m 6 72,m 7 73]
def DN:aR:=(s (r Lc) (s (r Ld) (s (s (r Li) (.block 0 (.kF (.t 17) [18] (r akK) (.block 1 (s (.bX aa8 akL) (.cond (.t 33) (r akM) .skip)))))) (s (r ye) (s (r yf) (s (r yg) (s (s (r yh) (.block 2 (.loop (s (r tZ) (s (.cond (.t 48) .skip (.exit 2)) (s (.block 3 (s (r yd) (s (.bX EF ua) (.cond (.t 64) (r Le) .skip)))) (r Lf))))))) (s (r Lg) (s (r Lh) .ret)))))))))
def PK:List bj:=[.tmp 6,.tmp 7]
theorem XQ:bH Tryz.prog Tryz.f88 DN:=e (by kernel_rfl)
theorem Z3:bI Tryz.prog Tryz.f88 PK:=e (by kernel_rfl)
theorem VM:bG Tryz.prog 88:=e (by kernel_rfl)
def akN:=[o 2 (.mv bB)]
def akO:=[m 3 0,o 4 (.call 90 [.t 3]),no 5 4,m 2 5]
def DO:aR:=(s (r akN) (s (r akO) .ret))
def PL:List bj:=[.tmp 2]
theorem XR:bH Tryz.prog Tryz.f89 DO:=e (by kernel_rfl)
theorem Z4:bI Tryz.prog Tryz.f89 PL:=e (by kernel_rfl)
theorem VN:bG Tryz.prog 89:=e (by kernel_rfl)
def akP:=[o 2 (.mv bB)]
def akQ:=[m 3 0,o 4 (.nilC (.t 3)),f 5 0 0 4,f 6 6 6 5,l 7 6,o 8 (.bin .geq (.t 7) (aj 0)),m 2 8]
def DP:aR:=(s (r akP) (s (r akQ) .ret))
def PM:List bj:=[.tmp 2]
theorem XS:bH Tryz.prog Tryz.f90 DP:=e (by kernel_rfl)
theorem Z5:bI Tryz.prog Tryz.f90 PM:=e (by kernel_rfl)
theorem VO:bG Tryz.prog 90:=e (by kernel_rfl)
def akR:=[o 4 (.mv bB)]
def akS:=[m 5 0,o 6 (.call 90 [.t 5]),no 7 6,m 8 7,di 9 0 8,bW 10 (.nilC (.t 9)) 8,ef 11 0 0 10 8,ef 12 3 3 11 8,e9 13 12 8,e9 14 1 8,bW 15 (.bin .eql (.t 13) (.t 14)) 8,and 16 8 15,m 17 16,di 18 0 17,bW 19 (.nilC (.t 18)) 17,ef 20 0 0 19 17,ef 21 1 1 20 17,e9 22 21 17,e9 23 2 17,bW 24 (.bin .eql (.t 22) (.t 23)) 17,and 25 17 24,m 4 25]
def aa9:=some [[],[0],[1],[2,1],[3],[4,3],[5,3],[6,3],[7,3],[3],[8,9,3],[3,10],[11,3],[12],[13,12],[14,12],[15,12],[16,12],[12],[17,18,12],[12,19],[20,12,0,1,2,3,4,5,6,7,8,9,10,11,12,13,14,15,16,17,18,19,20]]
def DQ:aR:=(s (r akR) (s (.bX aa9 akS) .ret))
def PN:List bj:=[.tmp 4]
theorem XT:bH Tryz.prog Tryz.f91 DQ:=e (by kernel_rfl)
theorem Z6:bI Tryz.prog Tryz.f91 PN:=e (by kernel_rfl)
theorem VP:bG Tryz.prog 91:=e (by kernel_rfl)
def Lj:=[o 6 (.mv bB)]
def Lk:=[m 7 1,m 8 0,o 9 (.bin .leq (.t 7) (.t 8)),m 10 9,di 11 0 10,di 12 2 10,bW 13 (.bin .leq (.t 11) (.t 12)) 10,and 14 10 13,m 6 14]
def DR:aR:=(s (r Lj) (s (r Lk) .ret))
def PO:List bj:=[.tmp 6]
theorem XU:bH Tryz.prog Tryz.f94 DR:=e (by kernel_rfl)
theorem Z7:bI Tryz.prog Tryz.f94 PO:=e (by kernel_rfl)
theorem VQ:bG Tryz.prog 94:=e (by kernel_rfl)
def Ll:=[b 3 0,b 4 1,o 6 (.alloc (.agg [.int .i64 0,.int .i64 0,.int .i64 0,.int .i64 0,.int .i64 0,.int .i64 0])),bh 7 0]
def Lm:=[ay 11 5 3,o 12 (.call 99 [.t 11]),o 13 (.bin .neq (.t 12) (aj 0))]
def Lp:=[o 14 (.bld [.int .i64 0,.int .i64 0,.int .i64 0,.int .i64 0,.int .i64 0,.int .i64 0] []),p (.bu (some 6) (.t 6) (.t 14)),bh 7 11]
def Lq:=[ay 15 6 4,o 16 (.call 100 [.t 15]),o 17 (.bin .neq (.t 16) (aj 0))]
def Lr:=[o 18 (.bld [.int .i64 0,.int .i64 0,.int .i64 0,.int .i64 0,.int .i64 0,.int .i64 0] []),p (.bu (some 6) (.t 6) (.t 18)),bh 7 10]
def Ls:=[o 8 (.alloc (.agg [.int .i64 0,.int .i64 0,.int .i64 0,.int .i64 0,.int .i64 0,.int .i64 0]))]
def Lt:=[bh 9 0]
def Lu:=[m 19 9,o 20 (.bin .lss (.t 19) (aj 6))]
def Lv:=[m 23 9,o 24 (.ia 6 1 (.t 4) (.t 23)),l 25 24,o 26 (.ia 5 1 (.t 3) (.t 25)),l 27 26,o 28 (.call 141 [.t 27]),m 10 28]
def Lw:=[m 29 9,m 30 10,m 31 2,m 32 9,o 33 (.call 34 [.t 31,.t 32]),m 34 10,o 35 (.len (.t 34)),o 36 (.call 25 [.t 33,.t 35]),o 37 (.is 1 (.t 30) (.t 36)),l 38 37,o 39 (.bin .shl (aj 1) (.t 38)),o 40 (.ia 6 1 (.t 8) (.t 29)),p (.bu none (.t 40) (.t 39))]
def Ln:=[m 21 9,ad 22 21 1,m 9 22]
def Lo:=[ay 41 6 8,p (.bu (some 6) (.t 6) (.t 41)),bh 7 0]
def DS:aR:=(s (r Ll) (s (s (r Lm) (.cond (.t 13) (s (r Lp) .ret) .skip)) (s (s (r Lq) (.cond (.t 17) (s (r Lr) .ret) .skip)) (s (r Ls) (s (s (r Lt) (.block 0 (.loop (s (s (r Lu) (.cond (.t 20) .skip (.exit 0))) (s (.block 1 (s (r Lv) (r Lw))) (r Ln)))))) (s (r Lo) .ret))))))
def PQ:List bj:=[.cell 6 (some 6),.tmp 7]
theorem XV:bH Tryz.prog Tryz.f98 DS:=e (by kernel_rfl)
theorem Z8:bI Tryz.prog Tryz.f98 PQ:=e (by kernel_rfl)
theorem VR:bG Tryz.prog 98:=e (by kernel_rfl)
def Lx:=[b 1 0,bh 2 0]
def Ly:=[bh 3 0]
def Lz:=[m 4 3,o 5 (.bin .lss (.t 4) (aj 5))]
def LA:=[m 8 3,o 9 (.ia 5 1 (.t 1) (.t 8)),l 10 9,o 11 (.call 94 [.t 10,(aj 0),(aj 31)]),no 12 11,m 13 12,gW 14 3 13,on 15 (.ia 5 1 (.t 1) (.t 14)) 13,fY 16 15 13,gW 17 3 13,on 18 (.bin .shl (aj 1) (.t 17)) 13,on 19 (.bin .and (.t 16) (.t 18)) 13,on 20 (.bin .eql (.t 19) (aj 0)) 13,or 21 13 20]
def aba:=some [[],[0],[1],[2],[3],[4,3],[5],[6,5],[7,5],[5],[9,5],[8,10,5],[11,5],[5,12]]
def yi:=[bh 2 11]
def LB:=[m 6 3,ad 7 6 1,m 3 7]
def LC:=[bh 2 0]
def DT:aR:=(s (r Lx) (s (s (r Ly) (.block 0 (.loop (s (s (r Lz) (.cond (.t 5) .skip (.exit 0))) (s (.block 1 (s (.bX aba LA) (.cond (.t 21) (s (r yi) .ret) .skip))) (r LB)))))) (s (r LC) .ret)))
def PR:List bj:=[.tmp 2]
theorem XW:bH Tryz.prog Tryz.f99 DT:=e (by kernel_rfl)
theorem Z9:bI Tryz.prog Tryz.f99 PR:=e (by kernel_rfl)
theorem VS:bG Tryz.prog 99:=e (by kernel_rfl)
def FD:=[b 1 0,bh 2 0]
def FE:=[bh 3 0]
def FF:=[m 4 3,o 5 (.bin .lss (.t 4) (aj 6))]
def FG:=[m 8 3,o 9 (.ia 6 1 (.t 1) (.t 8)),l 10 9,o 11 (.call 94 [.t 10,(aj 0),(aj 4)]),no 12 11]
def FH:=[bh 2 10]
def FI:=[m 6 3,ad 7 6 1,m 3 7]
def FJ:=[bh 2 0]
def BU:aR:=(s (r FD) (s (s (r FE) (.block 0 (.loop (s (s (r FF) (.cond (.t 5) .skip (.exit 0))) (s (.block 1 (s (r FG) (.cond (.t 12) (s (r FH) .ret) .skip))) (r FI)))))) (s (r FJ) .ret)))
def NR:List bj:=[.tmp 2]
theorem VY:bH Tryz.prog Tryz.f100 BU:=e (by kernel_rfl)
theorem Yf:bI Tryz.prog Tryz.f100 NR:=e (by kernel_rfl)
theorem TY:bG Tryz.prog 100:=e (by kernel_rfl)
def FK:=[b 3 0,b 4 1,b 5 2,bh 6 0]
def FL:=[bh 7 0]
def FM:=[bh 8 0]
def FN:=[m 9 8,o 10 (.bin .lss (.t 9) (aj 6))]
def FO:=[m 13 8,o 14 (.ia 6 1 (.t 4) (.t 13)),l 15 14,o 16 (.ia 5 1 (.t 3) (.t 15)),l 17 16,m 18 8,o 19 (.ia 6 1 (.t 5) (.t 18)),l 20 19,o 21 (.bin .and (.t 17) (.t 20)),o 22 (.bin .eql (.t 21) (aj 0))]
def aac:=some [[],[0],[1],[2],[3],[],[5],[6],[4,7],[8]]
def FP:=[m 23 7,ad 24 23 1,m 7 24]
def xv:=[m 11 8,ad 12 11 1,m 8 12]
def FQ:=[m 25 7,m 6 25]
def BV:aR:=(s (r FK) (s (r FL) (s (s (r FM) (.block 0 (.loop (s (s (r FN) (.cond (.t 10) .skip (.exit 0))) (s (.block 1 (s (.bX aac FO) (.cond (.t 22) (r FP) .skip))) (r xv)))))) (s (r FQ) .ret))))
def NS:List bj:=[.tmp 6]
theorem VZ:bH Tryz.prog Tryz.f102 BV:=e (by kernel_rfl)
theorem Yg:bI Tryz.prog Tryz.f102 NS:=e (by kernel_rfl)
theorem TZ:bG Tryz.prog 102:=e (by kernel_rfl)
def acp:=[b 3 1,bh 4 0,o 5 (.mv bB)]
def acq:=[m 6 0,ay 7 2 3,o 8 (.call 142 [.t 6,.t 7,(.c (.func 143 []))]),o 9 (.ext (.t 8) 0),o 10 (.ext (.t 8) 1),m 4 9,m 5 10]
def BW:aR:=(s (r acp) (s (r acq) .ret))
def NT:List bj:=[.tmp 4,.tmp 5]
theorem V0:bH Tryz.prog Tryz.f103 BW:=e (by kernel_rfl)
theorem Yh:bI Tryz.prog Tryz.f103 NT:=e (by kernel_rfl)
theorem T0:bG Tryz.prog 103:=e (by kernel_rfl)
def FR:=[b 2 0,b 3 1,o 4 (.mv (.c (.dz)))]
def FT:=[o 9 (.kz),o 5 (.alloc (.raw (.map none))),p (.bu none (.t 5) (.t 9))]
def FU:=[l 10 2,o 11 (.len (.t 10)),o 12 (.kX 4 1 (.bool false) (.t 11)),o 6 (.alloc (.nils 1)),p (.bu none (.t 6) (.t 12))]
def FV:=[l 13 2,o 14 (.call 145 [.t 13])]
def acr:=[m 7 15]
def acs:=[o 8 (.alloc (.agg [.agg [.int .i64 0,.int .i64 0],.int .i64 0,.int .i64 0,.int .i64 0,.int .i64 0,.int .i64 0,.int .i64 0,.int .i64 0,.agg [.int .i64 0,.int .i64 0,.int .i64 0,.int .i64 0,.int .i64 0,.int .i64 0],.agg [.int .i64 0,.int .i64 0]])),p (.bu (some 17) (.t 8) (.t 16))]
def acu:=[l 17 6,m 18 7,f 19 3 4 8,l 20 19,l 21 3,o 22 (.bin .leq (.t 20) (.t 21)),m 23 22,e9 24 5 23,ef 25 0 0 8 23,bW 26 (.ld (some 2) (.t 25)) 23,bW 27 (.lk (.bu [(.i .i64),(.i .i64)]) (.bool false) false (.t 24) (.t 26)) 23,bW 28 (.un .not (.t 27)) 23,and 29 23 28,o 30 (.is 1 (.t 17) (.t 18)),p (.bu none (.t 30) (.t 29))]
def aad:=some [[],[],[],[2],[],[3,4],[5],[6],[6],[8,6],[7,9,6],[10,6],[6,11],[0,1,0,1,2,3,4,5,6,7,8,9,10,11,12],[13,12,6,0,1,2,3,4,5,6,7,8,9,10,11,12]]
def acv:=[l 31 6,m 32 7,o 33 (.is 1 (.t 31) (.t 32)),l 34 33,m 35 34,ef 36 1 2 8 35,e9 37 36 35,bW 38 (.bin .eql (.t 37) (aj 0)) 35,and 39 35 38]
def acw:=[l 40 5,f 41 9 15 8,ay 42 2 41,p (.ir (.bu [(.i .i64),(.i .i64)]) (.t 40) (.t 42) T)]
def acx:=[o 43 (.mk 146 [.t 2,.t 6]),m 4 43]
def BX:aR:=(s (r FR) (s (r FT) (s (r FU) (s (s (r FV) (.block 0 (.kF (.t 14) [15,16] (s (r acr) (r acs)) (.block 1 (s (.bX aad acu) (s (r acv) (.cond (.t 39) (r acw) .skip))))))) (s (r acx) .ret)))))
def NU:List bj:=[.tmp 4]
theorem V1:bH Tryz.prog Tryz.f105 BX:=e (by kernel_rfl)
theorem Yi:bI Tryz.prog Tryz.f105 NU:=e (by kernel_rfl)
theorem T3:bG Tryz.prog 105:=e (by kernel_rfl)
theorem DU:bG Tryz.prog 107:=e (by kernel_rfl)
end Go.Proofs.YtcldiigclhgafaaGreat
namespace Go.Abs
open Go Go.RowKit
def tw(on:List (List Nat)):List Nat:=on.foldl (fun acc ks=>acc++[pW acc ks]) []
def wY(d:Option (List (List Nat)))(gs:List aE):Bool:=match d with
 |none=>true
 |some on=>tC on gs (tw on)
section
variable {c:c6} {Q:Exit→af→Prop} {A:af} {d:Option (List (List Nat))} {on:List (List Nat)} {gs:List aE}
theorem U.bx(hd:wY d gs=true)(h:∀ K:af→Prop,(∀ B,Q .normal B→K B)→bn c.P c.Y d.isSome K (aF gs A)):U c (.bX d gs) Q A:=by
 cases d with
 |none=>exact U.bX (cl:=[]) rfl h
 |some on=>exact U.bX (cl:=tw on) hd h
theorem U.ar{y:aR}(hd:wY d gs=true)(h:∀ K:af→Prop,(∀ B,U c y Q B→K B)→bn c.P c.Y d.isSome K (aF gs A)):U c (.seq (.bX d gs) y) Q A :=
 U.seq (U.bx hd h)
theorem U.sB(hs:List FuncId)(ay:ft)(σ:List Nat)(hd:u3 hs ay on gs (tw on) σ=true)(hi:fq ay A)(h:∀ K:af→Prop,(∀ B,Q .normal B→K B)→cK c.P hs K (aF (pD σ gs) A)):U c (.bX (some on) gs) Q A :=
 U.ao8 hs ay (tw on) σ hd hi h
def hE(c:c6):aR→(Exit→af→Prop)→af→Prop
 | .seq x y,Q,A=>hE c x (au (fun B=>U c y Q B) Q) A
 | .block id x,Q,A=>hE c x (bP id Q) A
 | .skip,Q,A=>Q .normal A
 | .exit id,Q,A=>Q (.exit id) A
 | .ret,Q,A=>Q .ret A
 | .cond b x y,Q,A=>al (ae A b) (U c x Q A) (U c y Q A)
 |x,Q,A=>U c x Q A
def al7:aR→Bool
 | .seq _ _ | .block _ _ | .skip | .exit _ | .ret | .cond _ _ _=>true
 |_=>false
theorem hE.wh:∀ (x:aR) {Q:Exit→af→Prop} {A:af},hE c x Q A→U c x Q A
 | .seq x y,_,_,h=>U.seq (hE.wh x h)
 | .block id x,_,_,h=>U.block (hE.wh x h)
 | .skip,_,_,h=>U.skip h
 | .exit _,_,_,h=>U.exit h
 | .ret,_,_,h=>U.ret h
 | .cond _ _ _,_,_,h=>U.bL h
 | .bX _ _,_,_,h | .loop _,_,_,h | .scope _,_,_,h | .label,_,_,h | .l6,_,_,h | .kF _ _ _ _,_,_,h=>h
theorem U.of{x:aR}(_:al7 x=true)(h:hE c x Q A):U c x Q A:=hE.wh x h
theorem aJ :
  (∀ c x y Q A,hE c (.seq x y) Q A=hE c x (au (fun B=>U c y Q B) Q) A)∧(∀ c id x Q A,hE c (.block id x) Q A=hE c x (bP id Q) A)∧(∀ c Q A,hE c .skip Q A=Q .normal A)∧(∀ c id Q A,hE c (.exit id) Q A=Q (.exit id) A)∧(∀ c Q A,hE c .ret Q A=Q .ret A) ∧
  (∀ c b x y Q A,hE c (.cond b x y) Q A=al (ae A b) (U c x Q A) (U c y Q A))∧(∀ c d gs Q A,hE c (.bX d gs) Q A=U c (.bX d gs) Q A)∧(∀ c x Q A,hE c (.loop x) Q A=U c (.loop x) Q A)∧(∀ c f ps x y Q A,hE c (.kF f ps x y) Q A=U c (.kF f ps x y) Q A) ∧
  (∀ k Q A,au k Q .normal A=k A)∧(∀ k Q A,au k Q .ret A=Q .ret A)∧(∀ k Q A i,au k Q (.exit i) A=Q (.exit i) A)∧(∀ i Q A,bP i Q .normal A=Q .normal A)∧(∀ i Q A,bP i Q .ret A=Q .ret A)∧(∀ i Q A j,bP i Q (.exit j) A=if j=i then Q .normal A else Q (.exit j) A) ∧
  (∀ p q,al (.bool true) p q=p)∧(∀ p q,al (.bool false) p q=q)∧(type_of% @yV) :=
 ⟨fun _ _ _ _ _=>rfl,fun _ _ _ _ _=>rfl,fun _ _ _=>rfl,fun _ _ _ _=>rfl,fun _ _ _=>rfl,fun _ _ _ _ _ _=>rfl,fun _ _ _ _ _=>rfl,fun _ _ _ _=>rfl,fun _ _ _ _ _ _ _=>rfl,fun _ _ _=>rfl,fun _ _ _=>rfl,fun _ _ _ _=>rfl,fun _ _ _=>rfl,fun _ _ _=>rfl,fun _ _ _ _=>rfl,
  fun p q=>by simp[al],fun p q=>by simp[al],yV⟩
theorem al.aH{t:Bool}{p q:Prop}(h1:t=true→p)(h2:t=false→q):al (.bool t) p q:=⟨h1,h2⟩
theorem U.aI{g:aE}{r:List aE}(hd:wY d gs=true)(e:gs=g::r)(h:∀ K:af→Prop,(∀ B,Q .normal B→K B)→bn c.P c.Y d.isSome K (aF (g::r) A)):U c (.bX d gs) Q A :=
 U.bx hd (e▸h)
theorem bn.aD(ay:List Nat){P:Program}{Y:Value→List I→List (Nat×ah)→cO→Prop}{dr:Bool}{x:aR}{K:af→Prop}{ts:List (Nat×I)}{os:List (Nat×ah)}(hK:∀ B,U c x Q B→K B)(h:U c x Q (aw (iF ay ts) os)):bn P Y dr K (.done (aw ts os)) :=
 .done (hK _ (U.gu ay h))
theorem cK.aD(ay:List Nat){P:Program}{hs:List FuncId}{x:aR}{K:af→Prop}{ts:List (Nat×I)}{os:List (Nat×ah)}(hK:∀ B,U c x Q B→K B)(h:U c x Q (aw (iF ay ts) os)):cK P hs K (.done (aw ts os)) :=
 .done (hK _ (U.gu ay h))
end
end Go.Abs
