/-
  A part of the proof that the law HerdReadings returns true for every input; conditions: none beyond the statement's own. (part 3 of 7)
-/
import Derived.RangeFuncIn
import Derived.Laws.Externs
import Derived.ProofKit
import Derived.SizedLaws
import Derived.Test.YtcldiigclhgafaaGreatChecked
import Derived.KernelRfl
import Derived.Test.YtcldiigclhgafaaGreatNgb
set_option linter.unusedSimpArgs false
set_option linter.unusedVariables false
set_option maxHeartbeats 16000000
set_option maxRecDepth 100000
namespace Go.Abs
open Go Go.RowKit
open Enc (enc)
mutual
theorem js{p q:Nat→Bool}(h:∀ n,p n=true→q n=true):∀ x:I,x.only p=true→x.only q=true
 | .agg fs,hx | .tuple fs,hx=>by simp only[I.only] at *;exact iX h fs hx
 | .slice _ es,hx=>by simp only[I.only] at *;exact iX h es hx
 | .ref x,hx=>by simp only[I.only] at *;exact js h x hx
 | .func _ caps,hx=>by simp only[I.only] at *;exact iX h caps hx
 | .iface _ v,hx=>by simp only[I.only] at *;exact js h v hx
 | .ptr _ _,hx | .own _ _,hx | .view _ _ _ _ _,hx | .mref _,hx | .dC _,hx=>by simp only[I.only] at *;exact h _ hx
 | .cX ks vs,hx=>by simp only[I.only,zz2] at *;exact ⟨iX h ks hx.1,iX h vs hx.2⟩
 | .bool _,_ | .int _ _,_ | .c7 _,_ | .nilp,_ | .dw,_ | .ea,_ | .raw _,_ | .nils _,_ | .c0 _,_ | .undef,_ | .du,_=>by simp[I.only]
theorem iX{p q:Nat→Bool}(h:∀ n,p n=true→q n=true):∀ xs:List I,I.bT p xs=true→I.bT q xs=true
 | [],_=>rfl
 |x::xs,hx=>by
  simp only[I.bT,zz2] at *;exact ⟨js h x hx.1,iX h xs hx.2⟩
end
theorem ah.js{p q:Nat→Bool}(h:∀ n,p n=true→q n=true)(x:ah)(hx:x.only p=true):x.only q=true:=by
 cases x with
 |box y=>simp only[ah.only] at *;exact Abs.js h y hx
 |bY T sz es=>simp only[ah.only] at *;exact iX h es hx
 |dU o=>rfl
 |cT T xs=>rfl
 |cB ks vs=>simp only[ah.only,zz2] at *;exact ⟨iX h ks hx.1,iX h vs hx.2⟩
 |it ks vs left cur=>simp only[ah.only,zz2] at *;exact ⟨iX h ks hx.1,iX h vs hx.2⟩
theorem K9{x:I}(h:x.bD=true):x.cm=true:=by
 cases x <;>first | rfl | simp[I.bD] at h
theorem vn{aA:Bool}{A0:ae}{ρ:List (Nat×Nat)}{os:List (Nat×ah)} : ∀ xs:List I,I.bZ xs=true→jD aA A0 ρ os xs xs
 | [],_=>trivial
 |x::xs,h=>by
  simp only[I.bZ,zz2] at h;exact ⟨.inl ⟨(rX _ x h.1).symm,nf _ x h.1,K9 h.1⟩,vn xs h.2⟩
structure fu (os os':List (Nat×ah)):Prop where
 same:∀ m,al os' m=al os m
 ok:∀ m x,aj os' m=some x→x.only (al os')=true∧x.eX=true
 oL:∀ m,al os m=true→1000000≤m
def vf(P:Program)(g:FuncId)(caps:List I)(N:Nat)(item:Nat→List I):Prop :=
 ∀ (Y:Value→List I→List (Nat×ah)→cO→Prop) (v:Value) (ai:Nat→List (Nat×ah)→Prop) (Ix:List (Nat×ah)→Prop) (os:List (Nat×ah)),v.oneCell'=true →
  (∀ k os' post,k<N→ai k os'→(∀ r os2,(r=.bool true∧ai (k+1) os2)∨(r=.bool false∧Ix os2)→post r os2)→Y v (item k) os' post) →
  (∀ k os',ai k os'→fu os os')→(∀ os',Ix os'→fu os os')→ai 0 os→kN P g Y (.raw v::caps) os (fun r os'=>r=.tuple []∧(ai N os'∨Ix os'))
def dp(o:Obj)(os:List (Nat×ah)):List (Nat×ah):=(1999999,.dU o)::os
theorem ma(o:Obj)(os:List (Nat×ah))(m:Nat):al (dp o os) m=(decide (m=1999999)||al os m):=by
 simp only[dp,al,aj];by_cases h:m=1999999 <;>simp[h]
theorem p9(o:Obj)(os:List (Nat×ah))(m:Nat):aj (dp o os) m=if m=1999999 then some (.dU o) else aj os m:=rfl
theorem fu.dp{os os':List (Nat×ah)}(h:fu os os')(o o':Obj):fu (dp o os) (dp o' os'):=by
 refine ⟨fun m=>by rw[ma,ma,h.same],fun m x hx =>?_,fun m hm =>?_⟩
 ·rw[p9] at hx;split at hx
  ·cases hx;exact ⟨rfl,rfl⟩
  ·obtain ⟨h1,h2⟩:=h.ok m x hx;exact ⟨x.js (fun n hn=>by rw[ma,hn];simp) h1,h2⟩
 ·rw[ma] at hm;simp only[Bool.or_eq_true,decide_eq_true_eq] at hm;rcases hm with rfl | hm
  ·decide
  ·exact h.oL m hm
def qp:List Nat→List I→List (Nat×I)→List (Nat×I)
 |p::ps,v::vs,ts=>qp ps vs ((p,v)::ts)
 |_,_,ts=>ts
def mB(ρ:List (Nat×Nat))(p:Nat→Bool)(ts:List (Nat×I)):List (Nat×I)→Prop
 | []=>True
 |(k,v)::r=>b7 ts k=v.aN (bA ρ)∧v.only p=true∧mB ρ p ts r
theorem Po{ρ:List (Nat×Nat)}{p:Nat→Bool}{ts:List (Nat×I)} : ∀ {tsR:List (Nat×I)},mB ρ p ts tsR→∀ k,b7 tsR k=.du∨(b7 ts k=(b7 tsR k).aN (bA ρ)∧(b7 tsR k).only p=true)
 | [],_,k=>.inl rfl
 |(j,v)::r,h,k=>by
  simp only[mB] at h;simp only[b7];split
  ·rename_i hk;subst hk;exact .inr ⟨h.1,h.2.1⟩
  ·exact Po h.2.2 k
section
variable {c:cU} {a:Act} {w:World} {D:aR} {E:aZ}
theorem aX.zu{A:ae}(h:aX c A a w D E){n b:Nat}{o o':Obj}(hn:A.o n=some (.dU o))(aw:E n=some (.op b))(ho:p5 o'=true):aX c (A.aS n (.dU o')) a (w.putObj b o') D E:=by
 have hob:=h.bS n;rw[hn] at hob;obtain ⟨b',k1,k2,k3,k4,k5⟩:=hob;rw[aw] at k1;cases k1;have hnc:o.isCells=false:=by cases o <;>first | rfl | cases k4
 have hlt:b<w.heap.size:=gj k3;have hl:dX w D E (w.putObj b o') D E:=⟨fun _ _ h=>h,fun b1 o1 v _ hv=>vL k3 hnc hv,fun _ _ _ h=>h,fun _ aF l h=>⟨aF,l,h,zz7 _,fun _=>rfl⟩,fun _ _ h=>h,fun _ _ h=>h,fun b1 es ck hd hm=>(World.putObj_heap_other (fun e1=>k5 0 (by rw[←e1];exact hd))).trans hm⟩
 refine ⟨h.sz,h.e8.mono fun B _ hB=>(World.putObj_heap_other (fun e=>by rw[e,k3] at hB;cases hB;cases k4)).trans hB,fun t=>aY.bN hl (h.eA t),h.eb.trans ⟨rfl,rfl,rfl,by simp,fun k hk=>World.putObj_heap_other (fun e=>hk (e▸k2))⟩,h.df,
  fun b1 o1 hd=>by have:=h.dv b1 o1 hd;simpa using this,fun m =>?_,h.cZ,h.ed,h.fj,h.cM,h.fp,h.lA hl⟩
 simp only[ae.aS];by_cases hm:m=n
 ·subst hm;simp only[if_true,dc];exact ⟨b,aw,k2,World.putObj_heap_same hlt,ho,k5⟩
 ·simp only[if_neg hm];exact (h.bS m).bN hl rfl fun e b1 he hb=>⟨World.putObj_heap_other (fun e1=>hm (h.cZ m n e _ b1 he aw hb (by rw[e1];rfl))),fun _ ho=>ho⟩
theorem aX.ZY{A:ae}(h:aX c A a w D E){n b:Nat}(aw:E n=some (.op b)):aX c ⟨A.t,fun m=>if m=n then none else A.o m⟩ a w D (fun m=>if m=n then none else E m):=by
 have hne:∀ {m:Nat} {e:bW},E m=some e→(∀ b,e≠.op b)→m≠n:=fun he h2 e'=>by
  subst e';rw[aw] at he;cases he;exact h2 _ rfl
 have hl:dX w D E w D (fun m=>if m=n then none else E m):=by
  refine ⟨fun _ _ h=>h,fun _ _ _ _ h=>h,fun m b aQ he =>?_,fun m aF l he=>⟨aF,l,?_,zz7 _,fun _=>rfl⟩,fun m b he =>?_,fun m b he =>?_,fun _ _ _ _ h=>h⟩
  ·simp only[if_neg (hne he (fun b=>by simp))];exact he
  ·simp only[if_neg (hne he (fun b=>by simp))];exact he
  ·simp only[if_neg (hne he (fun b=>by simp))];exact he
  ·simp only[if_neg (hne he (fun b=>by simp))];exact he
 refine ⟨h.sz,h.e8,fun t=>aY.bN hl (h.eA t),h.eb,h.df,h.dv,fun m =>?_,fun m m' e e' b h1 h2 h3 h4 =>?_,fun m e hm =>?_,h.fj,h.cM,h.fp,h.fQ⟩
 ·by_cases hm:m=n
  ·simp only[hm,if_true,dc]
  ·simp only[if_neg hm];exact (h.bS m).bN hl (by simp only[if_neg hm]) fun _ _ _ _=>⟨rfl,fun _ ho=>ho⟩
 ·split at h1
  ·cases h1
  ·split at h2
   ·cases h2
   ·exact h.cZ m m' e e' b h1 h2 h3 h4
 ·by_cases hmn:m=n
  ·left;simp only[hmn,if_true]
  ·simp only[if_neg hmn];exact h.ed m e hm
theorem aX.enter{ts:List (Nat×I)}{os0:List (Nat×ah)}(h:aX c (au ts os0) a w D E)(hfree:aj os0 999999=none)(hE0:c.dS 999999=none){o:Obj}(ho:p5 o=true) :
  ∃ E1,aX c (au ts ((999999,.dU o)::os0)) { a with defers := { target:=.collected w.heap.size,args := #[] } :: a.defers } ((w.alloc (.deferred (some []))).alloc o) D E1∧E1 999999=some (.op (w.heap.size+1))∧∀ xs vs,aH w D E xs vs→aH ((w.alloc (.deferred (some []))).alloc o) D E1 xs vs:=by
 have hb:Below w.heap.size w ((w.alloc (.deferred (some []))).alloc o):=((Below.refl _ w).alloc (zz7 _) _).alloc (by simp) _;have h1:=h.grow (D':=D) hb (fun _ _ h=>h) (fun _ _ h _=>h) (fun b o' hd=>by have:=h.dv b o' hd;simp;omega);obtain ⟨W,hW⟩:∃ W,W=(w.alloc (.deferred (some []))).alloc o:=⟨_,rfl⟩
 have hL:W.heap[w.heap.size+1]?=some o:=by
  rw[hW];have:=World.alloc_heap_new (w.alloc (.deferred (some []))) o;rwa [World.size_alloc] at this
 have hK:W.heap[w.heap.size]?=some (.deferred (some [])):=by
  rw[hW];exact (Below.heap_alloc _ _ _ (by simp)).trans (World.alloc_heap_new w _)
 rw[←hW] at h1 hb ⊢;have hEn:E 999999=none:=by have:=h.bS 999999;simp only[au,hfree] at this;exact this
 have hl:dX W D E W D (fun m=>if m=999999 then some (.op (w.heap.size+1)) else E m):=by
  refine ⟨fun _ _ h=>h,fun _ _ _ _ h=>h,fun m b aQ he =>?_,fun m aF l he=>⟨aF,l,?_,zz7 _,fun _=>rfl⟩,fun m b he =>?_,fun m b he =>?_,fun _ _ _ _ h=>h⟩
  all_goals
   have:m≠999999:=fun e=>by rw[e,hEn] at he;cases he
   simp only[if_neg this];exact he
 have hsz:c.fo.heap.size≤w.heap.size:=h.eb.size;have nb:∀ {m:Nat} {e:bW} {b:Nat},E m=some e→e.aF=some b→b<w.heap.size:=fun he hb'=>h.gh he hb';refine ⟨fun m=>if m=999999 then some (.op (w.heap.size+1)) else E m,⟨h1.sz,?_,fun t=>aY.bN hl (h1.eA t),h1.eb,h1.df,h1.dv,fun m =>?_,fun m m' e e' b g1 g2 g3 g4 =>?_,fun m e hm =>?_,h1.fj,h1.cM,h1.fp,h1.fQ⟩,by simp,fun xs vs hx=>aH.bN hl xs vs (aH.bN (dX.grow hb fun _ _ h=>h) xs vs hx)⟩
 ·obtain ⟨Bs,k1,k2,k3⟩:=h1.e8;refine ⟨w.heap.size::Bs,by simp only[zz8];rw[←k1],List.nodup_cons.2 ⟨fun hin =>?_,k2⟩,fun B hB =>?_⟩
  ·obtain ⟨Bs',j1,_,j3⟩:=h.e8;have e1:Bs=Bs':=by
    have:Bs.map (fun B=>({ target:=.collected B,args := #[] } : Deferred))=Bs'.map (fun B => { target:=.collected B,args := #[] }):=by rw[←k1,←j1]
    exact (List.map_inj_right (fun x y hxy=>by simpa using hxy)).1 this
   rw[e1] at hin;have:=gj (j3 _ hin).2;omega
  ·rcases zx6.1 hB with rfl | hB
   ·exact ⟨hsz,hK⟩
   ·exact k3 B hB
 ·simp only[au,aj];by_cases hm:m=999999
  ·subst hm;simp only[if_true,dc];exact ⟨_,rfl,.inl (by omega),hL,ho,fun o' hd=>by have:=h.dv _ o' hd;omega⟩
  ·simp only[if_neg hm];exact (h1.bS m).bN hl (by simp only[if_neg hm]) fun _ _ _ _=>⟨rfl,fun _ ho=>ho⟩
 ·by_cases hm:m=999999 <;>by_cases hm':m'=999999
  ·rw[hm,hm']
  ·simp only[if_pos hm,u8] at g1;simp only[if_neg hm'] at g2;subst g1;simp only[bW.aF,u8] at g3;have:=nb g2 g4;omega
  ·simp only[if_neg hm] at g1;simp only[if_pos hm',u8] at g2;subst g2;simp only[bW.aF,u8] at g4;have:=nb g1 g3;omega
  ·simp only[if_neg hm] at g1;simp only[if_neg hm'] at g2;exact h.cZ m m' e e' b g1 g2 g3 g4
 ·have hmn:m≠999999:=fun e=>by rw[e,hE0] at hm;cases hm
  simp only[if_neg hmn];exact h.ed m e hm
theorem dc.m8{M M':Nat→Prop}{n:Nat}{x:Option ah}(h:dc M w D E n x)(hM:∀ e b,E n=some e→e.aF=some b→M' b):dc M' w D E n x:=by
 unfold dc at *;split
 ·exact h
 ·obtain ⟨b,cs,T,h1,_,h3⟩:=h;exact ⟨b,cs,T,h1,hM _ b h1 rfl,h3⟩
 ·obtain ⟨aF,h1,h2,h3⟩:=h;refine ⟨aF,h1,h2,?_⟩;split
  ·exact h3
  ·obtain ⟨cs,pre,rest,_,h4⟩:=h3;exact ⟨cs,pre,rest,hM _ _ h1 rfl,h4⟩
 ·obtain ⟨b,h1,_,h3⟩:=h;exact ⟨b,h1,hM _ b h1 rfl,h3⟩
 ·obtain ⟨b,es,ck,h1,_,h3⟩:=h;exact ⟨b,es,ck,h1,hM _ b h1 rfl,h3⟩
 ·obtain ⟨r,b,es,ck,si,se,la,h1,_,h3⟩:=h;exact ⟨r,b,es,ck,si,se,la,h1,hM _ r h1 rfl,h3⟩
 ·obtain ⟨aF,h1,h2,h3⟩:=h;refine ⟨aF,h1,h2,?_⟩;split
  ·exact h3
  ·obtain ⟨cs,m,_,h4⟩:=h3;exact ⟨cs,m,hM _ _ h1 rfl,h4⟩
theorem aX.MH{os:List (Nat×ah)} : ∀ (ps:List Nat) (vs:List Value) (xs:List I) (ts:List (Nat×I)) (a:Act),aX c (au ts os) a w D E→(∀ p∈ps,p<c.n)→aH w D E xs vs→ps.length=vs.length →
  aX c (au (qp ps xs ts) os) { a with tmps:=(ps.zip vs).foldl (fun t q=>t.setIfInBounds q.1 q.2) a.tmps } w D E
 | [],[],xs,ts,a,h,_,hv,_=>by
  cases xs with
  |nil=>exact h
  |cons x xs=>simp[aH] at hv
 | [],_::_,_,_,_,_,_,_,hl=>by simp at hl
 |_::_,[],_,_,_,_,_,_,hl=>by simp at hl
 |p::ps,v::vs,xs,ts,a,h,hp,hv,hl=>by
  cases xs with
  |nil=>simp[aH] at hv
  |cons x xs =>
   simp only[aH] at hv;obtain ⟨v',rest,cs,e,h1,h2,h3⟩:=hv;simp only[List.cons.injEq] at e;obtain ⟨rfl,rfl⟩:=e;have h4:=h.put (hp p (by simp)) (m9 h1 h2);rw[tM] at h4;have:=aX.MH ps vs xs ((p,x)::ts) (a.put (some p) v) h4 (fun q hq=>hp q (by simp[hq])) h3 (by simpa using hl);exact this
end
end Go.Abs
namespace Go.Abs
open Go Go.RowKit
def jy:cn→Bool
 | .mv _ | .pick .. | .bin .. | .eqv .. | .conv .. | .un .. | .fl .. | .ix .. | .lenT _ | .bld .. | .ext .. | .mk .. | .nilC _ | .ptrE .. =>true
 | .ld .. | .fa .. | .ia .. | .is .. | .len _ | .va .. | .bs .. | .sl .. | .cap _ | .bs0 _ | .lk .. =>true
 |_=>false
def uc:cn→Bool
 | .alloc _ | .box _ | .br .. | .call .. | .eF .. | .dF .. =>true
 |op=>jy op
def p6(hs:List FuncId):cn→Bool
 | .alloc _ | .box _=>true
 | .call f _ => !hs.contains f
 |op=>jy op
abbrev fe:=List (Nat×List Nat)
def jJ(az:fe)(s:Nat):Option (List Nat):=(az.find? fun q=>q.1==s).map (·.2)
def fc(az:fe)(A:ae):Prop:=∀ s ns,jJ az s=some ns→(A.t s).only (fun n=>ns.contains n)=true
def rD(az:fe):aJ→Option (List Nat)
 | .t s=>jJ az s
 | .c x=>if x.bD then some [] else none
def uP(a:Option (List Nat))(ns:List Nat):Bool:=match a with
 |some ms=>ms.all fun m=>ns.contains m
 |none=>false
def jP(az:fe)(g:aB):Bool:=match g.dst with
 |none=>true
 |some d=>match jJ az d with
  |none=>true
  |some ns=>match g.op with
   | .mv x | .nilC x | .fa _ _ x | .ia _ _ x _=>uP (rD az x) ns
   | .bin .. | .len _ | .bs .. | .bs0 _ | .conv .. | .lenT _=>true
   | .box _ | .alloc _=>ns.contains d
   |_=>false
def nW:cn→Option (List Nat)
 | .ld _ (.t x) | .fa _ _ (.t x) | .ia _ _ (.t x) _ | .is _ (.t x) _ | .len (.t x) | .va _ _ (.t x) | .sl _ (.t x) _ _ _ | .cap (.t x) | .lk _ _ _ (.t x) _=>some [x]
 | .bs _ _ ps=>if (ps.all fun x=>match x with | .t _=>true | .c _=>false)=true then some (kg ps) else none
 | .bs0 _=>some []
 |op=>if op.gP=0∧jy op=true then some [] else none
def sI(az:fe)(g:aB)(p:Nat→Bool):Bool:=match nW g.op with
 |some xs=>xs.all fun s=>match jJ az s with | some ns=>ns.all p | none=>false
 |none=>false
def oY(hs:List FuncId)(az:fe)(g h:aB):Bool:=p6 hs h.op||match h.op with
 | .br _ (.t y) _=>match nW g.op with
  |some []=>true
  |_=>match jJ az y with
   |some ms=>sI az g fun n => !ms.contains n
   |none=>false
 | .br .. =>match nW g.op with
  |some []=>true
  |_=>false
 | .dF _ _ _ _ s _=>sI az g (fun _=>false)||uP (rD az s) []
 |_=>false
def oO(hs:List FuncId)(az:fe)(g h:aB):Bool:=jy g.op&&(oY hs az g h&&((match g.dst with
  |some d => !h.de.contains d&&h.dst != some d
  |none=>true)&&(match h.dst with
  |some d => !g.de.contains d
  |none=>true)))
theorem xr{op:cn}(h:jy op=true)(A:ae)(dst:Option Nat)(rest:List aB)(k:ae→cK):bj A dst op rest k=cP (bu A op) fun v=>k (A.aP dst v):=by
 cases op <;>first | rfl | cases h
inductive cG (P:Program) (hs:List FuncId) (K:ae→Prop):cK→Prop where
 |done {A:ae} : K A→cG P hs K (.done A)
 |flat {f:FuncId} {avs cargs:List I} {a2:Option (List I)} {dst:Option Nat} {rest:List aB} {A:ae} (r:I):ay P f cargs r→r.flat=true→cG P hs K (aE rest (A.aP dst r))→cG P hs K (.call f avs (some cargs) a2 dst rest A)
 |lead {f:FuncId} {avs cargs:List I} {a1:Option (List I)} {dst:Option Nat} {rest:List aB} {A:ae} (r:I):ay P f cargs r→cG P hs K (aE rest (A.aP dst r))→cG P hs K (.call f avs a1 (some cargs) dst rest A)
 |bS {f:FuncId} {avs:List I} {a1 a2:Option (List I)} {dst:Option Nat} {rest:List aB} {ts:List (Nat×I)} {os0:List (Nat×ah)} (ρ:List (Nat×Nat)) (cargs:List I) (post:cO):cC P f cargs [] post →
   fT ρ [] os0→jD false (au ts os0) ρ [] avs cargs→(∀ r os',post r os'→eh false ρ [] os0 r os') →
   (∀ r os',post r os'→cG P hs K (aE rest ((au ts (dI ρ os'++os0)).aP dst (r.aN (bA ρ)))))→cG P hs K (.call f avs a1 a2 dst rest (au ts os0))
 |any {p:Nat→Prop} {k:Nat→cK} : (∀ m,p m→cG P hs K (k m))→cG P hs K (.any p k)
 |yz {f:FuncId} {avs:List I} {a1 a2:Option (List I)} {dst:Option Nat} {rest:List aB} {ts:List (Nat×I)} {os0:List (Nat×ah)} (aA:Bool) (ρ:List (Nat×Nat)) (os:List (Nat×ah)) (cargs:List I) (post:cO):hs.contains f=true→cC P f cargs os post →
   fT ρ os os0→jD aA (au ts (cW (jM ρ os) os0)) ρ os avs cargs→(∀ r os',post r os'→eh aA ρ os os0 r os') →
   (∀ r os',post r os'→cG P hs K (aE rest ((au ts (dI ρ os'++os0)).aP dst (r.aN (bA ρ)))))→cG P hs K (.call f avs a1 a2 dst rest (au ts os0))
theorem ZX(os:List (Nat×ah)):cW [] os=os:=by simp[cW]
section
variable {P:Program} {hs:List FuncId} {K:ae→Prop} {Y:Value→List I→List (Nat×ah)→cO→Prop}
theorem cG.AJ{p:Nat→Prop}{k:Nat→cK}(h:cG P hs K (.any p k)):∀ m,p m→cG P hs K (k m):=by cases h;assumption
theorem fc.put{az:fe}{A B:ae}(h:fc az A)(ht:∀ k,B.t k=A.t k){dst:Option Nat}{v:I}(hv:∀ d,dst=some d→∀ ns,jJ az d=some ns→v.only (fun n=>ns.contains n)=true):fc az (B.aP dst v):=by
 intro s ns hs';cases dst with
 |none=>exact (ht s).symm▸h s ns hs'
 |some d =>
  simp only[ae.aP,ae.put];by_cases hd:s=d
  ·rw[if_pos hd];exact hv d rfl ns (hd▸hs')
  ·rw[if_neg hd,ht];exact h s ns hs'
theorem sa{az:fe}{A:ae}(h:fc az A){x:aJ}{ns:List Nat}(hx:uP (rD az x) ns=true):(ab A x).only (fun n=>ns.contains n)=true:=by
 cases x with
 |c x =>
  simp only[rD] at hx;split at hx
  ·rename_i hc;exact nf _ x hc
  ·cases hx
 |t s =>
  simp only[rD] at hx;cases hl:jJ az s with
  |none=>rw[hl] at hx;cases hx
  |some ms =>
   rw[hl] at hx;simp only[uP,zx2] at hx;exact js (fun n hn=>hx n (by simpa using hn)) _ (h s ms hl)
theorem Sh{op:BinOp}{x y v:I}(p:Nat→Bool)(h:cJ op x y=some v):v.only p=true:=by
 unfold cJ at h
 (repeat' split at h) <;>first | (cases h;done) | (simp only[u8] at h;subst h;rfl)
theorem yM{p:Nat→Bool} : ∀ {xs:List I} {i:Nat} {x:I},I.bT p xs=true→xs[i]?=some x→x.only p=true
 | [],_,_,_,h=>by simp at h
 |a::xs,0,x,h,e=>by
  simp only[I.bT,zz2] at h;simp only[List.getElem?_cons_zero,u8] at e;exact e▸h.1
 |a::xs,i+1,x,h,e=>by
  simp only[I.bT,zz2] at h;exact yM (xs:=xs) h.2 (by simpa using e)
theorem L2{az:fe}{A:ae}{g:aB}(h:fc az A)(hg:jP az g=true){v:I}(hv:bu A g.op=some v):∀ d,g.dst=some d→∀ ns,jJ az d=some ns→v.only (fun n=>ns.contains n)=true:=by
 intro d hd ns hn;obtain ⟨dst,op,gd⟩:=g;simp only at hd hv;subst hd;simp only[jP,hn] at hg;cases op <;>simp only at hg <;>(try (cases hg;done)) <;>simp only[bu] at hv <;>(try (cases hv;done))
 case mv x=>simp only[u8] at hv;exact hv▸sa h hg
 case nilC x =>
  have:=sa h hg;generalize ab A x=u at hv this;cases u <;>simp only[na] at hv <;>first | (cases hv;done) | (simp only[u8] at hv;exact hv▸this)
 case bin op x y=>exact Sh _ hv
 case conv k x=>split at hv <;>first | (cases hv;done) | (simp only[u8] at hv;subst hv;rfl)
 case lenT x=>split at hv <;>first | (cases hv;done) | (simp only[u8] at hv;subst hv;rfl)
 case len x=>(repeat' split at hv) <;>first | (cases hv;done) | (simp only[u8] at hv;subst hv;rfl)
 case bs0 e=>simp only[u8] at hv;subst hv;rfl
 case bs e ps =>
  split at hv
  ·split at hv
   ·rename_i hc;simp only[u8] at hv;subst hv;simp only[I.only];exact kc _ _ hc.2
   ·cases hv
  ·cases hv
 case fa f off x =>
  have hx:=sa h hg;split at hv
  ·rename_i fs he;rw[he] at hx;simp only[I.only] at hx;split at hv
   ·rename_i u hu;split at hv
    ·simp only[u8] at hv;subst hv;simp only[I.only];exact yM hx hu
    ·cases hv
   ·cases hv
  ·rename_i n q he;rw[he] at hx;simp only[I.only] at hx;split at hv
   ·split at hv
    ·simp only[u8] at hv;subst hv;simpa only[I.only] using hx
    ·cases hv
   ·cases hv
  ·cases hv
 case ia n esz x i =>
  have hx:=sa h hg;split at hv
  case h_2=>cases hv
  split at hv
  case isFalse=>cases hv
  split at hv
  ·rename_i fs he;rw[he] at hx;simp only[I.only] at hx;split at hv
   ·simp only[zz1] at hv;obtain ⟨u,hu,rfl⟩:=hv;simp only[I.only];exact yM hx hu
   ·cases hv
  ·rename_i m q he;rw[he] at hx;simp only[I.only] at hx;split at hv
   ·split at hv
    ·simp only[u8] at hv;subst hv;simpa only[I.only] using hx
    ·cases hv
   ·cases hv
  ·cases hv
def sB(A:ae)(dst:Option Nat)(s:I)(B:ae):Prop:=(∀ t,dst≠some t→B.t t=A.t t)∧(s.only (fun _=>false)=true→eC A B)
def ov(A:ae)(dst:Option Nat)(s:I)(R:(ae→cK)→cK):Prop :=
 (∀ k,R k=.fail)∨(∃ B,(∀ k,R k=k B)∧sB A dst s B)∨∃ (p:Nat→Prop) (bp:Nat→ae),(∀ k,R k=.any p fun m=>k (bp m))∧∀ m,sB A dst s (bp m)
theorem rS{A B:ae}{dst:Option Nat}{v:I}{t:Nat}(ht:∀ k,B.t k=A.t k)(h:dst≠some t):(B.aP dst v).t t=A.t t:=by
 cases dst with
 |none=>exact ht t
 |some d =>
  have:t≠d:=fun e=>h (by rw[e]);simp only[ae.aP,ae.put,if_neg this];exact ht t
theorem RO(A:ae)(dst:Option Nat)(esz bytes:Nat)(z s:I)(es ys:List I):ov A dst s (ib A dst esz bytes z es ys):=by
 cases dst with
 |none=>exact .inl fun _=>rfl
 |some d =>
  cases ho:A.o d with
  |some y=>exact .inl fun k=>by simp only[ib,ho]
  |none =>
   by_cases hc:(es.length+ys.length)*bytes≤140737488355328∧es.length+ys.length≤maxLen
   ·refine .inr (.inr ⟨_,fun m=>(A.aS d (.box (.agg (es++(ys++List.replicate m z))))).aP (some d) (.view d [] esz 0 (es.length+ys.length)),fun k=>by simp only[ib,ho];rw[if_pos hc],fun m=>⟨fun t ht=>rS (A:=A) (B:=A.aS d _) (fun _=>rfl) ht,fun _ n y hy =>?_⟩⟩);have:n≠d:=fun e=>by rw[e,ho] at hy;cases hy
    rw[iZ];simp only[ae.aS,if_neg this];exact hy
   ·exact .inl fun k=>by simp only[ib,ho];rw[if_neg hc]
theorem RQ(A:ae)(dst:Option Nat)(esz bytes:Nat)(z s:I)(es ys:Option (List I)):ov A dst s (fw A dst esz bytes z s es ys):=by
 cases es with
 |none=>exact .inl fun _=>rfl
 |some es =>
  cases ys with
  |none=>exact .inl fun _=>rfl
  |some ys =>
   by_cases h0:ys=[]
   ·exact .inr (.inl ⟨A.aP dst s,fun k=>by simp only[fw,if_pos h0],fun t ht=>rS (A:=A) (fun _=>rfl) ht,fun _ n y hy=>by rw[iZ];exact hy⟩)
   ·have gg:=fun s'=>RO A dst esz bytes z s' es ys;cases s
    case nils=>simp only[ov,fw,if_neg h0];exact gg _
    case c0=>simp only[ov,fw,if_neg h0];exact gg _
    case view n p sz lo l =>
     cases ho:A.o n with
     |none=>exact .inl fun k=>by simp only[fw,if_neg h0,ho]
     |some y =>
      cases y with
      |box b =>
       cases hb:b.at p with
       |none=>exact .inl fun k=>by simp only[fw,if_neg h0,ho,hb]
       |some c =>
        cases c
        case agg fs =>
         by_cases h1:lo+l+ys.length≤fs.length
         ·by_cases h2:sz=esz∧I.cS ys=I.cS ((fs.drop (lo+l)).take ys.length)
          ·exact .inr (.inl ⟨(A.aS n (.box (jc b p (lo+l) fs ys))).aP dst (.view n p esz lo (l+ys.length)),fun k=>by simp only[fw,if_neg h0,ho,hb,if_pos h1];rw[if_pos h2],fun t ht=>rS (A:=A) (B:=A.aS n _) (fun _=>rfl) ht,fun h=>by simp[I.only] at h⟩)
          ·exact .inl fun k=>by simp only[fw,if_neg h0,ho,hb,if_pos h1];rw[if_neg h2]
         ·simp only[ov,fw,if_neg h0,ho,hb,if_neg h1];exact gg _
        all_goals exact .inl fun k=>by simp only[fw,if_neg h0,ho,hb]
      |_=>exact .inl fun k=>by simp only[fw,if_neg h0,ho]
    all_goals exact .inl fun k=>by simp only[fw,if_neg h0]
theorem AO(A:ae)(dst:Option Nat)(e esz bytes:Nat)(z:I)(s x:aJ)(rest:List aB):ov A dst (ab A s) (bj A dst (.dF e esz bytes z s x) rest):=by
 generalize hs:ab A s=zH;cases zH
 case own n l =>
  cases hx:ab A x
  case slice sz ys =>
   cases ho:A.o n with
   |none=>exact .inl fun k=>by simp only[bj,hs,hx,ho]
   |some y =>
    cases y with
    |bY T sz' es =>
     by_cases hc:yD e esz bytes l sz ys T sz' es
     ·exact .inr (.inl ⟨(A.aS n (.bY e esz (es++ys))).aP dst (.own n (es.length+ys.length)),fun k=>by simp only[bj,hs,hx,ho];rw[if_pos hc],fun t ht=>rS (A:=A) (B:=A.aS n _) (fun _=>rfl) ht,fun h=>by simp[I.only] at h⟩)
     ·exact .inl fun k=>by simp only[bj,hs,hx,ho];rw[if_neg hc]
    |cT T xs =>
     by_cases hc:yE e esz bytes l ys T xs z
     ·exact .inr (.inl ⟨(A.aS n (.cT e (xs++ry ys))).aP dst (.own n (xs.length+ys.length)),fun k=>by simp only[bj,hs,hx,ho];rw[if_pos hc],fun t ht=>rS (A:=A) (B:=A.aS n _) (fun _=>rfl) ht,fun h=>by simp[I.only] at h⟩)
     ·exact .inl fun k=>by simp only[bj,hs,hx,ho];rw[if_neg hc]
    |_=>exact .inl fun k=>by simp only[bj,hs,hx,ho]
  all_goals exact .inl fun k=>by simp only[bj,hs,hx]
 all_goals (simp only[ov,bj,hs];exact RQ ..)
theorem yX{A:ae}{d:Nat}{v:I}{n:Nat}{y:ah}{dst:Option Nat}{u:I}(h:dst≠some d):((A.put d v).aS n y).aP dst u=((A.aS n y).aP dst u).put d v:=by
 cases dst with
 |none=>rfl
 |some e =>
  have:e≠d:=fun he=>h (by rw[he]);simp only[ae.aP,ae.put,ae.aS,ae.mk.injEq,and_true]
  funext k
  by_cases h1:k=e <;>by_cases h2:k=d <;>simp_all
theorem al2{A:ae}{d:Nat}{v:I}{dst:Option Nat}{u:I}(h:dst≠some d):(A.put d v).aP dst u=(A.aP dst u).put d v:=by
 cases dst with
 |none=>rfl
 |some e =>
  have:e≠d:=fun he=>h (by rw[he]);simp only[ae.aP,ae.put,ae.mk.injEq,and_true]
  funext k
  by_cases h1:k=e <;>by_cases h2:k=d <;>simp_all
theorem RP{A:ae}{d:Nat}{v:I}{dst:Option Nat}(h:dst≠some d)(esz bytes:Nat)(z:I)(es ys:List I)(k:ae→cK):ib (A.put d v) dst esz bytes z es ys k=ib A dst esz bytes z es ys fun B=>k (B.put d v):=by
 cases dst with
 |none=>rfl
 |some e =>
  simp only[ib];have:(A.put d v).o=A.o:=rfl;rw[this];cases A.o e with
  |some _=>rfl
  |none =>
   simp only;split
   ·simp only[yX h]
   ·rfl
theorem RR{A:ae}{d:Nat}{v:I}{dst:Option Nat}(h:dst≠some d)(esz bytes:Nat)(z s:I)(es ys:Option (List I))(k:ae→cK):fw (A.put d v) dst esz bytes z s es ys k=fw A dst esz bytes z s es ys fun B=>k (B.put d v):=by
 have ho:(A.put d v).o=A.o:=rfl;cases es with
 |none=>rfl
 |some es =>
  cases ys with
  |none=>rfl
  |some ys =>
   simp only[fw];split
   ·rw[al2 h]
   ·cases s <;>simp only[RP h,ho]
    rename_i n p sz lo l;cases A.o n with
    |none=>rfl
    |some y =>
     cases y with
     |box b =>
      simp only;cases b.at p with
      |none=>rfl
      |some c =>
       cases c <;>simp only[yX h]
     |_=>rfl
theorem RV{A:ae}{d:Nat}{v:I}{dst:Option Nat}(h:dst≠some d){e esz bytes:Nat}{z:I}{s x:aJ}(hag:er A (A.put d v) (s.sl++x.sl))(rest rest':List aB)(k:ae→cK) :
  bj (A.put d v) dst (.dF e esz bytes z s x) rest k=bj A dst (.dF e esz bytes z s x) rest' fun B=>k (B.put d v):=by
 have ho:(A.put d v).o=A.o:=rfl;have hsrc:∀ y,eI (A.put d v) esz y=eI A esz y:=fun y=>by cases y <;>rfl
 simp only[bj,dn hag.l,dn hag.r,hsrc];cases ab A s <;>simp only[RR h]
 rename_i n l;cases ab A x <;>simp only[ho]
 cases A.o n with
 |none=>rfl
 |some y=>cases y <;>simp only[yX h]
theorem cG.Da{az:fe}{f:FuncId}{avs:List I}{a1 a2:Option (List I)}{dst:Option Nat}{rest:List aB}{A:ae}(hi:fc az A)(hd:∀ d,dst=some d→jJ az d=none)(h:cG P hs K (.call f avs a1 a2 dst rest A)) :
  bt P Y false (fun B=>cG P hs K (aE rest B)∧fc az B) (.call f avs a1 a2 dst [] A):=by
 have no:∀ {v:I},∀ d,dst=some d→∀ ns,jJ az d=some ns→v.only (fun n=>ns.contains n)=true:=fun d e ns hn=>by rw[hd d e] at hn;cases hn
 cases h with
 |flat r hc hf hw=>exact .flat r hc hf (.done ⟨hw,hi.put (fun _=>rfl) no⟩)
 |lead r hc hw=>exact .lead r hc (.done ⟨hw,hi.put (fun _=>rfl) no⟩)
 |bS ρ cargs post hc hg ha hb hw=>exact .bS false ρ [] cargs post rfl hc hg (by simp only[jM,zx1,ZX];exact ha) hb fun r os' hp=>.done ⟨hw r os' hp,hi.put (B:=au _ (dI ρ os'++_)) (fun _=>rfl) no⟩
 |yz aA ρ os cargs post _ hc hg ha hb hw=>exact .bS aA ρ os cargs post rfl hc hg ha hb fun r os' hp=>.done ⟨hw r os' hp,hi.put (B:=au _ (dI ρ os'++_)) (fun _=>rfl) no⟩
theorem cG.one{az:fe}{A:ae}{g:aB}{rest:List aB}(hi:fc az A)(ho:uc g.op=true)(hL:jP az g=true)(h:cG P hs K (bj A g.dst g.op rest (aE rest))):bt P Y false (fun B=>cG P hs K (aE rest B)∧fc az B) (bj A g.dst g.op [] (aE [])):=by
 have hval:=fun v (hv:bu A g.op=some v)=>L2 hi hL hv;obtain ⟨dst,op,gd⟩:=g;simp only at ho h hval ⊢;have pure:jy op=true→bt P Y false (fun B=>cG P hs K (aE rest B)∧fc az B) (bj A dst op [] (aE [])):=by
  intro hsm;rw[xr hsm] at h ⊢;cases hv:bu A op with
  |none=>rw[hv] at h;cases h
  |some v=>rw[hv] at h;exact .done ⟨h,hi.put (fun _=>rfl) (hval v hv)⟩
 have unl:(∀ ns d,dst=some d→jJ az d=some ns→jP az ⟨dst,op,gd⟩=false)→∀ d,dst=some d→jJ az d=none:=fun h1 d hd=>by
  cases hn:jJ az d with
  |none=>rfl
  |some ns=>rw[h1 ns d hd hn] at hL;cases hL
 cases op with
 |alloc z =>
  cases dst with
  |none=>simp only[bj] at h;cases h
  |some d =>
   simp only[bj] at h ⊢;split at h
   case h_2=>cases h
   refine .done ⟨h,hi.put (B:=A.aS d _) (dst:=some d) (fun _=>rfl) fun d' e ns hn =>?_⟩;simp only[u8] at e;subst e;simpa only[jP,hn,I.only] using hL
 |box x =>
  cases dst with
  |none=>simp only[bj] at h;cases h
  |some d =>
   simp only[bj] at h ⊢;split at h
   case h_2=>cases h
   split at h
   case isFalse=>cases h
   rename_i hv;rw[if_pos hv];refine .done ⟨h,hi.put (B:=A.aS d _) (dst:=some d) (fun _=>rfl) fun d' e ns hn =>?_⟩;simp only[u8] at e;subst e;simpa only[jP,hn,I.only] using hL
 |br s x v =>
  cases dst with
  |some d=>simp only[bj] at h;cases h
  |none =>
   simp only[bj] at h ⊢;split at h
   case h_2=>cases h
   rename_i n p hx;split at h
   case h_2=>cases h
   rename_i b hb;split at h
   case h_2=>cases h
   rename_i old hold;split at h
   case isFalse=>cases h
   rename_i hok;simp only[if_pos hok];exact .done ⟨h,fun s ns hn=>hi s ns hn⟩
 |call f args=>exact cG.Da hi (unl fun ns d e hn=>by subst e;simp only[jP,hn]) h
 |eF x args =>
  have hu:=unl fun ns d e hn=>by subst e;simp only[jP,hn]
  simp only[bj] at h ⊢;split at h
  ·exact cG.Da hi hu h
  ·cases h
  ·cases h
 |dF e esz bytes z s x =>
  have hu:=unl fun ns d e hn=>by subst e;simp only[jP,hn]
  have tz:∀ B,sB A dst (ab A s) B→fc az B:=fun B hB t ns hn=>by
   rw[hB.1 t fun e=>by rw[hu t e] at hn;cases hn];exact hi t ns hn
  have hf:=AO A dst e esz bytes z s x;rcases hf rest with h1 | ⟨B,h1,h2⟩ | ⟨p,bp,h1,h2⟩
  ·rw[h1] at h;cases h
  ·rw[h1] at h;have:bj A dst (.dF e esz bytes z s x) [] (aE [])=aE [] B:=(show bj A dst (.dF e esz bytes z s x) [] (aE [])=bj A dst (.dF e esz bytes z s x) rest (aE []) from rfl).trans (h1 _);rw[this];exact .done ⟨h,tz B h2⟩
  ·rw[h1] at h;have:bj A dst (.dF e esz bytes z s x) [] (aE [])=.any p fun m=>aE [] (bp m):=(show bj A dst (.dF e esz bytes z s x) [] (aE [])=bj A dst (.dF e esz bytes z s x) rest (aE []) from rfl).trans (h1 _);rw[this];exact .any rfl fun m hm=>.done ⟨h.AJ m hm,tz _ (h2 m)⟩
 |_=>first | exact pure rfl | cases ho
def gE(g:aB)(A:ae)(v:I):Prop:=(gJ A g∧v=.undef)∨(pass A g∧bu A g.op=some v)
theorem cG.zw{A:ae}{g:aB}{rest:List aB}(hs':jy g.op=true)(h:cG P hs K (aE (g::rest) A)):∃ v,gE g A v∧cG P hs K (aE rest (A.aP g.dst v)):=by
 have step:pass A g→cG P hs K (bj A g.dst g.op rest (aE rest))→∃ v,gE g A v∧cG P hs K (aE rest (A.aP g.dst v)):=by
  intro hp h;rw[xr hs'] at h;cases hv:bu A g.op with
  |none=>rw[hv] at h;cases h
  |some v=>rw[hv] at h;exact ⟨v,.inr ⟨hp,hv⟩,h⟩
 simp only[aE] at h;split at h
 ·rename_i hg;exact step (by simp only[pass,hg]) h
 ·rename_i t b hg;split at h
  ·rename_i b' hb;split at h
   ·rename_i hbb;subst hbb;exact step (by simp only[pass,hg];exact hb) h
   ·rename_i hbb;exact ⟨_,.inl ⟨by simp only[gJ,hg];exact .inl (by rw[hb,vt hbb]),rfl⟩,h⟩
  ·rename_i hb;exact ⟨_,.inl ⟨by simp only[gJ,hg];exact .inr hb,rfl⟩,h⟩
  ·cases h
theorem sH{A:ae}{g:aB}{rest:List aB}(hn:gJ A g):aE (g::rest) A=aE rest (A.aP g.dst .undef):=by
 simp only[aE];cases hg:g.guard with
 |none=>simp only[gJ,hg] at hn
 |some tb =>
  obtain ⟨t,b⟩:=tb;simp only[gJ,hg] at hn;rcases hn with hn | hn
  ·simp only[hn];rw[if_neg (by cases b <;>simp)]
  ·simp only[hn]
theorem gE.to{A:ae}{g:aB}{rest:List aB}{v:I}(hs':jy g.op=true)(h:gE g A v):aE (g::rest) A=aE rest (A.aP g.dst v):=by
 rcases h with ⟨hn,rfl⟩ | ⟨hp,hv⟩
 ·exact sH hn
 ·rw[oC hp,xr hs',hv];rfl
theorem ZF{A A':ae}{p:Nat→Bool}(ho:∀ n,p n=true→A'.o n=A.o n){x:I}(hx:x.only p=true):cD A' x=cD A x:=by
 cases x <;>simp only[cD]
 rename_i n q;rw[ho n (by simpa[I.only] using hx)]
mutual
theorem aay{A A':ae}{p:Nat→Bool}(ho:∀ n,p n=true→A'.o n=A.o n):∀ {x:I},x.only p=true→bl false A' x=bl false A x
 | .own n k,h=>by simp only[bl];rw[ho n (by simpa[I.only] using h)]
 | .func f caps,h=>by simp only[bl];rw[tc ho (xs:=caps) (by simpa[I.only] using h)]
 | .agg fs,h=>by simp only[bl];rw[tc ho (xs:=fs) (by simpa[I.only] using h)]
 | .undef,_ | .du,_ | .bool _,_ | .int _ _,_ | .c7 _,_ | .nilp,_ | .dw,_ | .ea,_ | .raw _,_ | .nils _,_ | .c0 _,_ | .slice _ _,_ | .tuple _,_ | .ref _,_ | .iface _ _,_ | .ptr _ _,_ | .view _ _ _ _ _,_ | .mref _,_ | .dC _,_ | .cX _ _,_=>by simp[bl]
theorem tc{A A':ae}{p:Nat→Bool}(ho:∀ n,p n=true→A'.o n=A.o n):∀ {xs:List I},I.bT p xs=true→ca false A' xs=ca false A xs
 | [],_=>rfl
 |x::xs,h=>by
  simp only[I.bT,zz2] at h;simp only[ca,aay ho h.1,tc ho h.2]
end
theorem Ml{p:Nat→Bool}{f:aJ→I} : ∀ {xs:List aJ},(∀ x∈xs,(f x).only p=true)→I.bT p (xs.map f)=true
 | [],_=>rfl
 |x::xs,h=>by
  simp only[zz8,I.bT,zz2];exact ⟨h x (by simp),Ml fun y hy=>h y (by simp[hy])⟩
theorem ajQ{A A':ae}{p:Nat→Bool}(ho:∀ n,p n=true→A'.o n=A.o n){x:I}(hx:x.only p=true):gI A' x=gI A x:=by
 cases x with
 |mref n=>simp only[gI];rw[ho n (by simpa[I.only] using hx)]
 |raw v=>cases v <;>first | rfl | (rename_i o;cases o <;>rfl)
 |_=>rfl
theorem alR{A A':ae}{op:cn}{xs:List Nat}{p:Nat→Bool}(hm:nW op=some xs)(h:er A A' op.de)(hx:∀ s∈xs,(A.t s).only p=true)(ho:∀ n,p n=true→A'.o n=A.o n):bu A' op=bu A op:=by
 have iE:op.gP=0→bu A' op=bu A op:=fun hc=>yW hc h;have dl:=fun {x:I} (hx:x.only p=true)=>ZF ho hx;unfold nW at hm;split at hm
 ·rename_i s x;simp only[u8] at hm;subst hm;have e:=h x (by simp[cn.de,aJ.sl]);simp only[bu,ab,e,dl (hx x (by simp))]
 ·rename_i f off x;simp only[u8] at hm;subst hm;have e:=h x (by simp[cn.de,aJ.sl]);have k:=hx x (by simp);simp only[bu,ab,e];generalize A.t x=u at k ⊢;cases u with
  |ptr n q=>simp only[dl (x:=.ptr n q) k]
  |ref c=>cases c <;>rfl
  |_=>rfl
 ·rename_i n esz x i;simp only[u8] at hm;subst hm;have e:=h x (by simp[cn.de,aJ.sl]);have ei:=dn (x:=i) (fun m hm=>h m (by simp[cn.de,hm]));have k:=hx x (by simp);simp only[bu,ei];generalize ab A i=w;simp only[ab,e];generalize A.t x=u at k ⊢;cases u with
  |ptr n q=>simp only[dl (x:=.ptr n q) k]
  |ref c=>cases c <;>rfl
  |_=>rfl
 ·rename_i esz x i;simp only[u8] at hm;subst hm;have e:=h x (by simp[cn.de,aJ.sl]);have ei:=dn (x:=i) (fun m hm=>h m (by simp[cn.de,hm]));have k:=hx x (by simp);simp only[bu,ei];generalize ab A i=w;simp only[ab,e];generalize A.t x=u at k ⊢;cases u with
  |own n l=>simp only[ho n (by simpa[I.only] using k)]
  |view n q=>simp only[dl (x:=.ptr n q) (by simpa[I.only] using k)]
  |_=>rfl
 ·rename_i x;simp only[u8] at hm;subst hm;have e:=h x (by simp[cn.de,aJ.sl]);have k:=hx x (by simp);simp only[bu,ab,e];generalize A.t x=u at k ⊢;cases u with
  |own n l=>simp only[ho n (by simpa[I.only] using k)]
  |_=>rfl
 ·rename_i n esz x;simp only[u8] at hm;subst hm;have e:=h x (by simp[cn.de,aJ.sl]);have k:=hx x (by simp);simp only[bu,ab,e];generalize A.t x=u at k ⊢;cases u with
  |ptr n q=>simp only[dl (x:=.ptr n q) k]
  |ref c=>cases c <;>rfl
  |_=>rfl
 ·rename_i esz x lo hi mx;simp only[u8] at hm;subst hm;have e:=h x (by simp[cn.de,aJ.sl]);have e1:=pR (x:=lo) (fun m hm=>h m (by simp[cn.de,hm]));have e2:=pR (x:=hi) (fun m hm=>h m (by simp[cn.de,hm]));have e3:=pR (x:=mx) (fun m hm=>h m (by simp[cn.de,hm]));have k:=hx x (by simp);simp only[bu,e1,e2,e3];generalize lo.map (ab A)=w1;generalize hi.map (ab A)=w2;generalize mx.map (ab A)=w3;simp only[ab,e];generalize A.t x=u at k ⊢;cases u with
  |view n q=>simp only[dl (x:=.ptr n q) (by simpa[I.only] using k)]
  |_=>rfl
 ·rename_i x;simp only[u8] at hm;subst hm;have e:=h x (by simp[cn.de,aJ.sl]);have k:=hx x (by simp);simp only[bu,ab,e];generalize A.t x=u at k ⊢;cases u with
  |view n q=>simp only[dl (x:=.ptr n q) (by simpa[I.only] using k)]
  |_=>rfl
 ·rename_i ty z ok x kk;simp only[u8] at hm;subst hm;have e:=h x (by simp[cn.de,aJ.sl]);have ek:=dn (x:=kk) (fun m hm=>h m (by simp[cn.de,hm]));have k:=hx x (by simp);simp only[bu,ek];generalize ab A kk=w;simp only[ab,e,ajQ ho k]
 ·rename_i esz ps;split at hm
  case isFalse=>cases hm
  rename_i hall;simp only[u8] at hm;subst hm;have hev:ps.map (ab A')=ps.map (ab A):=mU h;have hon:I.bT p (ps.map (ab A))=true:=Ml fun x hx'=>by
   have h1:=zx2.1 hall x hx';cases x with
   |c _=>cases h1
   |t s=>exact hx s (by simp only[kg,List.mem_flatMap];exact ⟨_,hx',by simp[aJ.sl]⟩)
  simp only[bu,hev,tc ho hon]
 ·rfl
 ·split at hm
  ·rename_i hc;exact iE hc.1
  ·cases hm
theorem AL{az:fe}{A:ae}{g:aB}{p:Nat→Bool}(hi:fc az A)(h:sI az g p=true):∃ xs,nW g.op=some xs∧∀ s∈xs,(A.t s).only p=true:=by
 unfold sI at h;split at h
 case h_2=>cases h
 rename_i xs hm;refine ⟨xs,hm,fun s hs' =>?_⟩;have h1:=zx2.1 h s hs';split at h1
 case h_2=>cases h1
 rename_i ns hn;exact js (fun n h2=>zx2.1 h1 n (by simpa using h2)) _ (hi s ns hn)
theorem gE.x6{A A':ae}{g:aB}{v:I}{xs:List Nat}{p:Nat→Bool}(h:gE g A v)(hm:nW g.op=some xs)(ha:er A A' g.de)(hx:∀ s∈xs,(A.t s).only p=true)(ho:∀ n,p n=true→A'.o n=A.o n):gE g A' v:=by
 rcases h with ⟨h,rfl⟩ | ⟨h,k⟩
 ·exact .inl ⟨qh ha h,rfl⟩
 ·exact .inr ⟨oc ha h,by rw[alR hm (aB.kE ha) hx ho];exact k⟩
theorem gE.tz{az:fe}{A:ae}{g:aB}{v:I}(hi:fc az A)(hg:jP az g=true)(h:gE g A v):fc az (A.aP g.dst v):=by
 rcases h with ⟨_,rfl⟩ | ⟨_,k⟩
 ·exact hi.put (fun _=>rfl) fun _ _ _ _=>rfl
 ·exact hi.put (fun _=>rfl) (L2 hi hg k)
theorem gE.cM{A A':ae}{g:aB}{v:I}(h:gE g A v)(hu:eC A A')(ha:er A A' g.de):gE g A' v:=by
 rcases h with ⟨h,rfl⟩ | ⟨h,k⟩
 ·exact .inl ⟨qh ha h,rfl⟩
 ·exact .inr ⟨oc ha h,MG hu (aB.kE ha) k⟩
theorem KT{az:fe}{g h:aB}(hi:oO hs az g h=true):jy g.op=true∧oY hs az g h=true∧(∀ d,g.dst=some d→d∉h.de)∧(∀ d,g.dst=some d→h.dst≠some d)∧(∀ d,h.dst=some d→d∉g.de):=by
 simp only[oO,zz2] at hi;obtain ⟨h1,h2,h3,h4⟩:=hi;refine ⟨h1,h2,fun d hd =>?_,fun d hd =>?_,fun d hd =>?_⟩
 ·rw[hd] at h3;simp at h3;exact h3.1
 ·rw[hd] at h3;simp at h3;exact h3.2
 ·rw[hd] at h4;simpa using h4
theorem AS{aA:Bool}{A A':ae}{ρ:List (Nat×Nat)}{os:List (Nat×ah)}(hu:eC A A'):∀ {xs cs:List I},jD aA A ρ os xs cs→jD aA A' ρ os xs cs
 | [],[],_=>trivial
 |x::xs,c::cs,h=>⟨h.1.imp id fun h=>Ew hu h,AS hu h.2⟩
 | [],_::_,h=>h.elim
 |_::_,[],h=>h.elim
theorem aj1{A:ae}{d:Option Nat}{v:I}{ts:List (Nat×I)}{os:List (Nat×ah)}(h:A.aP d v=au ts os):∃ ts2,A=au ts2 os∧∀ X:List (Nat×ah),(au ts2 X).aP d v=au ts X:=by
 cases d with
 |none=>exact ⟨ts,h,fun _=>rfl⟩
 |some d =>
  have ht:∀ k,(A.aP (some d) v).t k=b7 ts k:=fun k=>by rw[h];rfl
  have ho:A.o=aj os:=by
   have:(A.aP (some d) v).o=aj os:=by rw[h];rfl
   rwa [iZ] at this
  refine ⟨(d,A.t d)::ts,?_,fun X =>?_⟩
  ·cases A with
   |mk t o =>
    simp only[au,ae.mk.injEq];refine ⟨funext fun k =>?_,ho⟩;have:=ht k;simp only[ae.aP,ae.put] at this;simp only[b7];by_cases hk:k=d
    ·subst hk;simp
    ·rw[if_neg hk] at this;have hk':¬ d=k:=fun e=>hk e.symm;simp only[hk,if_false];exact this
  ·simp only[ae.aP,ae.put,au,ae.mk.injEq,and_true]
   funext k
   have:=ht k;simp only[ae.aP,ae.put] at this;by_cases hk:k=d
   ·subst hk;simp at this ⊢;exact this
   ·have hk':¬ d=k:=fun e=>hk e.symm;simp only[b7,hk,if_false]
theorem alP{ρ:List (Nat×Nat)}{os0 os':List (Nat×ah)}{r:I}(hb:eh false ρ [] os0 r os'){n:Nat}{x:ah}(hx:aj os0 n=some x):aj (dI ρ os'++os0) n=some x:=by
 rw[rG];cases hp:pre ρ os' n with
 |none=>exact hx
 |some m =>
  obtain ⟨h1,h2⟩:=mn hp;have:=(hb.qd m h1 (by simp[al,aj])).1;rw[h2,hx] at this;cases this
theorem cG.Uw{A B:ae}{j:aB}{v:I}{f:FuncId}{args:List aJ}{dst:Option Nat}{rest:List aB}(hj:jy j.op=true)(hv:gE j A v)(hB:B=A.aP j.dst v)(hf:hs.contains f=false)(hag:er A B (kg args))(hd:∀ d,j.dst=some d→dst≠some d)(hr:∀ d,dst=some d→d∉j.de)
  (h:cG P hs K (.call f (args.map (ab B)) (ca true B (args.map (ab B))) (ca false B (args.map (ab B))) dst rest B)):cG P hs K (.call f (args.map (ab A)) (ca true A (args.map (ab A))) (ca false A (args.map (ab A))) dst (j::rest) A):=by
 have eo:B.o=A.o:=by rw[hB,iZ]
 have cM:eC B A:=fun n x hx=>by rwa [←eo]
 have up':eC A B:=fun n x hx=>by rwa [eo]
 have eav:args.map (ab B)=args.map (ab A):=mU hag;rw[eav] at h;have cont:∀ r:I,cG P hs K (aE rest (B.aP dst r))→cG P hs K (aE (j::rest) (A.aP dst r)):=fun r hw=>by
  have h1:gE j (A.aP dst r) v:=hv.cM (fun n x hx=>by rwa [iZ]) (nh hr);rw[h1.to hj,qo (fun d hd'=>fun e=>hd d e hd'),←hB];exact hw
 generalize e1:ca true B (args.map (ab A))=a1 at h;generalize e2:ca false B (args.map (ab A))=a2 at h;generalize hBm:B=B0 at h;cases h with
 |flat r hc hfl hw =>
  subst hBm;rw[lZ cM e1];exact .flat r hc hfl (cont r hw)
 |lead r hc hw =>
  subst hBm;rw[lZ cM e2];exact .lead r hc (cont r hw)
 |bS ρ cargs post hc hg ha hb hw =>
  rename_i ts os0;rw[hB] at hBm;obtain ⟨ts2,hA,hts⟩:=aj1 hBm;have hA':=hA;clear cont;subst hA;refine .bS ρ cargs post hc hg (AS (A:=au ts os0) (A':=au ts2 os0) (fun n x hx=>hx) ha) hb fun r os' hp =>?_;have h1:gE j ((au ts2 (dI ρ os'++os0)).aP dst (r.aN (bA ρ))) v:=hv.cM (fun n x hx=>by
   rw[iZ];exact alP (hb r os' hp) hx) (fun k hk=>by
    have:=nh (A:=au ts2 (dI ρ os'++os0)) (v:=r.aN (bA ρ)) hr k hk;rw[this];rfl)
  rw[h1.to hj,qo (fun d hd'=>fun e=>hd d e hd'),hts];exact hw r os' hp
 |yz aA ρ os cargs post hfs =>
  rw[hf] at hfs;cases hfs
theorem cG.swap{az:fe}{A:ae}{j g:aB}{rest:List aB}(hinv:fc az A)(hi:oO hs az j g=true)(hw:cG P hs K (aE (j::g::rest) A)):cG P hs K (aE (g::j::rest) A):=by
 obtain ⟨hj,hl,i1,i2,i3⟩:=KT hi;obtain ⟨v,hv,hw⟩:=cG.zw hj hw;have ag:er (A.aP j.dst v) A g.de:=(nh i1).symm;have ag':er A (A.aP j.dst v) g.de:=nh i1;have cM:eC (A.aP j.dst v) A:=fun n x hx=>by rwa [iZ] at hx
 have up':∀ (d:Option Nat) (u:I),eC A (A.aP d u):=fun d u n x hx=>by rwa [iZ]
 by_cases hsg:jy g.op=true
 ·obtain ⟨u,hu,hw⟩:=cG.zw hsg hw;rw[(hu.cM cM ag).to hsg,(hv.cM (up' _ _) (nh i3)).to hj,←qo i2];exact hw
 ·-- the guard
  have guard:(gJ (A.aP j.dst v) g∧aE (g::rest) (A.aP j.dst v)=aE rest ((A.aP j.dst v).aP g.dst .undef))∨(pass (A.aP j.dst v) g∧aE (g::rest) (A.aP j.dst v)=bj (A.aP j.dst v) g.dst g.op rest (aE rest))∨aE (g::rest) (A.aP j.dst v)=.fail:=by
   cases hg:g.guard with
   |none=>exact .inr (.inl ⟨by simp only[pass,hg],by simp only[aE,hg]⟩)
   |some tb =>
    obtain ⟨t,b⟩:=tb;cases ht:(A.aP j.dst v).t t with
    |bool b' =>
     by_cases hbb:b'=b
     ·subst hbb;have hp:pass (A.aP j.dst v) g:=by simp only[pass,hg,ht]
      exact .inr (.inl ⟨hp,oC hp⟩)
     ·have hn:gJ (A.aP j.dst v) g:=by simp only[gJ,hg];exact .inl (by rw[ht,vt hbb])
      exact .inl ⟨hn,sH hn⟩
    |undef =>
     have hn:gJ (A.aP j.dst v) g:=by simp only[gJ,hg];exact .inr ht
     exact .inl ⟨hn,sH hn⟩
    |_=>exact .inr (.inr (by simp only[aE,hg,ht]))
  rcases guard with ⟨hn,he⟩ | ⟨hp,he⟩ | he
  ·rw[he] at hw;rw[sH (qh ag hn),(hv.cM (up' _ _) (nh i3)).to hj,←qo i2];exact hw
  ·rw[he] at hw;rw[oC (oc ag hp)];obtain ⟨dst,op,gd⟩:=g;simp only at hw hsg i2 i3 ⊢;cases op with
   |alloc z =>
    cases dst with
    |none=>simp only[bj] at hw;cases hw
    |some d =>
    simp only[bj] at hw ⊢;split at hw
    case h_2=>cases hw
    rename_i ho;rw[iZ] at ho;simp only[ho];have h1:gE j ((A.aS d (.box z)).put d (.ptr d [])) v:=hv.cM (fun n y hy=>by
     have:n≠d:=fun he=>by rw[he,ho] at hy;cases hy
     simp only[ae.put,ae.aS,this,if_false];exact hy) (fun k hk=>by
     have:k≠d:=fun he=>i3 d rfl (he▸hk);simp only[ae.put,ae.aS,this,if_false])
    rw[h1.to hj];have e:((A.aP j.dst v).aS d (.box z)).put d (.ptr d [])=((A.aS d (.box z)).put d (.ptr d [])).aP j.dst v:=by
     cases hgd:j.dst with
     |none=>rfl
     |some e =>
      have hne:e≠d:=fun he=>i2 e hgd (by rw[he]);simp only[ae.aP,ae.put,ae.aS,ae.mk.injEq,and_true]
      funext k
      by_cases h1:k=e <;>by_cases h2:k=d <;>simp_all
    rw[←e];exact hw
   |box x =>
    have ex:ab (A.aP j.dst v) x=ab A x:=dn (aB.kE ag');cases dst with
    |none=>simp only[bj] at hw;cases hw
    |some d =>
    simp only[bj] at hw ⊢;split at hw
    case h_2=>cases hw
    rename_i ho;rw[iZ] at ho;simp only[ho];rw[ex] at hw;split at hw
    case isFalse=>cases hw
    rename_i hval;rw[if_pos hval];have h1:gE j ((A.aS d (.box (ab A x))).put d (.ptr d [])) v:=hv.cM (fun n y hy=>by
     have:n≠d:=fun he=>by rw[he,ho] at hy;cases hy
     simp only[ae.put,ae.aS,this,if_false];exact hy) (fun k hk=>by
     have:k≠d:=fun he=>i3 d rfl (he▸hk);simp only[ae.put,ae.aS,this,if_false])
    rw[h1.to hj];have e:((A.aP j.dst v).aS d (.box (ab A x))).put d (.ptr d [])=((A.aS d (.box (ab A x))).put d (.ptr d [])).aP j.dst v:=by
     cases hgd:j.dst with
     |none=>rfl
     |some e =>
      have hne:e≠d:=fun he=>i2 e hgd (by rw[he]);simp only[ae.aP,ae.put,ae.aS,ae.mk.injEq,and_true]
      funext k
      by_cases h1:k=e <;>by_cases h2:k=d <;>simp_all
    rw[←e];exact hw
   |call f args =>
    simp only[bj] at hw ⊢;refine cG.Uw hj hv rfl (by simpa[oY,p6] using hl) (aB.kE ag') i2 i3 hw
   |br s y u =>
    cases dst with
    |some d=>simp only[bj] at hw;cases hw
    |none =>
    have ey:ab (A.aP j.dst v) y=ab A y:=dn (aB.kE ag').l;have eu:ab (A.aP j.dst v) u=ab A u:=dn (aB.kE ag').r;simp only[bj] at hw ⊢;rw[ey,eu,iZ] at hw;cases hx:ab A y <;>simp only[hx] at hw ⊢ <;>try (cases hw;done)
    rename_i n q;cases ho:A.o n with
    |none=>rw[ho] at hw;cases hw
    |some ob =>
    rw[ho] at hw;cases ob <;>simp only at hw ⊢ <;>try (cases hw;done)
    rename_i b;cases hb:b.at q with
    |none=>rw[hb] at hw;cases hw
    |some old =>
    rw[hb] at hw;simp only at hw ⊢;split at hw
    case isFalse=>cases hw
    rename_i hok;rw[if_pos hok];have h1:gE j (A.aS n (.box (b.dO q (ab A u)))) v:=by
     have none0:nW j.op=some []→gE j (A.aS n (.box (b.dO q (ab A u)))) v:=fun hm=>hv.x6 (p:=fun _=>false) hm (fun _ _=>rfl) (fun s hs'=>by cases hs') (fun m hm=>by cases hm);cases y with
     |c y =>
      simp only[oY,p6,jy,Bool.false_or] at hl;split at hl
      ·rename_i hm;exact none0 hm
      ·cases hl
     |t y =>
      simp only[oY,p6,jy,Bool.false_or] at hl;split at hl
      ·rename_i hm;exact none0 hm
      ·split at hl
       case h_2=>cases hl
       rename_i ms hms;obtain ⟨xs,hm,hx2⟩:=AL hinv hl;refine hv.x6 hm (fun _ _=>rfl) hx2 fun m hm2 =>?_;have hn:=hinv y ms hms;simp only[ab] at hx;rw[hx] at hn;have:m≠n:=fun e=>by subst e;simp[I.only] at hn hm2;exact hm2 hn
       simp only[ae.aS,if_neg this]
    rw[h1.to hj];have e:(A.aP j.dst v).aS n (.box (b.dO q (ab A u)))=(A.aS n (.box (b.dO q (ab A u)))).aP j.dst v:=by cases j.dst <;>rfl
    rw[←e];exact hw
   |dF e esz bytes z s x =>
    have hag:er A (A.aP j.dst v) (s.sl++x.sl):=aB.kE ag';have he2:bj (A.aP j.dst v) dst (.dF e esz bytes z s x) rest (aE rest)=bj A dst (.dF e esz bytes z s x) (j::rest) fun B=>aE rest (B.aP j.dst v):=by
     cases hjd:j.dst with
     |none=>rfl
     |some d =>
      rw[hjd] at hag;exact RV (fun e=>i2 d hjd e) hag rest (j::rest) (aE rest)
    rw[he2] at hw;have kv:∀ B,sB A dst (ab A s) B→aE (j::rest) B=aE rest (B.aP j.dst v):=fun B hB=>by
     have hagB:er A B j.de:=fun k hk=>hB.1 k fun e=>i3 k e hk;have:gE j B v:=by
      simp only[oY,p6,jy,Bool.false_or,Bool.or_eq_true] at hl;rcases hl with hl | hl
      ·obtain ⟨xs,hm,hx2⟩:=AL hinv hl;exact hv.x6 hm hagB hx2 fun m hm2=>by cases hm2
      ·have:=sa hinv hl;exact hv.cM (hB.2 (by simpa using this)) hagB
     rw[this.to hj]
    rcases AO A dst e esz bytes z s x (j::rest) with h1 | ⟨B,h1,h2⟩ | ⟨p,bp,h1,h2⟩
    ·rw[h1] at hw;cases hw
    ·rw[h1] at hw ⊢;rw[kv B h2];exact hw
    ·rw[h1] at hw ⊢;exact .any fun m hm=>by rw[kv _ (h2 m)];exact hw.AJ m hm
   |_=>first | exact absurd rfl hsg | (simp[oY,p6,jy] at hl)
  ·rw[he] at hw;cases hw
theorem cG.qT{az:fe}{g:aB} : ∀ {l:List aB} {r:List aB} {A:ae},fc az A→(∀ j∈l,oO hs az j g=true∧jP az j=true)→cG P hs K (aE (l++g::r) A)→cG P hs K (aE (g::(l++r)) A)
 | [],r,A,_,_,h=>h
 |j::l,r,A,hinv,hi,h=>by
  have hj:=(KT (hi j (by simp)).1).1;obtain ⟨v,hv,h2⟩:=cG.zw (g:=j) (rest:=l++g::r) hj h;have h3:=cG.qT (l:=l) (r:=r) (hv.tz hinv (hi j (by simp)).2) (fun k hk=>hi k (by simp[hk])) h2;refine cG.swap hinv (hi j (by simp)).1 ?_;rw[hv.to hj];exact h3
end
def tU:List Nat→Bool
 | []=>true
 |a::l => !l.contains a&&tU l
def sG(hs:List FuncId)(az:fe)(gs:List aB)(cl:List Nat):List Nat→List Nat→Bool
 |_,[]=>true
 |before,i::σ=>(before.all fun j=>(cl.getD i 0).testBit j||oO hs az (gs.getD j default) (gs.getD i default))&&sG hs az gs cl (i::before) σ
def uj(hs:List FuncId)(az:fe)(on:List (List Nat))(gs:List aB)(cl:List Nat)(σ:List Nat):Bool :=
 (Nat.beq σ.length gs.length&&(tU σ&&(σ.all (fun i=>decide (i<gs.length))&&((List.range gs.length).all (fun i=>σ.contains i)&&gs.all fun g=>uc g.op&&jP az g))))&&(sG hs az gs cl [] σ&&(List.range gs.length).all fun i=>(on.getD i []).all (fun k=>decide (k<i))&&Nat.beq (cl.getD i 0) (pw cl (on.getD i [])))
theorem LM:∀ {l:List Nat},tU l=true→l.Nodup
 | [],_=>List.nodup_nil
 |a::l,h=>by
  simp only[tU,zz2,Bool.not_eq_true',List.contains_eq_mem,decide_eq_false_iff_not] at h;exact List.nodup_cons.2 ⟨h.1,LM h.2⟩
theorem AH{hs:List FuncId}{az:fe}{gs:List aB}{cl:List Nat} : ∀ {σ before:List Nat},sG hs az gs cl before σ=true→∀ s1 i s2,σ=s1++i::s2→∀ j,j∈before∨j∈s1→(cl.getD i 0).testBit j=true∨oO hs az (gs.getD j default) (gs.getD i default)=true
 | [],_,_,s1,i,s2,e,_,_=>by cases s1 <;>cases e
 |a::σ,before,h,s1,i,s2,e,j,hj=>by
  simp only[sG,zz2,zx2,Bool.or_eq_true] at h;cases s1 with
  |nil =>
   simp only[zy3,List.cons.injEq] at e;obtain ⟨rfl,rfl⟩:=e;rcases hj with hj | hj
   ·exact h.1 j hj
   ·cases hj
  |cons b s1 =>
   simp only[zy0,List.cons.injEq] at e;obtain ⟨rfl,rfl⟩:=e;refine AH h.2 s1 i s2 rfl j ?_;rcases hj with hj | hj
   ·exact .inl (List.mem_cons_of_mem _ hj)
   ·rcases zx6.1 hj with hj | hj
    ·exact .inl (by rw[hj];exact List.mem_cons_self)
    ·exact .inr hj
def jv(σ:List Nat)(listed:Array Bool):List Nat:=σ.filter fun i => !listed.getD i true
def o7(gs:List aB)(σ:List Nat)(listed:Array Bool):List aB:=(jv σ listed).map fun i=>gs.getD i default
theorem al9{σ:List Nat}{listed:Array Bool}{i:Nat}(hn:σ.Nodup)(hi:i∈σ)(hl:i<listed.size)(hu:listed.getD i true=false):∃ s1 s2,σ=s1++i::s2∧jv σ listed=(s1.filter fun j => !listed.getD j true)++i::(s2.filter fun j => !listed.getD j true) ∧
  jv σ (listed.setIfInBounds i true)=(s1.filter fun j => !listed.getD j true)++(s2.filter fun j => !listed.getD j true):=by
 obtain ⟨s1,s2,rfl⟩:=List.append_of_mem hi;have same:∀ j,j≠i→(listed.setIfInBounds i true).getD j true=listed.getD j true:=fun j hj=>getD_set_ne true (Ne.symm hj);have hit:(listed.setIfInBounds i true).getD i true=true:=by simp[hl]
 have hnd:=List.nodup_append.1 hn;have h1:∀ j∈s1,j≠i:=fun j hj=>hnd.2.2 j hj i List.mem_cons_self;have h2:∀ j∈s2,j≠i:=fun j hj e=>(List.nodup_cons.1 hnd.2.1).1 (e▸hj);refine ⟨s1,s2,rfl,?_,?_⟩
 ·simp only[jv,List.filter_append,zx4,hu,Bool.not_false,if_true]
 ·simp only[jv,List.filter_append,zx4,hit,Bool.not_true,zz6,if_false]
  congr 1
  ·exact List.filter_congr fun j hj=>by rw[same j (h1 j hj)]
  ·exact List.filter_congr fun j hj=>by rw[same j (h2 j hj)]
structure Az (hs:List FuncId) (az:fe) (l:List Oper) (gs:List aB) (σ:List Nat):Prop where
 akl:σ.Nodup
 lt:∀ i∈σ,i<gs.length
 all:∀ i,i<gs.length→i∈σ
 ok:∀ g∈gs,uc g.op=true∧jP az g=true
 len:σ.length=gs.length
 pI:∀ i o,l[i]?=some o→∀ k∈eP o,k<i
 xL:∀ (S:Nat→Prop),(∀ i o,l[i]?=some o→S i→∀ k∈eP o,S k)→∀ s1 i s2 o,σ=s1++i::s2→l[i]?=some o→(∀ k∈eP o,S k)→∀ j∈s1,¬ S j→oO hs az (gs.getD j default) (gs.getD i default)=true
theorem alL{hs:List FuncId}{az:fe}{l:List Oper}{gs:List aB}{cl σ:List Nat}(hlen:gs.length=l.length)(h:uj hs az (l.map eP) gs cl σ=true):Az hs az l gs σ:=by
 simp only[uj,zz2,zx2,decide_eq_true_eq,zw1,List.contains_eq_mem] at h;obtain ⟨⟨h1,h2,h3,h4,h5⟩,h6,h7⟩:=h;have bF:∀ i o,l[i]?=some o→(∀ k∈eP o,k<i)∧(∀ j,(cl.getD i 0).testBit j=true→j∈eP o∨∃ k∈eP o,(cl.getD k 0).testBit j=true):=by
  intro i o ho;have hi:i<l.length:=(zy6.1 ho).1;have h8:=h7 i (by omega);have hon:(l.map eP).getD i []=eP o:=by simp[zz0,ho]
  rw[hon] at h8;have hb:=Nat.eq_of_beq_eq_true h8.2;exact ⟨h8.1,fun j hj=>zQ (by rw[←hb];exact hj)⟩
 refine ⟨LM h2,h3,h4,h5,Nat.eq_of_beq_eq_true h1,fun i o ho=>(bF i o ho).1,?_⟩;intro S hS s1 i s2 o e ho hon j hj hnj;have key:∀ n i o,i≤n→l[i]?=some o→(∀ k∈eP o,S k)→∀ j,(cl.getD i 0).testBit j=true→S j:=by
  intro n
  induction n with
  |zero =>
   intro i o hi ho hon j hj;obtain ⟨h8,h9⟩:=bF i o ho;rcases h9 j hj with h | ⟨k,hk,_⟩
   ·exact hon j h
   ·have:=h8 k hk;omega
  |succ n ih =>
   intro i o hi ho hon j hj;obtain ⟨h8,h9⟩:=bF i o ho;rcases h9 j hj with h | ⟨k,hk,hjk⟩
   ·exact hon j h
   ·have hki:=h8 k hk;have hkl:k<l.length:=Nat.lt_trans hki (zy6.1 ho).1;obtain ⟨ok,hok⟩:∃ ok,l[k]?=some ok:=⟨l[k],zz9 hkl⟩
    exact ih k ok (by omega) hok (hS k ok hok (hon k hk)) j hjk
 rcases AH h6 s1 i s2 e j (.inr hj) with h | h
 ·exact absurd (key i i o (zz7 _) ho hon j h) hnj
 ·exact h
section
variable {c:cU}
theorem aia{K:ae→Prop}{hs:List FuncId}{az:fe}{bX:Array Oper}{Q:Exit→Act→World→Prop}{o:Oper}{g:aB}{rest:List aB}{A:ae}{a:Act}{w:World}{Kw:Act→World→Prop}(hg:pK c.P c.n bX o=some g)(hi:fc az A)(ho:uc g.op=true∧jP az g=true)(hwp:cG c.P hs K (aE (g::rest) A))(hs':cA c A a w)
  (hK:∀ B a' w',cG c.P hs K (aE rest B)→fc az B→cA c B a' w'→Kw a' w'):if Region.wanted o (yielded bX a.tmps) then o.wpIn c.bp 9 c.P a w Kw Q else (∀ f,o.about c.P w a.eval=some f→c.bp.fn f)∧Kw (a.put o.dst undef) w:=by
 obtain ⟨h1,h2,h3,h4⟩:=vC hg;have step:cG c.P hs K (bj A g.dst g.op rest (aE rest))→o.wpIn c.bp 9 c.P a w Kw Q:=fun h =>
  xt h1 h2.symm (by rw[h2];exact h3) (cG.one (Y:=c.Y) hi ho.1 ho.2 h) hs' (fun B a' w' hw hs2=>by
   cases hw with
   |done hk=>exact hK B a' w' hk.1 hk.2 hs2)
 simp only[aE] at hwp;rcases h4 with ⟨h5,h6⟩ | ⟨j,b,t,h5,h6,h7⟩
 ·rw[h6] at hwp;have hw:Region.wanted o (yielded bX a.tmps)=true:=by simp[Region.wanted,h5]
  rw[hw,if_pos rfl];exact step hwp
 ·rw[h7] at hwp;simp only at hwp;split at hwp
  ·rename_i b' hb';rw[xC hs' h5 h6 hb'];split at hwp
   ·rename_i hbb;subst hbb;simp only[BEq.rfl,if_true];exact step hwp
   ·rename_i hbb;have:(b'==b)=false:=by simpa using hbb
    rw[this];simp only[zz6,if_false];exact ⟨fun f _=>oI c f,hK _ _ _ hwp (hi.put (fun _=>rfl) fun _ _ _ _=>rfl) (by rw[h2];exact hs'.qn h3)⟩
  ·rename_i hb';rw[xD hs' h5 h6 hb'];simp only[zz6,if_false];exact ⟨fun f _=>oI c f,hK _ _ _ hwp (hi.put (fun _=>rfl) fun _ _ _ _=>rfl) (by rw[h2];exact hs'.qn h3)⟩
  ·cases hwp
theorem RM{K:ae→Prop}{fs:List FuncId}{az:fe}{bX:Array Oper}{gs:List aB}{σ:List Nat}{Q:Exit→Act→World→Prop}(hQ:∀ B a w,K B→cA c B a w→Q .normal a w)(hgs:kQ c.P c.n bX bX.toList=some gs)(hd:Az fs az bX.toList gs σ) :
  ∀ (fuel:Nat) (listed:Array Bool) (A:ae) (a:Act) (w:World),listed.size=bX.size→(∀ i o,bX.toList[i]?=some o→listed.getD i false=true→∀ k∈eP o,listed.getD k false=true)→(jv σ listed).length≤fuel →
   fc az A→cG c.P fs K (aE (o7 gs σ listed) A)→cA c A a w→wpAnyIn c.bp 9 c.P .any bX Q fuel listed a w:=by
 obtain ⟨hlen,hat⟩:=nE hgs;have onOf_mem:∀ (o:Oper) (e:Edge),e∈o.after→Region.binds .any e=true→e.on∈eP o:=fun o e he hb=>by
  simp only[eP,zx9,zu0];exact ⟨e,⟨by simpa using he,hb⟩,rfl⟩
 have of_onOf:∀ (o:Oper) (k:Nat),k∈eP o→∃ e∈o.after,Region.binds .any e=true∧e.on=k:=fun o k hk=>by
  simp only[eP,zx9,zu0] at hk;obtain ⟨e,⟨h1,h2⟩,h3⟩:=hk;exact ⟨e,by simpa using h1,h2,h3⟩
 have hgl:gs.length=bX.size:=by rw[hlen,zv0]
 have last:∀ (listed:Array Bool) (A:ae) (a:Act) (w:World),listed.size=bX.size→Region.ready .any bX listed=[]→cG c.P fs K (aE (o7 gs σ listed) A)→cA c A a w→Q .normal a w:=by
  intro listed A a w hsz hr hwp hs;have hnone:jv σ listed=[]:=by
   have all:∀ n,∀ i,i<n→i<bX.size→listed.getD i true=true:=by
    intro n
    induction n with
    |zero=>intro i hi;omega
    |succ n ih =>
     intro i hi his;cases hb:listed.getD i true with
     |true=>rfl
     |false =>
      exfalso
      have ho:bX[i]?=some bX[i]:=Array.getElem?_eq_getElem his;have:i∈Region.ready .any bX listed:=mem_ready.2 ⟨hb,bX[i],ho,fun e he hbd=>by
       have hlt:=hd.pI i bX[i] (by simp) e.on (onOf_mem _ e he hbd);have h1:=ih e.on (by omega) (by omega);have h2:e.on<listed.size:=by omega
       simpa[Array.getD_eq_getD_getElem?,h2] using h1⟩
      rw[hr] at this;cases this
   simp only[jv];refine List.filter_eq_nil_iff.2 fun i hi =>?_;have:=all (i+1) i (by omega) (by rw[←hgl];exact hd.lt i hi);simp only[this,Bool.not_true,zz6,not_false_eq_true]
  simp only[o7,hnone,zx1,aE] at hwp;cases hwp with
  |done hk=>exact hQ A a w hk hs
 intro fuel
 induction fuel with
 |zero =>
  intro listed A a w hsz hcl hcnt hinv hwp hs;have hnone:jv σ listed=[]:=zv1.1 (by omega);have hr:Region.ready .any bX listed=[]:=by
   refine List.eq_nil_iff_forall_not_mem.2 fun i hi =>?_;obtain ⟨h1,o,ho,_⟩:=mem_ready.1 hi;have:i∈jv σ listed:=by
    simp only[jv,zu0,h1,Bool.not_false,and_true];exact hd.all i (by rw[hgl];exact (zw2.1 ho).1)
   rw[hnone] at this;cases this
  exact ⟨hr,last listed A a w hsz hr hwp hs⟩
 |succ fuel ih =>
  intro listed A a w hsz hcl hcnt hinv hwp hs;refine ⟨fun hr=>last listed A a w hsz hr hwp hs,fun i hi =>?_⟩;obtain ⟨hun,o,ho,hall⟩:=mem_ready.1 hi;have hin:i<bX.size:=(zw2.1 ho).1;obtain ⟨s1,s2,hσ,e1,e2⟩:=al9 hd.akl (hd.all i (by omega)) (by omega) hun;have hol:bX.toList[i]?=some o:=by simpa using ho
  obtain ⟨g,hgi,hcg⟩:=hat i o hol;have hon:∀ k∈eP o,listed.getD k false=true:=fun k hk=>by
   obtain ⟨e,h1,h2,h3⟩:=of_onOf o k hk;exact h3▸hall e h1 h2
  have hgd:gs.getD i default=g:=by simp[zz0,hgi]
  have hwp':cG c.P fs K (aE (g::o7 gs σ (listed.setIfInBounds i true)) A):=by
   simp only[o7,e1,zx5,zz8,hgd] at hwp;simp only[o7,e2,zx5];refine cG.qT hinv (fun j hj =>?_) hwp;obtain ⟨k,hk,rfl⟩:=zx9.1 hj;obtain ⟨hk1,hk2⟩:=zu0.1 hk;have:=hd.xL (fun k=>listed.getD k false=true) hcl s1 i s2 o hσ hol hon k hk1 (by
    have hks:k<listed.size:=by
     have:=hd.lt k (by rw[hσ];exact List.mem_append_left _ hk1);omega
    simp[Array.getD_eq_getD_getElem?,hks] at hk2 ⊢;exact hk2)
   rw[hgd] at this;refine ⟨this,(hd.ok _ ?_).2⟩;have hkl:=hd.lt k (by rw[hσ];exact List.mem_append_left _ hk1);rw[zz0,zz9 hkl];exact zx3 _
  unfold wpOpIn;rw[ho];refine aia hcg hinv (hd.ok g (List.mem_of_getElem? hgi)) hwp' hs fun B a' w' hw hiB hs'=>ih _ B a' w' (by simpa using hsz) ?_ ?_ hiB hw hs'
  ·intro m om hom hm k hk;by_cases hmi:m=i
   ·subst hmi;rw[hol,u8] at hom;subst hom;exact getD_set_true (hon k hk)
   ·rw[getD_set_ne false (Ne.symm hmi)] at hm;exact getD_set_true (hcl m om hom hm k hk)
  ·have:(jv σ listed).length=(jv σ (listed.setIfInBounds i true)).length+1:=by
    rw[e1,e2];simp;omega
   omega
def oZ(σ:List Nat)(gs:List aB):List aB:=σ.map fun i=>gs.getD i default
theorem J.al6{Q:Exit→ae→Prop}{A:ae}{on:List (List Nat)}{gs:List aB}(hs:List FuncId)(az:fe)(cl σ:List Nat)(hd:uj hs az on gs cl σ=true)(hi:fc az A)(h:∀ K:ae→Prop,(∀ B,Q .normal B→K B)→cG c.P hs K (aE (oZ σ gs) A)):J c (.bV (some on) gs) Q A:=by
 intro code hc a w hs';cases code <;>simp only[fr] at hc <;>try (first | (cases hc;done) | ((repeat' split at hc) <;>cases hc;done))
 rename_i id bX draw;split at hc
 ·rename_i gs' hgs;split at hc
  case isFalse=>cases hc
  rename_i hok;simp only[u8,aO.bV.injEq] at hc;obtain ⟨he,rfl⟩:=hc;cases draw with
  |false=>cases he
  |true =>
   simp only[cond_true,u8] at he;subst he;simp only[Bool.not_true,Bool.false_or] at hok;have hp:=alL (nE hgs).1 hd;refine wpIn_region_any hok (RM (K:=Q .normal) (fun B a w hk hs=>⟨B,hk,hs⟩) hgs hp bX.size (Array.replicate bX.size false) A a _ (by simp) ?_ ?_ hi ?_ ?_)
   ·intro i o _ h
    exfalso
    simp only[Array.getD_eq_getD_getElem?,Array.getElem?_replicate] at h;split at h <;>simp at h
   ·refine zu1 (zv9 _ _) ?_;rw[hp.len,(nE hgs).1,zv0];exact zz7 _
   ·have hall:jv σ (Array.replicate bX.size false)=σ:=by
     simp only[jv];refine List.filter_eq_self.2 fun i hi =>?_;have h1:=hp.lt i hi;rw[(nE hgs).1,zv0] at h1;simp[h1]
    simp only[o7,hall];exact h _ fun _ hb=>hb
   ·obtain ⟨D,E,hs'⟩:=hs';exact ⟨D,E,hs'.grow (w' := { w with drawn:=w.drawn+1 }) ⟨rfl,rfl,rfl,zz7 _,fun _ _=>rfl⟩ (fun _ _ h=>h) (fun _ _ h _=>h) (fun b o h=>hs'.dv b o h)⟩
 ·cases hc
def oQ(ts:List (Nat×I)):fe→Prop
 | []=>True
 |(s,ns)::az=>(b7 ts s).only (fun n=>ns.contains n)=true∧oQ ts az
theorem fc.of{ts:List (Nat×I)}{os:List (Nat×ah)}{az:fe}(h:oQ ts az):fc az (au ts os):=by
 intro s ns hn;simp only[au]
 induction az with
 |nil=>cases hn
 |cons q az ih =>
  obtain ⟨s',ns'⟩:=q;simp only[oQ] at h;simp only[jJ,List.find?_cons] at hn;split at hn
  ·rename_i e;simp only[zy5,u8] at hn;simp only[beq_iff_eq] at e;subst e hn;exact h.1
  ·exact ih h.2 hn
end
end Go.Abs
namespace Go.Abs
open Go Go.RowKit
open Enc (enc)
def vH(A:ae):I→Option I
 | .nils _ | .c0 _=>some (.int .i64 ((0:Nat):Int))
 | .view n p _ lo _=>match fE (ff p (A.o n)) with
  |some fs=>some (.int .i64 ((fs.length-lo:Nat):Int))
  |none=>none
 |_=>none
theorem akB(A:ae)(d:Option Nat)(rest:List aB)(x:aJ):bQ A d (.cap x) rest=cP (vH A (ab A x)) (di d rest A):=by
 simp only[bQ,bj,bu];cases ab A x <;>try rfl
 rename_i n p sz l0 k;simp only[vH,lS,gR];cases ff p (A.o n) with
 |none=>rfl
 |some c=>cases c <;>rfl
section
variable {α:Type} [Enc α] {P:Program} {Y:Value→List I→List (Nat×ah)→cO→Prop} {K:ae→Prop} {A:ae} {rest:List aB} {esz bytes:Nat}
theorem r8{n lo k:Nat}{xs:List α}(ho:A.o n=some (.box (.agg (xs.map enc))))(h:lo+k≤xs.length):eI A esz (.view n [] esz lo k)=some (((xs.drop lo).take k).map enc):=by
 have h1:cD A (.ptr n [])=some (.agg (xs.map enc)):=by simp only[cD,ho];rfl
 simp only[eI,h1,zy2];rw[if_pos ⟨h,trivial⟩,List.map_take,List.map_drop]
theorem Pk{xs ys:List α}(h:xs.length=ys.length):I.cS (xs.map enc)=I.cS (ys.map enc):=by
 rw[r6,r6,h]
theorem RT{d:Option Nat}{e:Nat}(z:I)(hs:Enc.sz α=esz){n l:Nat}{xs ys:List α}(hy:ys≠[])(ho:A.o n=some (.box (.agg (xs.map enc))))(hr:l+ys.length≤xs.length) :
  ic A d e esz bytes z (enc ys) rest (.view n [] esz 0 l)=aE rest ((A.aS n (.box (.agg ((xs.take l++(ys++xs.drop (l+ys.length))).map enc)))).aP d (.view n [] esz 0 (l+ys.length))):=by
 have h1:=r8 (A:=A) (esz:=esz) (lo:=0) (k:=l) ho (by omega);have h2:(I.agg (xs.map (enc (α:=α)))).at []=some (.agg (xs.map enc)):=rfl;have h3:I.cS (ys.map (enc (α:=α)))=I.cS (((xs.map (enc (α:=α))).drop l).take ys.length):=by
  rw[←List.map_drop,←List.map_take];exact Pk (by rw[zy7,zy9];omega)
 simp only[ic,h1,zy A esz ys hs,fw];rw[if_neg (by simpa using hy)];simp only[ho,h2,zy2,zz4];rw[if_pos hr,if_pos ⟨rfl,by rw[zy2,zz4];exact h3⟩];simp only[jc,fI,zy2,zx5,List.map_take,List.map_drop]
end
theorem amI{n:Nat}{p:List Nat}{sz k total i:Nat}(h:i≤k)(hk:k≤total):∃ y,iA n p sz 0 k total (some (.int .i64 i)) none none=some y:=by
 simp only[iA,iP];rw[if_pos ⟨by omega,by omega,by omega⟩];split <;>exact ⟨_,rfl⟩
theorem Ls(k:Nat):b7 [] k=.du:=rfl
def im(az:List Nat):List (Nat×I)→List (Nat×I)
 | []=>[]
 |(s,v)::ts=>if az.contains s=true then (s,v)::im az ts else im az ts
theorem ajn(az:List Nat):im az []=[]:=rfl
theorem ajm(az:List Nat)(s:Nat)(v:I)(ts:List (Nat×I)):im az ((s,v)::ts)=if az.contains s=true then (s,v)::im az ts else im az ts:=rfl
theorem Lr(az:List Nat)(t:Nat):∀ ts,b7 (im az ts) t=.du∨b7 (im az ts) t=b7 ts t
 | []=>.inl rfl
 |(s,v)::ts=>by
  simp only[im];have ih:=Lr az t ts;by_cases hs:az.contains s=true
  ·rw[if_pos hs];simp only[b7];split
   ·exact .inr rfl
   ·exact ih
  ·rw[if_neg hs];simp only[b7];split
   ·rename_i e;subst e
    left
    have:∀ ts,b7 (im az ts) t=.du:=by
     intro ts
     induction ts with
     |nil=>rfl
     |cons q ts ih2 =>
      obtain ⟨s',v'⟩:=q;simp only[im];split
      ·rename_i h';simp only[b7];have:t≠s':=fun e=>hs (e▸h');rw[if_neg this];exact ih2
      ·exact ih2
    exact this ts
   ·exact ih
theorem J.fX(az:List Nat){c:cU}{x:aO}{Q:Exit→ae→Prop}{ts:List (Nat×I)}{os:List (Nat×ah)}(h:J c x Q (au (im az ts) os)):J c x Q (au ts os):=by
 refine J.sub ?_ h;rintro cc a w ⟨D,E,hs⟩;refine ⟨D,E,hs.sz,hs.e8,fun t =>?_,hs.eb,hs.df,hs.dv,hs.bS,hs.cZ,hs.ed,hs.fj,hs.cM,hs.fp,hs.fQ⟩;simp only[au];rcases Lr az t ts with e | e
 ·rw[e];simp[aY]
 ·rw[e];exact hs.eA t
theorem xY:(∀ az,im az []=[])∧(∀ az s v ts,im az ((s,v)::ts)=if az.contains s=true then (s,v)::im az ts else im az ts)∧(∀ (a:Nat) l b,(a::l).contains b=(b==a||l.contains b))∧(∀ b:Nat,([]:List Nat).contains b=false)∧(∀ b,(false||b)=b)∧(∀ b,(true||b)=true)∧(∀ b,(b||true)=true)∧(∀ b,(b||false)=b)∧((false=true)=False) :=
 ⟨ajn,ajm,fun _ _ _=>List.contains_cons,fun _=>rfl,fun _=>rfl,fun _=>rfl,fun b=>by cases b <;>rfl,fun b=>by cases b <;>rfl,by simp⟩
end Go.Abs
namespace Go.Abs
open Go Go.RowKit
open Enc (enc)
def ye:Option ah→Option (List I×List I)
 |some (.cB ks vs)=>some (ks,vs)
 |_=>none
noncomputable def yq(A:ae)(n:Nat)(rest:List aB):Option (List I×List I)→cK
 |some (ks,vs)=>aE rest (A.aS n (.cB ks vs))
 |none=>.fail
noncomputable def yp(A:ae)(n:Nat)(ty:cN)(k v:I)(rest:List aB):Option ah→cK
 |some (.cB ks vs)=>yq A n rest (gB ty k v ks vs)
 |_=>.fail
noncomputable def yn(A:ae)(ty:cN)(k v:I)(rest:List aB):I→cK
 | .mref n=>yp A n ty k v rest (A.o n)
 |_=>.fail
noncomputable def ym(A:ae)(d:Nat)(rest:List aB):Option ah→cK
 |none=>aE rest ((A.aS d (.cB [] [])).put d (.mref d))
 |some _=>.fail
open Classical in
noncomputable def tQ(A:ae)(d bytes:Nat)(z:I)(rest:List aB):I→cK
 | .int _ n=>if 0≤n∧n.toNat*bytes≤281474976710656∧n.toNat≤maxLen then aE rest ((A.aS d (.box (.agg (List.replicate n.toNat z)))).put d (.view d [] 1 0 n.toNat)) else .fail
 |_=>.fail
noncomputable def tP(A:ae)(d bytes:Nat)(z n:I)(rest:List aB):Option ah→cK
 |none=>tQ A d bytes z rest n
 |some _=>.fail
noncomputable def zg(A:ae)(d:Nat)(rest:List aB):I→cK
 | .cX ks vs=>aE rest ((A.aS d (.it ks vs (List.range ks.length) none)).put d (.dC d))
 |_=>.fail
noncomputable def uE(A:ae)(d:Nat)(x:I)(rest:List aB):Option ah→cK
 |none=>zg A d rest x
 |some _=>.fail
def wa:Option ah→Option I
 |some (.it ks vs _ cur)=>pP ks vs cur
 |_=>none
def v8(A:ae):I→Option I
 | .dC n=>wa (A.o n)
 |_=>none
open Classical in
noncomputable def qi(A:ae)(d:Option Nat)(n:Nat)(rest:List aB):Option ah→cK
 |some (.it ks vs left _)=>if left=[] then aE rest (A.aP d (.tuple [.bool false])) else
   .any (fun i=>i∈left) fun i=>match ks[i]?,vs[i]? with
    |some kk,some x=>aE rest ((A.aS n (.it ks vs (left.filter (· != i)) (some i))).aP d (.tuple [.bool true,kk,x]))
    |_,_=>.fail
 |_=>.fail
noncomputable def yx(A:ae)(d:Option Nat)(rest:List aB):I→cK
 | .dC n=>qi A d n rest (A.o n)
 |_=>.fail
section
variable (d:Option Nat) (rest:List aB) (A:ae)
theorem akV(x:aJ):bQ A d (.nilC x) rest=cP (na (ab A x)) (di d rest A):=rfl
theorem akZ(neg:Bool)(x y:aJ):bQ A d (.ptrE neg x y) rest=cP (ng neg (jo (ab A x)) (jo (ab A y))) (di d rest A):=rfl
theorem akP(ty:cN)(z:I)(ok:Bool)(m k:aJ):bQ A d (.lk ty z ok m k) rest=cP (rE ty z ok (ab A k) (gI A (ab A m))) (di d rest A):=rfl
theorem ajS(n:Nat):gI A (.mref n)=ye (A.o n):=by
 simp only[gI];cases A.o n with
 |none=>rfl
 |some y=>cases y <;>rfl
theorem akT(ty:cN)(m k v:aJ):bQ A none (.gY ty m k v) rest=yn A ty (ab A k) (ab A v) rest (ab A m):=by
 simp only[bQ,bj];cases ab A m <;>rfl
theorem akR(d:Nat):bQ A (some d) .j9 rest=ym A d rest (A.o d):=by
 simp only[bQ,bj];cases A.o d <;>rfl
theorem akS(d e bytes:Nat)(z:I)(n:aJ):bQ A (some d) (.kB e bytes z n) rest=tP A d bytes z (ab A n) rest (A.o d):=by
 simp only[bQ,bj];cases A.o d with
 |some _=>rfl
 |none=>simp only[tP];cases ab A n <;>rfl
theorem ak0(d:Nat)(x:aJ):bQ A (some d) (.kI x) rest=uE A d (ab A x) rest (A.o d):=by
 simp only[bQ,bj];cases A.o d with
 |some _=>rfl
 |none=>simp only[uE];cases ab A x <;>rfl
theorem akE(x:aJ):bQ A d (.ent x) rest=cP (v8 A (ab A x)) (di d rest A):=by
 simp only[bQ,bj,bu];cases ab A x <;>rfl
theorem akX(x:aJ):bQ A d (.jN x) rest=yx A d rest (ab A x):=by
 simp only[bQ,bj];cases ab A x <;>rfl
end
theorem eM :
  (∀ d rest A x,bQ A d (.nilC x) rest=cP (na (ab A x)) (di d rest A))∧(∀ n p,na (.ptr n p)=some (.ptr n p))∧(∀ x,na (.ref x)=some (.ref x)) ∧
  (∀ d rest A neg x y,bQ A d (.ptrE neg x y) rest=cP (ng neg (jo (ab A x)) (jo (ab A y))) (di d rest A))∧(jo .nilp=some true)∧(∀ n p,jo (.ptr n p)=some false)∧(∀ x,jo (.ref x)=some false) ∧
  (ng false (some true) (some true)=some (.bool true))∧(ng false (some false) (some true)=some (.bool false))∧(ng true (some true) (some true)=some (.bool false))∧(ng true (some false) (some true)=some (.bool true)) ∧
  (∀ d rest A ty z ok m k,bQ A d (.lk ty z ok m k) rest=cP (rE ty z ok (ab A k) (gI A (ab A m))) (di d rest A))∧(∀ A n,gI A (.mref n)=ye (A.o n))∧(∀ A ks vs,gI A (.cX ks vs)=some (ks,vs))∧(∀ ks vs,ye (some (.cB ks vs))=some (ks,vs)) ∧
  (∀ ty z ok k ks vs,rE ty z ok k (some (ks,vs))=rF ok (gA ty z k ks vs))∧(∀ v b,rF false (some (v,b))=some v)∧(∀ v b,rF true (some (v,b))=some (.tuple [v,.bool b])) ∧
  (∀ rest A ty m k v,bQ A none (.gY ty m k v) rest=yn A ty (ab A k) (ab A v) rest (ab A m))∧(∀ A ty k v rest n,yn A ty k v rest (.mref n)=yp A n ty k v rest (A.o n))∧(∀ A n ty k v rest ks vs,yp A n ty k v rest (some (.cB ks vs))=yq A n rest (gB ty k v ks vs)) ∧
  (∀ A n rest ks vs,yq A n rest (some (ks,vs))=aE rest (A.aS n (.cB ks vs))) ∧
  (∀ rest A d,bQ A (some d) .j9 rest=ym A d rest (A.o d))∧(∀ A d rest,ym A d rest none=aE rest ((A.aS d (.cB [] [])).put d (.mref d))) ∧
  (∀ rest A d e bytes z n,bQ A (some d) (.kB e bytes z n) rest=tP A d bytes z (ab A n) rest (A.o d))∧(∀ A d bytes z n rest,tP A d bytes z n rest none=tQ A d bytes z rest n) ∧
  (∀ rest A d x,bQ A (some d) (.kI x) rest=uE A d (ab A x) rest (A.o d))∧(∀ A d x rest,uE A d x rest none=zg A d rest x)∧(∀ A d rest ks vs,zg A d rest (.cX ks vs)=aE rest ((A.aS d (.it ks vs (List.range ks.length) none)).put d (.dC d))) ∧
  (∀ d rest A x,bQ A d (.ent x) rest=cP (v8 A (ab A x)) (di d rest A))∧(∀ A n,v8 A (.dC n)=wa (A.o n))∧(∀ ks vs l cur,wa (some (.it ks vs l cur))=pP ks vs cur) ∧
  (∀ d rest A x,bQ A d (.jN x) rest=yx A d rest (ab A x))∧(∀ A d rest n,yx A d rest (.dC n)=qi A d n rest (A.o n)) :=
 ⟨akV,fun _ _=>rfl,fun _=>rfl,akZ,rfl,fun _ _=>rfl,fun _=>rfl,rfl,rfl,rfl,rfl,akP,ajS,fun _ _ _=>rfl,fun _ _=>rfl,fun _ _ _ _ _ _=>rfl,fun _ _=>rfl,fun _ _=>rfl,
  fun rest A ty m k v=>akT rest A ty m k v,fun _ _ _ _ _ _=>rfl,fun _ _ _ _ _ _ _ _=>rfl,fun _ _ _ _ _=>rfl,fun rest A d=>akR rest A d,fun _ _ _=>rfl,fun rest A d e bytes z n=>akS rest A d e bytes z n,fun _ _ _ _ _ _=>rfl,
  fun rest A d x=>ak0 rest A d x,fun _ _ _ _=>rfl,fun _ _ _ _ _=>rfl,akE,fun _ _=>rfl,fun _ _ _ _=>rfl,akX,fun _ _ _ _=>rfl⟩
theorem eG:(∀ n p z lo k,b8 none (.view n p z lo k)=true)∧(∀ n,b8 none (.mref n)=true)∧(∀ n p,b8 none (.ptr n p)=true)∧(∀ x,b8 none (.ref x)=true)∧b8 none .nilp=true∧b8 none .dw=true∧b8 none (.raw (.map none))=true∧(∀ ks vs,b8 none (.cX ks vs)=true)∧(∀ {α:Type} [Enc α] (l:List α),b8 none (enc l)=true) :=
 ⟨fun _ _ _ _ _=>rfl,fun _=>rfl,fun _ _=>rfl,fun _=>rfl,rfl,rfl,rfl,fun _ _=>rfl,fun l=>by simp[mT,nJ]⟩
theorem aj6{A:ae}{d bytes:Nat}{z:I}{rest:List aB}{n:Nat}(h1:n*bytes≤281474976710656)(h2:n≤maxLen):tQ A d bytes z rest (.int .i64 n)=aE rest ((A.aS d (.box (.agg (List.replicate n z)))).put d (.view d [] 1 0 n)):=by
 simp only[tQ,Int.toNat_natCast];rw[if_pos ⟨Int.natCast_nonneg n,h1,h2⟩]
section
variable {α:Type} [Enc α] [DecidableEq α] {ty:cN}
theorem wv(aw:∀ x y:α,cv ty (enc x) (enc y)=some (decide (x=y)))(k:α):∀ (ks:List α) (i:Nat),fg ty (enc k) (ks.map enc) i=some ((ks.findIdx? fun x=>decide (k=x)).map (· + i))
 | [],i=>rfl
 |x::ks,i=>by
  simp only[zz8,fg,aw,List.findIdx?_cons];by_cases h:k=x
  ·simp[h]
  ·simp only[h,decide_false,zz6,if_false];rw[wv aw k ks (i+1)];cases ks.findIdx? fun x=>decide (k=x) with
   |none=>rfl
   |some j=>simp;omega
theorem x5(aw:∀ x y:α,cv ty (enc x) (enc y)=some (decide (x=y)))(z:I)(k:α)(ks:List α)(vs:List I) :
  gA ty z (enc k) (ks.map enc) vs=match ks.findIdx? fun x=>decide (k=x) with
   |some i=>(vs[i]?).map fun v=>(v,true)
   |none=>some (z,false):=by
 simp only[gA,aw,Option.isSome_some,if_true,wv aw];cases ks.findIdx? fun x=>decide (k=x) <;>rfl
theorem LI(aw:∀ x y:α,cv ty (enc x) (enc y)=some (decide (x=y)))(k:α)(v:I)(hv:v.cm=true)(ks:List α)(vs:List I) :
  gB ty (enc k) v (ks.map enc) vs=match ks.findIdx? fun x=>decide (k=x) with
   |some i=>some (ks.map enc,vs.set i v)
   |none=>some ((ks++[k]).map enc,vs++[v]):=by
 simp only[gB,aw,Option.isSome_some,hv,K9 (dG k),and_self,if_true,wv aw];cases ks.findIdx? fun x=>decide (k=x) with
 |none=>simp
 |some i=>rfl
omit [Enc α] in
theorem Ez{k:α}{ks:List α} : (ks.findIdx? fun x=>decide (k=x)).isSome=decide (k∈ks):=by
 induction ks with
 |nil=>rfl
 |cons x ks ih =>
  simp only[List.findIdx?_cons,zx6];by_cases h:k=x
  ·simp[h]
  ·simp only[h,decide_false,zz6,if_false,Option.isSome_map,ih,false_or]
theorem ajL(aw:∀ x y:α,cv ty (enc x) (enc y)=some (decide (x=y)))(k:α)(ks:List α):gA ty (.bool false) (enc k) (ks.map enc) (List.replicate ks.length (.bool true))=some (.bool (decide (k∈ks)),decide (k∈ks)):=by
 rw[x5 aw,←Ez];cases h:ks.findIdx? fun x=>decide (k=x) with
 |none=>rfl
 |some i =>
  have:=(zv2.1 h).1;simp[this]
def nz{α:Type}[DecidableEq α](ks:List α)(k:α):List α:=if k∈ks then ks else ks++[k]
omit [Enc α] in
theorem aj0{ks:List α}{k x:α} : x∈nz ks k↔x=k∨x∈ks:=by
 unfold nz;split
 ·rename_i h;exact ⟨.inr,fun h2=>h2.elim (fun e=>e▸h) id⟩
 ·simp[or_comm]
theorem ake(aw:∀ x y:α,cv ty (enc x) (enc y)=some (decide (x=y)))(k:α)(ks:List α):gB ty (enc k) (.bool true) (ks.map enc) (List.replicate ks.length (.bool true))=some ((nz ks k).map enc,List.replicate (nz ks k).length (.bool true)):=by
 rw[LI aw k _ rfl];have hm:=Ez (k:=k) (ks:=ks);cases h:ks.findIdx? fun x=>decide (k=x) with
 |none =>
  rw[h] at hm;have:k∉ks:=by simpa using hm.symm
  simp only[nz,if_neg this]
  congr 2
  rw[zz3,List.length_singleton,List.replicate_succ']
 |some i =>
  rw[h] at hm;have:k∈ks:=by simpa using hm.symm
  simp only[nz,if_pos this]
  congr 2
  have:=(zv2.1 h).1;exact List.ext_getElem (by simp) fun j h1 h2=>by
   simp only[List.getElem_set,List.getElem_replicate];split <;>rfl
end
section
variable {α:Type} [Enc α]
theorem AT{xs:List α}{i:Nat}(d:α)(h:i<xs.length):gu i [] (some (xs.map enc))=some (enc (xs.getD i d)):=by
 simp[gu,pH,h,I.at,zz0]
theorem Pz{A:ae}{n i:Nat}{xs:List α}(v u:α){rest:List aB}(hA:Enc.gz α=false)(h:i<xs.length):dR A none n [i] (.agg (xs.map enc)) (enc v) rest (some (enc u))=aE rest (A.aS n (.box (.agg ((xs.set i v).map enc)))):=by
 rw[ez (dN v) (by rw[mT,hA];rfl) ((eL v).trans (eL u).symm)];have h2:(xs.map (enc (α:=α)))[i]?=some (enc (xs[i])):=by simp[h]
 simp only[I.dO,h2,List.map_set]
end
theorem am0{A:ae}{n i:Nat}{xs:List Bool}(h:i<xs.length)(v u:Bool)(rest:List aB):dR A none n [i] (.agg (xs.map enc)) (.bool v) rest (some (.bool u))=aE rest (A.aS n (.box (.agg ((xs.set i v).map enc)))):=Pz v u rfl h
theorem mD{A:ae}{n i:Nat}{xs:List Int}(h:i<xs.length)(v u:Int)(rest:List aB):dR A none n [i] (.agg (xs.map enc)) (.int .i64 v) rest (some (.int .i64 u))=aE rest (A.aS n (.box (.agg ((xs.set i v).map enc)))):=Pz v u rfl h
theorem AU{xs:List Bool}{i:Nat}(h:i<xs.length):gu i [] (some (xs.map enc))=some (.bool (xs.getD i false)):=AT false h
theorem fD{xs:List Int}{i:Nat}(h:i<xs.length):gu i [] (some (xs.map enc))=some (.int .i64 (xs.getD i 0)):=AT 0 h
theorem xW{m sz lo l i:Nat}{fs:List I}(h:i<l):mb m [] sz lo l sz (i:Int) (some fs)=some (.ptr m [lo+i]):=by rw[xV h];rfl
theorem aas{α:Type}[Enc α]{A:ae}{m n sz k:Nat}{xs:List α}(ho:A.o n=some (.box (.agg (xs.map enc))))(hs:Enc.sz α=sz)(hk:k=xs.length):ej A (m+1) (.view n [] sz 0 k)=some (enc xs):=by
 subst hk hs;have h1:cD A (.ptr n [])=some (.agg (xs.map enc)):=by simp only[cD,ho];rfl
 simp only[ej,I.bD,zz6,if_false,h1];have h2:((xs.map (enc (α:=α))).drop 0).take xs.length=xs.map enc:=by rw[List.drop_zero,zv6 (by simp)]
 rw[h2,if_pos (kR xs),gG]
theorem gv:(∀ {α:Type} [Enc α] (x:α),(enc x).bD=true)∧(∀ n p z lo k,(I.view n p z lo k).bD=false)∧(∀ n,(I.mref n).bD=false)∧(∀ n p,(I.ptr n p).bD=false)∧(∀ n k,(I.own n k).bD=false) :=
 ⟨@dG,fun _ _ _ _ _=>rfl,fun _=>rfl,fun _ _=>rfl,fun _ _=>rfl⟩
end Go.Abs
namespace Go.Abs
open Go Go.RowKit
open Enc (enc)
theorem aC.RH{A:ae}{d n T z:Nat}(hd:A.t d=.nils z)(hn:A.o n=none)(hlt:n<1000000):aC A ((A.aS n (.cT T [])).put d (.own n 0)):=by
 rintro c a w ⟨D,E,h⟩;have aw:E n=none:=by have:=h.bS n;rw[hn] at this;exact this
 have hl:dX w D E w D (fun m=>if m=n then some (.rw none 0) else E m):=by
  have eE:∀ {m:Nat} {e:bW},E m=some e→(if m=n then some (.rw none 0) else E m)=some e:=fun {m e} he=>by
   have:m≠n:=fun e=>by rw[e,aw] at he;cases he
   rw[if_neg this];exact he
  refine ⟨fun _ _ h=>h,fun _ _ _ _ h=>h,fun m b aQ he=>eE he,fun m aF l he =>?_,fun m b he=>eE he,fun m b he=>eE he,fun _ _ _ _ h=>h⟩
  ·have:m≠n:=fun e=>by rw[e,aw] at he;cases he
   exact ⟨aF,l,by simp only[if_neg this];exact he,zz7 _,fun _=>rfl⟩
 refine ⟨D,fun m=>if m=n then some (.rw none 0) else E m,h.sz,h.e8,fun t =>?_,h.eb,h.df,h.dv,fun m =>?_,fun m m' e e' b h1 h2 h3 h4 =>?_,fun m e hm =>?_,h.fj,h.cM,h.fp,h.fQ⟩
 ·simp only[ae.put,ae.aS];by_cases ht:t=d
  ·subst ht;simp only[if_true];have hv:=h.eA t;rw[hd] at hv;obtain ⟨cs,q1,q2⟩:=hv;simp only[af] at q2;subst q2;refine ⟨[.slice none 0 0],by simpa[bL,I.isAgg] using q1,?_⟩;simp only[af,if_true];exact ⟨none,0,rfl,zz7 _,⟨_,_,_,rfl⟩,fun _=>trivial⟩
  ·simp only[if_neg ht];exact aY.bN hl (h.eA t)
 ·simp only[ae.put,ae.aS];by_cases hm:m=n
  ·subst hm;simp only[if_true,dc];exact ⟨none,by simp,by simp,trivial⟩
  ·simp only[if_neg hm];exact (h.bS m).bN hl (by simp only[if_neg hm]) fun _ _ _ _=>⟨rfl,fun _ ho=>ho⟩
 ·by_cases hm:m=n <;>by_cases hm':m'=n
  ·rw[hm,hm']
  ·simp only[if_pos hm,u8] at h1;subst h1;simp[bW.aF] at h3
  ·simp only[if_pos hm',u8] at h2;subst h2;simp[bW.aF] at h4
  ·simp only[if_neg hm] at h1;simp only[if_neg hm'] at h2;exact h.cZ m m' e e' b h1 h2 h3 h4
 ·have hmn:m≠n:=fun e=>by rw[e,h.ku (.inr hlt)] at hm;cases hm
  simp only[if_neg hmn];exact h.ed m e hm
theorem aC.AG{ts:List (Nat×I)}{os:List (Nat×ah)}(d n T z:Nat)(hd:b7 ts d=.nils z)(hn:aj os n=none){B:ae}(h:aC (au ((d,.own n 0)::ts) ((n,.cT T [])::os)) B)(hlt:n<1000000:=by decide):aC (au ts os) B :=
 ((aC.RH (A:=au ts os) (T:=T) hd hn hlt).trans (by rw[oU,tM];exact aC.refl _)).trans h
theorem aC.RI{A:ae}{m n T z:Nat}{p:List Nat}{b:I}(hm:A.o m=some (.box b))(hp:b.at p=some (.nils z))(hn:A.o n=none)(hlt:n<1000000):aC A ((A.aS n (.cT T [])).aS m (.box (b.dO p (.own n 0)))):=by
 rintro c a w ⟨D,E,h⟩;have aw:E n=none:=by have:=h.bS n;rw[hn] at this;exact this
 have hmn:m≠n:=fun e=>by rw[e,hn] at hm;cases hm
 have hl:dX w D E w D (fun m=>if m=n then some (.rw none 0) else E m):=by
  have eE:∀ {m:Nat} {e:bW},E m=some e→(if m=n then some (.rw none 0) else E m)=some e:=fun {m e} he=>by
   have:m≠n:=fun e=>by rw[e,aw] at he;cases he
   rw[if_neg this];exact he
  refine ⟨fun _ _ h=>h,fun _ _ _ _ h=>h,fun m b aQ he=>eE he,fun m aF l he =>?_,fun m b he=>eE he,fun m b he=>eE he,fun _ _ _ _ h=>h⟩
  ·have:m≠n:=fun e=>by rw[e,aw] at he;cases he
   exact ⟨aF,l,by simp only[if_neg this];exact he,zz7 _,fun _=>rfl⟩
 refine ⟨D,fun m=>if m=n then some (.rw none 0) else E m,h.sz,h.e8,fun t=>aY.bN hl (h.eA t),h.eb,h.df,h.dv,fun k =>?_,fun m m' e e' b h1 h2 h3 h4 =>?_,fun m e hm =>?_,h.fj,h.cM,h.fp,h.fQ⟩
 ·simp only[ae.aS];by_cases hk:k=m
  ·subst hk;have ho:=h.bS k;rw[hm] at ho;obtain ⟨b',cs,T',h1,h2,h3,h4,h5⟩:=ho;obtain ⟨q1,q2⟩:=OJ (y:=.own n 0) (af.bN hl _ _ h4) hp (fun ds hd=>by
    simp only[af] at hd;subst hd;simp only[af,if_true];exact ⟨none,0,rfl,zz7 _,⟨_,_,_,rfl⟩,fun _=>trivial⟩) rfl
   simp only[if_true,dc];exact ⟨b',cs,T',by rw[q2];simp only[if_neg hmn];exact h1,h2,h3,q1,h5⟩
  ·simp only[if_neg hk];by_cases hkn:k=n
   ·subst hkn;simp only[if_true,dc];exact ⟨none,by simp,by simp,trivial⟩
   ·simp only[if_neg hkn];exact (h.bS k).bN hl (by simp only[if_neg hkn]) fun _ _ _ _=>⟨rfl,fun _ ho=>ho⟩
 ·by_cases hm:m=n <;>by_cases hm':m'=n
  ·rw[hm,hm']
  ·simp only[if_pos hm,u8] at h1;subst h1;simp[bW.aF] at h3
  ·simp only[if_pos hm',u8] at h2;subst h2;simp[bW.aF] at h4
  ·simp only[if_neg hm] at h1;simp only[if_neg hm'] at h2;exact h.cZ m m' e e' b h1 h2 h3 h4
 ·have hmn:m≠n:=fun e=>by rw[e,h.ku (.inr hlt)] at hm;cases hm
  simp only[if_neg hmn];exact h.ed m e hm
theorem aC.RJ{ts:List (Nat×I)}{os:List (Nat×ah)}(m n T z:Nat)(p:List Nat)(b:I)(hm:aj os m=some (.box b))(hp:b.at p=some (.nils z))(hn:aj os n=none){B:ae}(h:aC (au ts ((m,.box (b.dO p (.own n 0)))::(n,.cT T [])::os)) B)(hlt:n<1000000:=by decide):aC (au ts os) B :=
 ((aC.RI (A:=au ts os) (T:=T) hm hp hn hlt).trans (by rw[oU,oU];exact aC.refl _)).trans h
theorem vk{A:ae}{d:Option Nat}{e bytes n l:Nat}{xs:List Int}{y:Int}{rest:List aB}(hl:l=xs.length)(h1:xs.length+1≤maxLen)(h2:(xs.length+1)*bytes≤140737488355328) :
  pE A d e 1 bytes (.int .i64 0) n l e xs rest (enc [y])=aE rest ((A.aS n (.cT e (xs++[y]))).aP d (.own n (xs.length+1))):=by
 show pE A d e 1 bytes (.int .i64 0) n l e xs rest (.slice 1 [.int .i64 y])=_
 simp only[pE];rw[if_pos ⟨hl,rfl,rfl,rfl,rfl,by simp,h1,h2⟩];rfl
def fm(n k:Nat):I→I
 | .own n' k'=>if n'=n∧k'=k then .view n [] 1 0 k else .own n' k'
 |v=>v
def fR(n:Nat):I→I
 | .own n' k'=>if n'=n∧k'=0 then .nils 1 else .own n' k'
 |v=>v
def iJ(f:I→I):ah→ah
 | .box v=>.box (f v)
 |y=>y
def nc(n k:Nat)(v:I):Prop:=v=.own n k∨v.only (fun j=>j != n)=true
def alm(n k:Nat)(y:ah):Prop:=y=.box (.own n k)∨y.only (fun j=>j != n)=true
theorem qF{n k:Nat}{v:I}(h:v.only (fun j=>j != n)=true):fm n k v=v:=by
 cases v <;>try rfl
 rename_i n' k';simp only[I.only,bne_iff_ne,ne_eq] at h;simp only[fm,h,false_and,if_false]
theorem zI{n:Nat}{v:I}(h:v.only (fun j=>j != n)=true):fR n v=v:=by
 cases v <;>try rfl
 rename_i n' k';simp only[I.only,bne_iff_ne,ne_eq] at h;simp only[fR,h,false_and,if_false]
theorem nU(f:I→I)(hf:f .du=.du)(ts:List (Nat×I))(t:Nat):b7 (ts.map fun q=>(q.1,f q.2)) t=f (b7 ts t):=by
 induction ts with
 |nil=>exact hf.symm
 |cons q ts ih =>
  obtain ⟨k,v⟩:=q;simp only[zz8,b7];split
  ·rfl
  ·exact ih
theorem rH(f:ah→ah)(os:List (Nat×ah))(t:Nat):aj (os.map fun q=>(q.1,f q.2)) t=(aj os t).map f:=by
 induction os with
 |nil=>rfl
 |cons q os ih =>
  obtain ⟨k,v⟩:=q;simp only[zz8,aj];split
  ·rfl
  ·exact ih
theorem dc.dJ{M:Nat→Prop}{w:World}{D:aR}{E E':aZ}{p:Nat→Bool}(hp:∀ n,p n=true→E' n=E n){m:Nat}(aw:E' m=E m){y:ah}(hon:y.only p=true)(ho:dc M w D E m (some y)):dc M w D E' m (some y):=by
 cases y with
 |box x =>
  obtain ⟨b,cs,T,k1,k2,k3,k4,k5⟩:=ho;exact ⟨b,cs,T,aw.trans k1,k2,k3,af.dJ hp _ _ (by simpa[ah.only] using hon) k4,k5⟩
 |bY T sz es =>
  obtain ⟨aF,k1,k2,k3⟩:=ho;refine ⟨aF,aw.trans k1,k2,?_⟩;cases aF with
  |none=>exact k3
  |some bc =>
   obtain ⟨b,cap⟩:=bc;obtain ⟨cs,pre,rest,q1,q2,q3,q4,q5⟩:=k3;exact ⟨cs,pre,rest,q1,q2,q3,aI.dJ hp _ _ (by simpa[ah.only] using hon) q4,q5⟩
 |cT T xs =>
  obtain ⟨aF,k1,k2,k3⟩:=ho;exact ⟨aF,aw.trans k1,k2,k3⟩
 |dU x =>
  obtain ⟨b,k1,k2⟩:=ho;exact ⟨b,aw.trans k1,k2⟩
 |cB ks vs =>
  obtain ⟨b,es,ck,k1,k2,k3,k4,k5,k6,k7⟩:=ho;simp only[ah.only,zz2] at hon;exact ⟨b,es,ck,aw.trans k1,k2,k3,k4,aH.dJ hp _ _ hon.1 k5,aH.dJ hp _ _ hon.2 k6,k7⟩
 |it ks vs left cur =>
  obtain ⟨r,b,es,ck,si,se,la,k1,k2,k3,k4,k5,k6,k7⟩:=ho;simp only[ah.only,zz2] at hon;exact ⟨r,b,es,ck,si,se,la,aw.trans k1,k2,k3,k4,aH.dJ hp _ _ hon.1 k5,aH.dJ hp _ _ hon.2 k6,k7⟩
theorem qv(xs:List Int):(I.agg (xs.map enc)).aQ=.ep (List.replicate xs.length .one):=by
 show cR.ep (I.cS _)=_
 congr 1
 induction xs with
 |nil=>rfl
 |cons x xs ih=>simp only[zz8,I.cS,ih,List.length_cons,List.replicate_succ];rfl
theorem qq{w:World}{D:aR}{E:aZ} : ∀ {xs:List Int},(∀ x∈xs,IntKind.i64.min≤x∧x≤IntKind.i64.max)→aI w D E (xs.map enc) (xs.map (Value.int .i64))
 | [],_=>rfl
 |x::xs,h=>⟨[.int .i64 x],xs.map (Value.int .i64),rfl,⟨rfl,h x (by simp)⟩,qq fun y hy=>h y (by simp[hy])⟩
theorem aC.PO{ts:List (Nat×I)}{os:List (Nat×ah)}{n T:Nat}{B:ae}(hn:aj os n=some (.cT T []))
  (h:aC (au (ts.map fun q=>(q.1,fR n q.2)) (os.map fun q=>(q.1,iJ (fR n) q.2))) B):aC (au ts os) B:=by
 refine aC.trans ?_ h;rintro c a w ⟨D,E,hs⟩;obtain ⟨aF,aw,-,hblk⟩:=hs.sc (n:=n) (T:=T) (xs:=[]) hn;have hnone:aF=none:=by
  cases aF with
  |none=>rfl
  |some bc=>obtain ⟨b,cap⟩:=bc;obtain ⟨_,_,_,_,_,h,_⟩:=hblk;exact absurd rfl h
 subst hnone;have conv:∀ (v:I) (cs:List Value),af w D E v cs→af w D E (fR n v) cs:=fun v cs hr=>by
  cases v <;>try exact hr
  rename_i n' k';simp only[fR];split
  ·rename_i hh;obtain ⟨rfl,rfl⟩:=hh;obtain ⟨blk',l,q3,q4,q5,q6⟩:=hr;rw[aw] at q3;simp only[u8,bW.rw.injEq,zu2] at q3;obtain ⟨rfl,rfl⟩:=q3;exact q6 rfl
  ·exact hr
 refine ⟨D,E,hs.sz,hs.e8,fun t =>?_,hs.eb,hs.df,hs.dv,fun m =>?_,hs.cZ,hs.ed,hs.fj,hs.cM,hs.fp,hs.fQ⟩
 ·show aY w D E (b7 _ t) _
  rw[nU _ rfl];have:=hs.eA t;simp only[au] at this;revert this;generalize b7 ts t=v;intro hv;cases v <;>try exact hv
  rename_i n' k';obtain ⟨cs,q1,q2⟩:=hv;have:=conv _ _ q2
  revert this;simp only[fR];split
  ·intro this;exact ⟨cs,q1,this⟩
  ·intro this;exact ⟨cs,q1,this⟩
 ·show dc _ w D E m (aj _ m)
  rw[rH];have:=hs.bS m;simp only[au] at this;revert this;cases aj os m with
  |none=>exact id
  |some y =>
   cases y <;>try exact id
   rename_i x;rintro ⟨b,cs,T,k1,k2,k3,k4,k5⟩;refine ⟨b,cs,T,?_,k2,k3,conv _ _ k4,k5⟩;rw[k1];have:(fR n x).aQ=x.aQ:=by
    cases x <;>try rfl
    simp only[fR];split <;>rfl
   rw[this]
theorem J.zP{c:cU}{x:aO}{Q:Exit→ae→Prop}{ts:List (Nat×I)}{os:List (Nat×ah)}{n T:Nat}{xs:List Int}(hn:aj os n=some (.cT T xs))(hne:xs≠[])(hlt:n<1000000)
  (ht:∀ t,nc n xs.length (b7 ts t)) (ho:∀ m y,aj os m=some y→m≠n→alm n xs.length y)
  (h:∀ q:Nat,J c x Q (au (ts.map fun p=>(p.1,fm n xs.length p.2)) ((n,.box (.agg ((xs++List.replicate q 0).map enc)))::os.map fun p=>(p.1,iJ (fm n xs.length) p.2)))):J c x Q (au ts os):=by
 rintro code hc a w ⟨D,E,hs⟩;obtain ⟨aF,aw,hr,hblk⟩:=hs.sc (n:=n) hn;cases aF with
 |none=>exact absurd hblk hne
 |some bc =>
 obtain ⟨b,cap⟩:=bc;obtain ⟨cs,q,hM,hb,hcs,-,hcap,hmax,hD⟩:=hblk;have hp:∀ j,(fun j=>j != n) j=true→(fun j=>if j=n then some (bW.aA b (.ep (List.replicate (xs.length+q) .one))) else E j) j=E j:=fun j hj=>by
  have:j≠n:=by simpa using hj
  simp only[if_neg this]
 have conv:∀ cs0,af w D E (.own n xs.length) cs0→af w D (fun j=>if j=n then some (bW.aA b (.ep (List.replicate (xs.length+q) .one))) else E j) (.view n [] 1 0 xs.length) cs0:=fun cs0 hr=>by
  obtain ⟨blk',l,q3,q4,q5,q6⟩:=hr;rw[aw] at q3;simp only[u8,bW.rw.injEq] at q3;obtain ⟨rfl,rfl⟩:=q3;have:=q6 rfl;refine ⟨b,_,0,List.replicate (xs.length+q) .one,if_pos rfl,rfl,rfl,?_,by rw[zv4];omega,by rw[zv4];omega,fun s hs =>?_⟩
  ·rw[this,zv4];simp only[Nat.zero_mul,Nat.add_zero,Nat.sub_zero,hcap]
  ·rw[List.eq_of_mem_replicate hs];rfl
 refine h q code hc a w ⟨D,fun j=>if j=n then some (.aA b (.ep (List.replicate (xs.length+q) .one))) else E j,hs.sz,hs.e8,fun t =>?_,hs.eb,hs.df,hs.dv,fun m =>?_,fun m m' e e' b1 h1 h2 h3 h4 =>?_,fun m e hm =>?_,hs.fj,hs.cM,hs.fp,hs.fQ⟩
 ·show aY w D _ (b7 _ t) _
  rw[nU _ rfl];have hv:=hs.eA t;simp only[au] at hv;rcases ht t with h1 | h1
  ·rw[h1] at hv ⊢;simp only[fm,and_self,if_true];obtain ⟨cs0,q1,q2⟩:=hv;exact ⟨cs0,q1,conv _ q2⟩
  ·rw[qF h1];exact aY.dJ hp h1 hv
 ·show dc _ w D _ m (aj _ m)
  simp only[aj];by_cases hm:m=n
  ·subst hm;simp only[if_true];refine ⟨b,cs,T,?_,hM,hb,?_,hD⟩
   ·simp only[if_true];rw[qv,zz3,zv4]
   ·show aI w D _ _ _
    rw[hcs];refine qq fun y hy =>?_;rcases zy4.1 hy with hy | hy
    ·exact hr y hy
    ·rw[List.eq_of_mem_replicate hy];decide
  ·simp only[if_neg hm];rw[rH];have hob:=hs.bS m;simp only[au] at hob;cases hy:aj os m with
   |none=>rw[hy] at hob;simp only[dc,zu3] at hob ⊢;rw[if_neg hm];exact hob
   |some y =>
    rw[hy] at hob;rcases ho m y hy hm with rfl | h1
    ·obtain ⟨b1,cs1,T1,k1,k2,k3,k4,k5⟩:=hob;refine ⟨b1,cs1,T1,?_,k2,k3,?_,k5⟩
     ·simp only[if_neg hm];rw[k1];simp only[fm,and_self,if_true];rfl
     ·simp only[fm,and_self,if_true];exact conv _ k4
    ·have e:iJ (fm n xs.length) y=y:=by
      cases y <;>try rfl
      simp only[ah.only] at h1;simp only[iJ,qF h1]
     simp only[zy5,e];exact hob.dJ hp (if_neg hm) h1
 ·have cut:∀ m e,(if m=n then some (bW.aA b (.ep (List.replicate (xs.length+q) .one))) else E m)=some e→∃ e2,E m=some e2∧e2.aF=e.aF:=fun m e he=>by
   by_cases hm:m=n
   ·subst hm;rw[if_pos rfl] at he;cases he;exact ⟨_,aw,rfl⟩
   ·rw[if_neg hm] at he;exact ⟨e,he,rfl⟩
  obtain ⟨e2,k1,k2⟩:=cut m e h1;obtain ⟨e3,k3,k4⟩:=cut m' e' h2;exact hs.cZ m m' e2 e3 b1 k1 k3 (k2.trans h3) (k4.trans h4)
 ·have hmn:m≠n:=fun e=>by rw[e,hs.ku (.inr hlt)] at hm;cases hm
  simp only[if_neg hmn];exact hs.ed m e hm
def xX:Option Nat→Code
 |none=>.ret
 |some id=>.exit id
def Ek:Option Nat→Exit
 |none=>.ret
 |some id=>.exit id
def qJ(o:Obj)(A:ae)(os:List (Nat×ah)):Prop:=∀ n x,aj (dp o os) n=some x→A.o n=some x∧x.only (al (dp o os))=true∧x.eX=true
def amr(o:Obj)(In:List (Nat×ah)→Prop)(Ix:Option Nat→List (Nat×ah)→Prop):Exit→ae→Prop
 | .normal,A=>∃ os,qJ o A os∧In os
 | .ret,A=>∃ os,qJ o A os∧Ix none os
 | .exit id,A=>∃ os,qJ o A os∧Ix (some id) os
 |_,_=>False
def Rt(P:Program)(nn:Nat)(x y:aO)(ps:List Nat)(tsR:List (Nat×I))(N:Nat)(item:Nat→List I)(ai:Nat→List (Nat×ah)→Prop)(Ix:Option Nat→List (Nat×ah)→Prop):Prop :=
 ∀ k osb,k<N→ai k osb→∀ (w:World) (D:aR) (E:aZ) (l:Nat) (o1 o2:Obj),
  J ⟨P,w,D,nn,dD E,E,iV,some l⟩ x (ar (fun B=>B.o 1999999=some (.dU o1)∧J ⟨P,w,D,nn,dD E,E,iV,some l⟩ y (amr o2 (ai (k+1)) Ix) (B.aS 1999999 (.dU o2))) (fun _ _=>False)) (au (qp ps (item k) tsR) (dp o1 osb))
section
variable {c:cU} {Q:Exit→ae→Prop}
theorem ai0{o:Obj}{A:ae}{os:List (Nat×ah)}(h:qJ o A os)(o':Obj):∀ n x,aj (dp o' os) n=some x→(A.aS 1999999 (.dU o')).o n=some x∧x.only (al (dp o' os))=true∧x.eX=true:=fun n x hx=>by
 have e:al (dp o' os)=al (dp o os):=by funext m;rw[ma,ma]
 rw[e];by_cases hn:n=1999999
 ·subst hn;rw[p9,if_pos rfl,u8] at hx;subst hx;exact ⟨by simp[ae.aS],rfl,rfl⟩
 ·rw[p9,if_neg hn] at hx;obtain ⟨h1,h2⟩:=h n x (by rw[p9,if_neg hn];exact hx);exact ⟨by simp only[ae.aS,if_neg hn];exact h1,h2⟩
theorem J.kd{f:aJ}{ps:List Nat}{x y:aO}{ts tsR:List (Nat×I)}{os0 osb0:List (Nat×ah)}{ρ:List (Nat×Nat)}{g:FuncId}{caps:List I}{N:Nat}{item:Nat→List I}
  (ai:Nat→List (Nat×ah)→Prop) (Ix:Option Nat→List (Nat×ah)→Prop) (hr:c.kH=none) (hn6:c.n≤1000000)
  (hf:ab (au ts os0) f=.func g caps) (hcl:I.bZ caps=true) (hcb:ij c.P g=true) (hit:vf c.P g caps N item) (hlen:∀ k,(item k).length=ps.length)
  (hfree:aj os0 999999=none) (h19:al osb0 1999999=false) (hρ:bA ρ 1999999=999999)
  (hgv:∀ o,fT ρ (dp o osb0) ((999999,.dU o)::os0)) (hts:mB ρ (al osb0) ts tsR)
  (hI:∀ k os,ai k os→fu osb0 os) (hIx:∀ e os,Ix e os→fu osb0 os) (h0:ai 0 osb0)
  (hround:Rt c.P c.n x y ps tsR N item ai Ix)
  (hdone:∀ os,ai N os→Q .normal (au ts (dI ρ os++os0))) (hexit:∀ e os,Ix e os→Q (Ek e) (au ts (dI ρ os++os0))) :
  J c (.kd f ps x y) Q (au ts os0):=by
 intro code hc a w hs;cases code <;>simp only[fr] at hc <;>try (first | (cases hc;done) | ((repeat' split at hc) <;>cases hc;done))
 rename_i cf cps cx cy;split at hc
 case h_2=>cases hc
 rename_i f' x' y' hcf hcx hcy;split at hc
 case isFalse=>cases hc
 rename_i hpn;simp only[u8,aO.kd.injEq] at hc;obtain ⟨rfl,rfl,rfl,rfl⟩:=hc;obtain ⟨D,E,hs⟩:=hs;have hF:c.bp=Fence.wide:=by unfold cU.bp;rw[hr]
 have hE0:c.dS 999999=none:=hs.ku (.inr (by decide));have hval:∃ vs:List Value,a.eval cf=.func (.func g) #[] vs.toArray∧aH w D E caps vs:=by
  have hv:=ct hs hcf;rw[hf] at hv;obtain ⟨cs,q1,q2⟩:=hv;simp only[af] at q2;obtain ⟨vs,q3,q4⟩:=q2;exact ⟨vs,by simpa[bL,I.isAgg,q3] using q1.symm,q4⟩
 obtain ⟨vs,hval,hvs⟩:=hval;rw[hF];refine wpIn_rangeFunc fun fn hfn =>?_;obtain ⟨rec,hrec⟩:∃ rec:LoopState→Option Code→Loop,rec=fun br pe => { state:=br,pending:=pe,fn,tmps:=a.tmps,params:=cps,assign:=cx,body:=cy,defers:=w.heap.size } :=⟨_,rfl⟩
 obtain ⟨E1,hs1,hE1,hup⟩:=hs.enter hfree hE0 (o:=.loop (rec .ready none)) rfl;obtain ⟨W1,hW1⟩:∃ W1,(w.alloc (.deferred (some []))).alloc (.loop (rec .ready none))=W1:=⟨_,rfl⟩
 rw[hW1] at hs1 hup;obtain ⟨l,hl⟩:∃ l,l=w.heap.size+1:=⟨_,rfl⟩
 rw[←hl] at hE1;obtain ⟨yv,hyv⟩:∃ yv:Value,yv=.func (.yield l) #[] #[]:=⟨_,rfl⟩
 obtain ⟨a1,ha1⟩:∃ a1:Act,a1 = { a with defers := { target:=.collected w.heap.size,args := #[] } :: a.defers } :=⟨_,rfl⟩
 rw[←ha1] at hs1;refine ⟨l,[{ target:=.collected w.heap.size,args := #[] }],W1,{ target:=.fn (.func g) vs.toArray,args := #[yv] },W1,g,#[yv]++vs.toArray,W1,?_,?_,?_,?_,fun _=>by decide,?_⟩
 ·rw[←hW1,hrec,hl];exact run_enterLoop_outer _ _ _ _ _
 ·simp only[resolve,hval,hyv];simp[go_sem]
 ·intro f' _;trivial
 ·simp only[invoke,zj hcb]
 ·-- the iterator's own bargain
  have hG0:=hI 0 osb0 h0;obtain ⟨I',hI'⟩:∃ I':Nat→List (Nat×ah)→Prop,I'=fun k os=>∃ osb,os=dp (.loop (rec .ready none)) osb∧ai k osb:=⟨_,rfl⟩
  obtain ⟨Ix',hIx'⟩:∃ Ix':List (Nat×ah)→Prop,Ix'=fun os=>∃ e osb,os=dp (.loop (rec .done (some (xX e)))) osb∧Ix e osb:=⟨_,rfl⟩
  obtain ⟨os1,hos1⟩:∃ os1,os1=dp (.loop (rec .ready none)) osb0:=⟨_,rfl⟩
  obtain ⟨Y,hY⟩:∃ Y:Value→List I→List (Nat×ah)→cO→Prop,Y=fun v args os post=>v=yv∧∃ k,args=item k∧k<N∧I' k os∧∀ r os2,(r=.bool true∧I' (k+1) os2)∨(r=.bool false∧Ix' os2)→post r os2:=⟨_,rfl⟩
  have kv:∀ k os',I' k os'→fu os1 os':=fun k os' h=>by
   rw[hI'] at h;obtain ⟨osb,rfl,h⟩:=h;rw[hos1];exact (hI k osb h).dp _ _
  have goodx:∀ os',Ix' os'→fu os1 os':=fun os' h=>by
   rw[hIx'] at h;obtain ⟨e,osb,rfl,h⟩:=h;rw[hos1];exact (hIx e osb h).dp _ _
  have hctr:=hit Y yv I' Ix' os1 (by rw[hyv];rfl) (fun k os' post hk h1 h2=>by rw[hY];exact ⟨rfl,k,rfl,hk,h1,h2⟩) kv goodx (by rw[hI'];exact ⟨osb0,hos1,h0⟩);have hgv1:fT ρ os1 ((999999,.dU (.loop (rec .ready none)))::os0):=by rw[hos1];exact hgv _
  obtain ⟨A0,hA0⟩:∃ A0:ae,A0=au ts ((999999,.dU (.loop (rec .ready none)))::os0):=⟨_,rfl⟩
  have hand:qL (Calls c.P g) (fun w D E=>∀ n,pC ⟨c.P,w,D,n,dD E,E,Y,none⟩) (.raw yv::caps) os1 (fun r os'=>r=.tuple []∧(I' N os'∨Ix' os')):=fun w D E vs hy hlive hheld hv=>by
   refine (hctr.2 w D E vs hy hlive hheld hv).mono fun e w' ⟨v,he,D',E',r,os',q⟩=>⟨v,D',E',r,os',he,q⟩
  have hshare:=hs1.pg;obtain ⟨Dh,hDh⟩:∃ Dh,Dh=pb (au ts ((999999,.dU (.loop (rec .ready none)))::os0)) D E1:=⟨_,rfl⟩
  rw[←hDh] at hshare;have hsh:=hshare.1;obtain ⟨Eh,hEh⟩:∃ Eh,Eh=aw ρ os1 E1:=⟨_,rfl⟩
  have isrec:al os1 1999999=true:=by rw[hos1,ma];simp
  have hEl:Eh 1999999=some (.op l):=by rw[hEh];simp only[aw,isrec,if_true,hρ];exact hE1
  have EhIn:∀ n e,Eh n=some e→al os1 n=true:=fun n e h=>by
   rw[hEh] at h;simp only[aw] at h;split at h
   ·assumption
   ·cases h
  have hyok:∀ n,pC ⟨c.P,W1,Dh,n,dD Eh,Eh,Y,none⟩:=by
   intro n v' args os' post' hYv w2 D2 E2 vs2 hsince hlive hheld hrvs;rw[hY] at hYv;obtain ⟨rfl,k,rfl,hkN,hIk,hpost⟩:=hYv;have hIk0:=hIk;rw[hI'] at hIk;obtain ⟨osb,rfl,hIk⟩:=hIk;have gk:=kv k _ hIk0;have gkb:=hI k osb hIk;have in2:∀ m,al os1 m=true→E2 m≠none:=fun m hm=>by
    rw[←gk.same m] at hm;cases hx:aj (dp (.loop (rec .ready none)) osb) m with
    |none=>simp[al,hx] at hm
    |some x=>have:=hheld.bS m;rw[hx] at this;exact tX this
   have same2:∀ m e,Eh m=some e→e.eX=true→E2 m=some e:=fun m e he hfx=>by
    rcases hsince.ed m e he with h | ⟨e',h,hle⟩
    ·exact absurd h (in2 m (EhIn m e he))
    ·rw[hle.eq hfx] at h;exact h
   have hEl2:E2 1999999=some (.op l):=same2 _ _ hEl rfl;have hob:=hheld.bS 1999999;rw[p9,if_pos rfl] at hob;obtain ⟨b,j1,_,j3,_,_⟩:=hob;rw[hEl2] at j1;cases j1;have hsz:vs2.toArray.size=cps.size:=by have:=zq hrvs;rw[hlen] at this;simpa using this
   have hyr:=run_yield (P:=c.P) (args:=vs2.toArray) j3 (by rw[hrec];exact hsz);rw[hrec] at hyr;refine ⟨l,hyv,fn,_,cx,cy,hyr,roundIn_of_wpIn trivial ?_⟩;clear hyr
   -- the round's own frame
   obtain ⟨cr,hcr⟩:∃ cr:cU,cr=⟨c.P,w2,D2,c.n,dD E2,E2,iV,some l⟩:=⟨_,rfl⟩
   have hFr:cr.bp=Fence.wide.inRound l:=by rw[hcr];rfl
   have hlat:dX W1 Dh Eh w2 D2 E2:=by
    refine ⟨hsince.cM,hsince.fQ.cell,fun m b aQ he=>same2 m _ he rfl,fun m aF l he =>?_,fun m b he=>same2 m _ he rfl,fun m b he=>same2 m _ he rfl,hsince.fQ.jL⟩;rcases hsince.ed m _ he with h | ⟨e',h,hle⟩
    ·exact absurd h (in2 m (EhIn m _ he))
    ·rcases hle with rfl | ⟨_,_,blk',l',e,rfl,k1,k2⟩
     ·exact ⟨aF,l,h,zz7 _,fun _=>rfl⟩
     ·cases e;exact ⟨blk',l',h,k1,k2⟩
   have hslots:mB ρ (al os1) ts tsR:=by
    have:∀ tsR:List (Nat×I),mB ρ (al osb0) ts tsR→mB ρ (al os1) ts tsR:=by
     intro tsR
     induction tsR with
     |nil=>exact fun h=>h
     |cons q r ih =>
      intro h;obtain ⟨h1,h2,h3⟩:=h;exact ⟨h1,js (fun n hn=>by rw[hos1,ma,hn];simp) _ h2,ih h3⟩
    exact this tsR hts
   have hsr:aX cr (au tsR (dp (.loop (rec .ready none)) osb)) { tmps:=a.tmps,defers:=[] } w2 D2 E2:=by
    rw[hcr];refine ⟨hs.sz,⟨[],rfl,.nil,fun _ h=>by simp at h⟩,fun t =>?_,fU.refl _ _,fun _ _ h _=>h,hlive,fun m=>(hheld.bS m).m8 fun e b he hb=>.inr ⟨m,e,he,hb⟩,hheld.cZ,fun _ e h=>.inr ⟨e,h,.refl e⟩,fun m hm =>?_,fun _ _ h=>h,(fun _ _ _ _ h=>h.elim),.refl _ _⟩
    ·rcases Po hslots t with h | ⟨h1,h2⟩
     ·simp only[au];rw[h];simp[aY]
     ·have h3:=hsh.eA t;rw[ha1] at h3;simp only[au] at h3 ⊢;rw[h1] at h3;have h4:=(aY.aN (w:=W1) (D:=Dh) (p:=al os1) (ρ:=bA ρ) (E:=Eh) (E':=E1) (fun n hn=>by rw[hEh];simp only[aw,hn,if_true]) h2).1 h3;exact aY.bN hlat h4
    ·have hmi:al os1 m=true:=by
      rw[←gk.same m];have:=hheld.bS m;cases hx:aj (dp (.loop (rec .ready none)) osb) m with
      |none=>rw[hx] at this;exact absurd this hm
      |some x=>simp[al,hx]
     have:=gk.oL m hmi;exact ⟨zu1 hn6 this,this⟩
   have hsp:=aX.MH cps.toList vs2 (item k) tsR _ hsr (fun p hp=>by rw[hcr];have:=zx2.1 hpn p hp;simpa using this) hrvs (by have:=hsz;simpa using this.symm);have htm:(cps.zip vs2.toArray).foldl (fun t (q:Tmp×Value)=>t.setIfInBounds q.1 q.2) a.tmps=(cps.toList.zip vs2).foldl (fun t q=>t.setIfInBounds q.1 q.2) a.tmps:=by
    rw[←Array.foldl_toList];simp
   have hx:=hround k osb hkN hIk w2 D2 E2 l (.loop (rec .ready none)) (.loop { rec .ready none with state:=.busy });rw[←hcr] at hx;have hx1:=hx cx (by rw[hcr];exact hcx) _ w2 ⟨D2,E2,hsp⟩;rw[hFr] at hx1;simp only[←htm] at hx1;rw[hcr] at hx1;refine wpIn_mono hx1 ?_;rintro e ax wx ⟨B,hq,hsx⟩;rw[←hcr] at hq hsx;cases e <;>simp only[ar] at hq <;>try exact hq.elim
   simp only[Exit.then];obtain ⟨hB1,hB2⟩:=hq;obtain ⟨Dx,Ex,hsx⟩:=hsx;have hElx:Ex 1999999=some (.op l):=by
    have ho:=hsx.bS 1999999;rw[hB1] at ho;rcases hsx.EC (n:=1999999) (by rw[hcr];exact hEl2) rfl with h | h
    ·exact absurd h (tX ho)
    ·exact h
   have hLx:wx.heap[l]?=some (.loop (rec .ready none)):=by
    have ho:=hsx.bS 1999999;rw[hB1] at ho;obtain ⟨b,k1,_,k3,_⟩:=ho;rw[hElx] at k1;cases k1;exact k3
   refine ⟨_,run_beginRound hLx (by rw[hrec]),?_⟩;have hsb:=hsx.zu (o':=.loop { rec .ready none with state:=.busy }) hB1 hElx rfl;have hy1:=hB2 cy (by rw[hcr];exact hcy) _ _ ⟨Dx,Ex,hsb⟩;rw[hFr] at hy1;rw[hcr] at hy1;refine wpIn_mono hy1 ?_;rintro e a3 w3 ⟨A3,hq3,D3,E3,hs3⟩;rw[←hcr] at hs3
   -- the end of the round
   have bl:∀ (os:List (Nat×ah)) (jump:Option Code),qJ (.loop { rec .ready none with state:=.busy }) A3 os→(post' (.bool jump.isNone) (dp (.loop (rec (if jump.isNone then .ready else .done) jump)) os)) →
     ∃ v w',(Instr.endRound l jump).run c.P w3=.ok v w'∧(fun e w'=>∃ v D' E' r os',e=Ending.returned v∧post' r os'∧aY w' D' E' r v∧lE (fun b=>w2.heap.size≤b∨dD E2 b) w' D' E' (aj os') ∧
      fU (fun b=>w2.heap.size≤b∨dD E2 b) w2 w'∧(∀ b o,D2 b o→D' b o)∧(∀ b o,D' b o→b<w'.heap.size)∧(∀ b o,D' b o→b<w2.heap.size→¬ dD E2 b→D2 b o) ∧
      (∀ n e,E2 n=some e→al os' n=true→∃ e',E' n=some e'∧e.le e')∧iL w2 D2 w') (.returned v) w':=fun os jump hbk hp=>by
    have hA3:A3.o 1999999=some (.dU (.loop { rec .ready none with state:=.busy })):=(hbk 1999999 _ (by rw[p9,if_pos rfl])).1;have hEl3:E3 1999999=some (.op l):=by
     have ho:=hs3.bS 1999999;rw[hA3] at ho;rcases hs3.EC (n:=1999999) (by rw[hcr];exact hEl2) rfl with h | h
     ·exact absurd h (tX ho)
     ·exact h
    have hL3:w3.heap[l]?=some (.loop { rec .ready none with state:=.busy }):=by
     have ho:=hs3.bS 1999999;rw[hA3] at ho;obtain ⟨b,k1,_,k3,_⟩:=ho;rw[hEl3] at k1;cases k1;exact k3
    have hend:=run_endRound (P:=c.P) jump hL3;have erec:({ rec .ready none with state:=if jump.isNone then LoopState.ready else .done,pending:=jump } : Loop)=rec (if jump.isNone then .ready else .done) jump:=by rw[hrec]
    have hend':(Instr.endRound l jump).run c.P w3=.ok (.bool jump.isNone) (w3.putObj l (.loop (rec (if jump.isNone then .ready else .done) jump))):=by
     rw[hend];rw[hrec]
    have hs4:=hs3.zu (o':=.loop (rec (if jump.isNone then .ready else .done) jump)) hA3 hEl3 rfl;rw[hcr] at hs4;obtain ⟨D',E',_,_,_,q1,q2,q3,q4,q5,q6⟩:=hs4.Lg (ai0 hbk _);exact ⟨_,_,hend',_,D',E',.bool jump.isNone,_,rfl,hp,⟨[.bool jump.isNone],by simp[bL,I.isAgg],by simp[af]⟩,q1,q2,q3,q4,q5,q6⟩
   cases e with
   |normal =>
    obtain ⟨os,hbk,hin⟩:=hq3;exact bl os none hbk (hpost _ _ (.inl ⟨rfl,by rw[hI'];exact ⟨os,rfl,hin⟩⟩))
   |ret =>
    obtain ⟨os,hbk,hin⟩:=hq3;exact bl os (some .ret) hbk (hpost _ _ (.inr ⟨rfl,by rw[hIx'];exact ⟨none,os,rfl,hin⟩⟩))
   |exit id =>
    obtain ⟨os,hbk,hin⟩:=hq3;exact bl os (some (.exit id)) hbk (hpost _ _ (.inr ⟨rfl,by rw[hIx'];exact ⟨some id,os,rfl,hin⟩⟩))
   |goto t=>exact hq3.elim
   |panic ch=>exact hq3.elim
   |outgrown=>exact hq3.elim
  -- the call
  have hargs:gb (aY W1 D E1) (.raw yv::caps) (yv::vs):=by
   exact .cons ⟨[yv],by simp[bL,I.isAgg],by rw[hyv];exact ⟨rfl,rfl⟩⟩ (zn (hup caps vs hvs))
  have hus:=hand.use (ρ:=ρ) hs1 false (fun h=>h.mono) ⟨(fun h=>by cases h),fun _=>by rw[←hDh,←hEh];exact hyok⟩ hgv1 (vn _ (by simp[I.bZ,I.bD,hcl]))
   (fun r os' hp=>by
    have gg:fu os1 os':=by
     rcases hp.2 with h | h
     ·exact kv _ _ h
     ·exact goodx _ h
    refine ⟨fun m x hx=>⟨(gg.ok m x hx).1,(gg.ok m x hx).2,fun h=>by cases h⟩,fun m m' h1 h2=>hgv1.inj m m' (by rw[←gg.same];exact h1) (by rw[←gg.same];exact h2),fun m hm=>by rw[gg.same];exact hm,fun m h1 h2=>(by rw[gg.same,h2] at h1;cases h1),(by rw[hp.1];simp[I.only,I.bT]),fun h=>by cases h⟩) hargs
  have ecl : #[yv]++vs.toArray=(yv::vs).toArray:=by simp
  rw[ecl];refine CallsIn.mono (callsIn_wide.2 hus) ?_;rintro e w3 ⟨v,r,os',D2,E2,rfl,hp,hs2,_,hE2⟩;have key:∀ (o3:Obj) (osb:List (Nat×ah)),os'=dp o3 osb→p5 o3=true→E2 999999=some (.op l)∧w3.heap[l]?=some o3∧∀ o4,p5 o4=true→cA c (au ts (dI ρ osb++os0)) a1 (w3.putObj l o4):=fun o3 osb he h3=>by
   subst he;have hn2:E2 999999=some (.op l):=by
    obtain ⟨e',h1,h2⟩:=hE2 1999999 (.op l) (by rw[←hEh];exact hEl) (by rw[ma];simp);rw[hρ] at h1;rw[h1,h2.eq rfl]
   have eos:dI ρ (dp o3 osb)=(999999,.dU o3)::dI ρ osb:=by simp only[dp,dI,zz8,hρ,ah.aN]
   rw[eos] at hs2;have ha:(au ts ((999999,ah.dU o3)::dI ρ osb++(999999,.dU (.loop (rec .ready none)))::os0)).o 999999=some (.dU o3):=by simp[au,aj]
   have hgb:∀ m,al osb m=true→bA ρ m≠999999:=fun m hm e=>by
    have h5:al (dp o3 osb) m=true:=by rw[ma,hm];simp
    have g5:fu os1 (dp o3 osb):=by
     rcases hp.2 with h | h
     ·exact kv _ _ h
     ·exact goodx _ h
    have h6:=hgv1.inj m 1999999 (by rw[←g5.same];exact h5) isrec (by rw[hρ];exact e);subst h6;have h7:fu osb0 osb:=by
     rcases hp.2 with h | h
     ·rw[hI'] at h;obtain ⟨osb',h8,h9⟩:=h;simp only[dp,List.cons.injEq] at h8;rw[h8.2];exact hI _ _ h9
     ·rw[hIx'] at h;obtain ⟨e,osb',h8,h9⟩:=h;simp only[dp,List.cons.injEq] at h8;rw[h8.2];exact hIx _ _ h9
    rw[h7.same,h19] at hm;cases hm
   refine ⟨hn2,?_,fun o4 h4 =>?_⟩
   ·have ho:=hs2.bS 999999;rw[ha] at ho;obtain ⟨b,k1,_,k3,_⟩:=ho;rw[hn2] at k1;cases k1;exact k3
   ·have h5:=(hs2.zu (o':=o4) ha hn2 h4).ZY hn2;have hst:(⟨((au ts ((999999,ah.dU o3)::dI ρ osb++(999999,.dU (.loop (rec .ready none)))::os0)).aS 999999 (.dU o4)).t,fun m=>if m=999999 then none else
      ((au ts ((999999,ah.dU o3)::dI ρ osb++(999999,.dU (.loop (rec .ready none)))::os0)).aS 999999 (.dU o4)).o m⟩:ae)=au ts (dI ρ osb++os0):=by
     simp only[au,ae.aS]
     congr 1
     funext m
     by_cases hm:m=999999
     ·subst hm;simp only[if_true,rG];cases hq:pre ρ osb 999999 with
      |none=>exact hfree.symm
      |some k=>exact absurd (mn hq).2 (hgb k (mn hq).1)
     ·simp only[if_neg hm,zy0,aj,rG]
    rw[hst] at h5;exact ⟨D2,_,h5⟩
  rcases hp.2 with h | h
  ·rw[hI'] at h;obtain ⟨osb,he,hin⟩:=h;obtain ⟨k1,k2,k3⟩:=key _ osb he rfl;refine ⟨none,_,(by have:=run_endLoop (P:=c.P) k2 (by rw[hrec];simp);rw[hrec] at this;exact this),_,hdone osb hin,?_⟩;have:=k3 (.loop { rec .ready none with state:=.exhausted }) rfl;rw[ha1] at this;rw[hrec] at this;exact this
  ·rw[hIx'] at h;obtain ⟨e,osb,he,hin⟩:=h;obtain ⟨k1,k2,k3⟩:=key _ osb he rfl;refine ⟨some (xX e),_,(by have:=run_endLoop (P:=c.P) k2 (by rw[hrec];simp);rw[hrec] at this;exact this),?_⟩;have:=k3 (.loop { rec .done (some (xX e)) with state:=.exhausted }) rfl;rw[ha1] at this;rw[hrec] at this;have hq:Ll c Q (Ek e) { a with defers := { target:=.collected w.heap.size,args := #[] } :: a.defers } _:=⟨_,hexit e osb hin,this⟩
   cases e with
   |none=>exact wpIn_ret hq
   |some id=>exact wpIn_exit hq
end
mutual
theorem mq{ρ:Nat→Nat}(h:∀ n,ρ n=n):∀ x:I,x.aN ρ=x
 | .agg fs | .tuple fs=>by simp only[I.aN];rw[nj h fs]
 | .slice _ es=>by simp only[I.aN];rw[nj h es]
 | .ref x=>by simp only[I.aN];rw[mq h x]
 | .func _ caps=>by simp only[I.aN];rw[nj h caps]
 | .iface _ v=>by simp only[I.aN];rw[mq h v]
 | .ptr _ _ | .own _ _ | .view _ _ _ _ _ | .mref _ | .dC _=>by simp only[I.aN,h]
 | .cX ks vs=>by simp only[I.aN];rw[nj h ks,nj h vs]
 | .bool _ | .int _ _ | .c7 _ | .nilp | .dw | .ea | .raw _ | .nils _ | .c0 _ | .undef | .du=>by simp only[I.aN]
theorem nj{ρ:Nat→Nat}(h:∀ n,ρ n=n):∀ xs:List I,I.cQ ρ xs=xs
 | []=>rfl
 |x::xs=>by simp only[I.cQ];rw[mq h x,nj h xs]
end
theorem ah.mq{ρ:Nat→Nat}(h:∀ n,ρ n=n):∀ x:ah,x.aN ρ=x
 | .box x=>by simp only[ah.aN,Abs.mq h]
 | .bY _ _ es=>by simp only[ah.aN,nj h]
 | .dU _=>rfl
 | .cT _ _=>rfl
 | .cB _ _=>by simp only[ah.aN,nj h]
 | .it _ _ _ _=>by simp only[ah.aN,nj h]
theorem uy(os:List (Nat×ah)):dI [] os=os:=by
 simp only[dI];have:(fun q:Nat×ah=>(bA [] q.1,q.2.aN (bA [])))=id:=by
  funext q
  rw[ah.mq (ρ:=bA []) (fun n=>rfl)];rfl
 rw[this,List.map_id]
theorem kA(a b:List (Nat×ah))(n:Nat):aj (a++b) n=match aj a n with
  |some x=>some x
  |none=>aj b n:=by
 induction a with
 |nil=>rfl
 |cons q a ih =>
  obtain ⟨k,v⟩:=q;simp only[zy0,aj];split
  ·rfl
  ·exact ih
theorem fu.none{os os':List (Nat×ah)}(h:fu os os'){n:Nat}(hn:n<1000000):aj os' n=none:=by
 cases hx:aj os' n with
 |none=>rfl
 |some x =>
  have h1:al os' n=true:=by simp[al,hx]
  rw[h.same] at h1;exact absurd (h.oL n h1) (by omega)
theorem aC.dh{ts ts':List (Nat×I)}{os os':List (Nat×ah)}(h1:aT ts ts')(h2:∀ n,aj os n=aj os' n):aC (au ts os) (au ts' os'):=by
 have e:au ts os=au ts os':=by
  simp only[au];congr 1;funext n;exact h2 n
 rw[e];rintro c a w ⟨D,E,hs⟩;refine ⟨D,E,hs.sz,hs.e8,fun t =>?_,hs.eb,hs.df,hs.dv,hs.bS,hs.cZ,hs.ed,hs.fj,hs.cM,hs.fp,hs.fQ⟩;rcases zE h1 t with h | h
 ·simp only[au];rw[h];simp[aY]
 ·have:=hs.eA t;simp only[au] at *;rw[h];exact this
theorem AV{os osk os2 ow:List (Nat×ah)}{ts:List (Nat×I)}(h1:fu os osk)(h2:fu os os2)(how:∀ m,al ow m=true→m<1000000):au ts (dI [] os2++(ow++osk))=au ts (ow++os2):=by
 simp only[au,uy]
 congr 1
 funext n
 simp only[kA];cases hw:aj ow n with
 |none =>
  simp only;cases h3:aj os2 n with
  |some x=>rfl
  |none =>
   simp only;cases h4:aj osk n with
   |none=>rfl
   |some x =>
    have h5:al osk n=true:=by simp[al,h4]
    rw[h1.same,←h2.same] at h5;simp[al,h3] at h5
 |some x =>
  simp only;rw[h2.none (how n (by simp[al,hw]))]
theorem fT.kv{os osk ow:List (Nat×ah)}(h1:fu os osk)(how:∀ m,al ow m=true→m<1000000):fT [] osk (ow++osk):=by
 refine ⟨fun m x hx =>?_,fun m m' _ _ h=>h⟩;have hm:al osk m=true:=by simp[al,hx]
 have hg:=h1.oL m (by rw[←h1.same];exact hm);obtain ⟨k1,k2⟩:=h1.ok m x hx;refine ⟨?_,k1,k2⟩;rw[ah.mq (ρ:=bA []) (fun n=>rfl)];simp only[bA,kA];cases hw:aj ow m with
 |none=>exact hx
 |some y=>have:=how m (by simp[al,hw]);omega
theorem eh.kv{os osk os2 os0:List (Nat×ah)}{r:I}(h1:fu os osk)(h2:fu os os2)(hr:r.bD=true):eh false [] osk os0 r os2:=by
 refine ⟨fun m x hx=>⟨(h2.ok m x hx).1,(h2.ok m x hx).2,fun h=>by cases h⟩,fun m m' _ _ h=>h,fun m hm=>by rw[h2.same,←h1.same];exact hm,fun m h3 h4 =>?_,nf _ r hr,fun h=>by cases h⟩;rw[h2.same,←h1.same,h4] at h3;cases h3
theorem bt.P0{P:Program}{Y:Value→List I→List (Nat×ah)→cO→Prop}{K:ae→Prop}{v:Value}{vs:List I}{dst:Option Nat}{rest:List aB}{ts:List (Nat×I)}{os osk ow:List (Nat×ah)}{In Ix:List (Nat×ah)→Prop}
  (hY:Y v vs osk (fun r os2=>(r=.bool true∧In os2)∨(r=.bool false∧Ix os2))) (hk:fu os osk) (hi:∀ os',In os'→fu os os') (hx:∀ os',Ix os'→fu os os') (hcl:I.bZ vs=true) (how:∀ m,al ow m=true→m<1000000)
  (h1:∀ os2,In os2→bt P Y false K (aE rest ((au ts (ow++os2)).aP dst (.bool true)))) (h2:∀ os2,Ix os2→bt P Y false K (aE rest ((au ts (ow++os2)).aP dst (.bool false)))) :
  bt P Y false K (.pL v vs dst rest (au ts (ow++osk))):=by
 refine .zT osk vs _ rfl hY (fT.kv hk how) (vn vs hcl) ?_ ?_
 ·rintro r os' (⟨rfl,h⟩ | ⟨rfl,h⟩)
  ·exact eh.kv hk (hi _ h) rfl
  ·exact eh.kv hk (hx _ h) rfl
 ·rintro r os' (⟨rfl,h⟩ | ⟨rfl,h⟩)
  ·rw[AV hk (hi _ h) how];exact h1 os' h
  ·rw[AV hk (hx _ h) how];exact h2 os' h
theorem Dc(A:ae)(d:Option Nat)(args:List I)(rest:List aB)(v:Value):sQ A d args rest (.raw v)=.pL v args d rest A:=rfl
def mK(w:World):aR:=fun b _=>b<w.heap.size
structure jW (P:Program) (t:TypeId) (α:Type) [Enc α]:Prop where
 cells:P.cellsOf t=Enc.sz α
 MC:0<Enc.sz α
 uh:∀ {H:Type} {enc0:TypeId×Value→H} {w:World} {fuel:Nat} {cs:List Value} {x:DataW H×List MemPlace},DataW.trod enc0 P w 0 (fun _=>true) true fuel t cs=some x→∃ a:α,af w (mK w) dS (enc a) cs
theorem alB{P:Program}{t:TypeId}(ht:P.underlying t=some (.int .i64))(hc:P.cellsOf t=1):jW P t Int :=
 ⟨hc,by decide,fun h=>by
  obtain ⟨n,rfl,_,hw⟩:=DataW.trod_int ht h;refine ⟨n,?_⟩;rw[gT,af];simp only[Lit.wf,zz2,decide_eq_true_eq] at hw;exact ⟨rfl,hw.1,hw.2⟩⟩
theorem Dq{α:Type}[Enc α]{w:World}{D:aR}(c:Nat):∀ (n:Nat) (cs:List Value),cs.length=n*c→(∀ i,i<n→∃ a:α,af w D dS (enc a) ((cs.drop (i*c)).take c))→∃ l:List α,l.length=n∧aI w D dS (l.map enc) cs
 |0,cs,hl,_=>⟨[],rfl,by simp only[Nat.zero_mul,zv1] at hl;subst hl;simp[aI]⟩
 |n+1,cs,hl,h=>by
  obtain ⟨a,ha⟩:=h 0 (by omega);simp only[Nat.zero_mul,List.drop_zero] at ha;obtain ⟨l,h1,h2⟩:=Dq c n (cs.drop c) (by rw[zy9,hl,Nat.succ_mul];omega) (fun i hi=>by
   obtain ⟨b,hb⟩:=h (i+1) (by omega);refine ⟨b,?_⟩;rw[List.drop_drop]
   rwa [Nat.succ_mul,Nat.add_comm] at hb)
  refine ⟨a::l,by simp[h1],?_⟩;simp only[zz8,aI];exact ⟨cs.take c,cs.drop c,(zx0 c cs).symm,ha,h2⟩
theorem ang{H:Type}{enc0:TypeId×Value→H}{P:Program}{w:World}{base:Nat}{spare:Nat→Bool}{held:Bool}{fuel n:Nat}{t e:TypeId}{cs:List Value}{x:DataW H×List MemPlace}(ht:P.underlying t=some (.array n e))(h:DataW.trod enc0 P w base spare held fuel t cs=some x) :
  ∃ (xs:List (DataW H×List MemPlace)) (m:Nat),cs.length=P.cellsOf t∧xs.length=n∧∀ (i:Nat),i<n→DataW.trod enc0 P w base spare held m e ((cs.drop (i*P.cellsOf e)).take (P.cellsOf e))=xs[i]?:=by
 cases fuel with
 |zero=>simp[DataW.trod] at h
 |succ m =>
  unfold DataW.trod at h;rw[ht] at h;split at h <;>simp_all
  obtain ⟨hl,xs,hp,hd⟩:=h;exact ⟨xs,by simpa using mapM_some_length hp,m,fun i hi=>mapM_some_get hp i i (by simp[hi])⟩
theorem Mn{P:Program}{t e:TypeId}{n:Nat}{α:Type}[Enc α](ht:P.underlying t=some (.array n e))(he:jW P e α)(hc:P.cellsOf t=n*Enc.sz α)(hn:0<n):jW P t (aW n α) :=
 ⟨hc,Nat.mul_pos hn he.MC,fun {H enc0 w fuel cs x} h=>by
  obtain ⟨xs,m,hl,hx,hp⟩:=ang ht h;obtain ⟨l,h1,h2⟩:=Dq (α:=α) (w:=w) (D:=mK w) (Enc.sz α) n cs (by rw[hl,hc]) (fun i hi=>by
   have h3:=hp i hi;rw[he.cells,zz9 (by omega)] at h3;exact he.uh h3)
  refine ⟨⟨l,h1⟩,?_⟩
  show af w (mK w) dS (.agg (l.map enc)) cs
  simp only[af];exact h2⟩
theorem RD(a:Addr)(i j:Nat):(a.add i).add j=a.add (i+j):=by
 unfold Addr.add;by_cases hi:i=0 <;>by_cases hj:j=0 <;>simp[hi,hj,Nat.add_assoc]
theorem Mo{P:Program}{t e:TypeId}{α:Type}[Enc α](ht:P.underlying t=some (.slice e))(he:jW P e α)(hc:P.cellsOf t=1):jW P t (List α) :=
 ⟨hc,by rw[v7];exact Nat.one_pos,fun {H enc0 w fuel cs x} h=>by
  rcases DataW.trod_slice ht h with ⟨rfl,_⟩ | ⟨a,len,cap,elems,rest,n,_,rfl,_,hb,hl,hm,hlen,hel,_⟩
  ·refine ⟨[],?_⟩;simp only[gG,zx1];rw[af];exact ⟨none,0,rfl,zz7 _,by decide,.inl rfl,by simp⟩
  ·have key:∀ k,k≤len→∃ (l:List α) (cs':List Value),l.length=k∧aI w (mK w) dS (l.map enc) cs'∧cs'.length=k*Enc.sz α∧∀ j v,cs'[j]?=some v→w.cell? (a.add j)=some v:=by
    intro k
    induction k with
    |zero=>exact fun _=>⟨[],[],rfl,by simp[aI],by simp,by simp⟩
    |succ k ih =>
     intro hk;obtain ⟨l,cs',h1,h2,h3,h4⟩:=ih (by omega);have h5:=hel k (by omega);have h6:k<elems.length:=by omega
     rw[zz9 h6] at h5;obtain ⟨ce,h7,h8⟩:=Option.bind_eq_some_iff.1 h5;obtain ⟨y,hy⟩:=he.uh h8;rw[he.cells] at h7;obtain ⟨_,h9,h10⟩:=World.cells?_some h7;refine ⟨l++[y],cs'++ce,by simp[h1],?_,by rw[zz3,h3,h9,Nat.succ_mul],fun j v hj =>?_⟩
     ·rw[zx5];refine kG _ _ _ _ h2 ?_;simp only[zz8,zx1,aI];exact ⟨ce,[],by simp,hy,rfl⟩
     ·rcases Nat.lt_or_ge j cs'.length with hlt | hge
      ·rw[zy8 hlt] at hj;exact h4 j v hj
      ·rw[zw0 hge] at hj;have hlt:j-cs'.length<Enc.sz α:=by
        have:=(zy6.1 hj).1;omega
       have:=h10 (j-cs'.length) hlt;rw[RD,←h3,Nat.add_sub_cancel' hge] at this;rw[this];exact hj
   obtain ⟨l,cs',h1,h2,h3,h4⟩:=key len (zz7 _);refine ⟨l,?_⟩;simp only[gG,af,zy2];refine ⟨some a,cap,by rw[h1],by omega,hm,?_,RK l⟩;by_cases hz:len=0
   ·left;have:l=[]:=zv1.1 (by omega);rw[this];rfl
   right
   have hpos:0<cs'.length:=by rw[h3];exact Nat.mul_pos (Nat.pos_of_ne_zero hz) he.MC
   have h0:=h4 0 cs'[0] (zz9 hpos);have hsp:a.spot=none:=by
    simp only[Addr.add,if_true] at h0;unfold World.cell? at h0;split at h0
    ·split at h0
     ·cases h0
     ·rename_i hs;cases hh:a.spot <;>simp_all
    ·cases h0
   have ha:∀ j,a.add j=⟨a.block,a.off+j,none⟩:=fun j=>by
    unfold Addr.add;split
    ·rename_i hj;subst hj;cases a;simp_all
    ·rfl
   refine ⟨a.block,a.off,cs',by cases a;simp_all,fun j v hj =>?_,h2⟩;have h5:=h4 j v hj;rw[ha] at h5;refine ⟨h5,?_⟩
   show (⟨a.block,a.off+j,none⟩:Addr).block<_
   exact World.block_lt_of_cell? w _ h5⟩
end Go.Abs
namespace Go.Abs
open Go Go.RowKit Go.ChangeShapes
open Enc (enc)
def anM(P:Program)(t:TypeId)(l:List (TypeId×Nat)):Bool:=match P.underlying t with
 |some (.struct fs)=>fs.toList.map (fun f=>(f.type,f.offset))==l
 |_=>false
def K2(P:Program)(t:TypeId)(n:Nat)(e:TypeId):Bool:=match P.underlying t with
 |some (.array n' e')=>n'==n&&e'==e
 |_=>false
theorem K3{P:Program}{t:TypeId}{n:Nat}{e:TypeId}(h:K2 P t n e=true):P.underlying t=some (.array n e):=by
 unfold K2 at h;split at h
 ·rename_i n' e' ht;simp only[zz2,beq_iff_eq] at h;rw[ht,h.1,h.2]
 ·cases h
section
variable {P:Program} {t:TypeId} {α β γ:Type} [Enc α] [Enc β] [Enc γ] {H:Type} {enc0:TypeId×Value→H} {w:World} {fuel:Nat} {cs:List Value} {x:DataW H×List MemPlace}
theorem alA{base:Nat}{v:Value}{d:DataW H}{p:List MemPlace}(ho:jW P t α)(hA:Enc.gz α=true)(hst:(match P.underlying t with | some (.struct _) | some (.array _ _)=>true | _=>false)=true)(hv:Value.okWide P w .any base t v)
  (h:DataW.Trod enc0 P w 0 (fun _=>true) true t v d p):∃ (a:α) (cs:List Value),bL (enc a) v cs∧af w (mK w) dS (enc a) cs:=by
 obtain ⟨fuel,h⟩:=h;have hagg:∃ cs,v=.agg cs:=by
  unfold Value.okWide at hv;split at hst
  ·rename_i fs ht;rw[ht] at hv;obtain ⟨cs,h1,_⟩:=hv;exact ⟨cs,h1⟩
  ·rename_i n e ht;rw[ht] at hv;obtain ⟨cs,h1,_⟩:=hv;exact ⟨cs,h1⟩
  ·cases hst
 obtain ⟨cs,rfl⟩:=hagg;have e:(Value.agg cs).cells.toList=cs.toList:=rfl;rw[e] at h;obtain ⟨a,ha⟩:=ho.uh h;exact ⟨a,cs.toList,by simp[bL,Enc.agg,hA],ha⟩
theorem ug{base:Nat}{v:Value}{d:DataW H}{p:List MemPlace}(ho:jW P t α)(hA:Enc.gz α=false)(hst:(match P.underlying t with | some (.slice _) | some (.int _) | some .bool=>true | _=>false)=true)(hv:Value.okWide P w .any base t v)
  (h:DataW.Trod enc0 P w 0 (fun _=>true) true t v d p):∃ (a:α) (cs:List Value),bL (enc a) v cs∧af w (mK w) dS (enc a) cs:=by
 obtain ⟨fuel,h⟩:=h;have hone:v.cells.toList=[v]:=by
  unfold Value.okWide at hv;split at hst
  ·rename_i e ht;rw[ht] at hv;simp only[Cell.okWide,ht] at hv;cases v <;>simp_all[Cell.ok,Value.cells]
  ·rename_i e ht;rw[ht] at hv;simp only[Cell.okWide,ht] at hv;cases v <;>simp_all[Cell.ok,Value.cells]
  ·rename_i ht;rw[ht] at hv;simp only[Cell.okWide,ht] at hv;cases v <;>simp_all[Cell.ok,Value.cells]
  ·cases hst
 rw[hone] at h;obtain ⟨a,ha⟩:=ho.uh h;exact ⟨a,[v],by simp[bL,Enc.agg,hA],ha⟩
end
theorem alO{H:Type}{enc0:TypeId×Value→H}{P:Program}{f:Func}{s:ChangeSpec}{apart ku handsOn again:Bool}{W W':World}{args:Array Value}{v:Value}{ds gs:List (DataW H)}{before pa pv:List MemPlace}
  (hW:DataW.Whole enc0 P f.params.toList s.vars apart W args.toList ds gs before)
  (hres:∀ (b:Nat) (sp:Nat→Bool) (hd:Bool),DataW.TrodAll enc0 P W' b sp hd f.resultTypes.toList (v.resultList f.resultTypes.size) (s.fn H (ds++gs)).results [])
  (hargs:∀ sp:Nat→Bool,(∀ p∈before,sp p.block=true)→DataW.TrodAll enc0 P W' 0 sp true f.params.toList args.toList (s.fn H (ds++gs)).args pa)
  (hvars:∀ sp:Nat→Bool,(∀ p∈before,sp p.block=true)→DataW.TrodVars enc0 P W' sp s.vars (s.fn H (ds++gs)).vars pv)
  (hps:before=pa++pv) (hb:Below W.heap.size W W')
  (hok:∀ (j:Nat) (t:TypeId) (r:Value),f.resultTypes[j]?=some t→(v.resultList f.resultTypes.size)[j]?=some r→Value.okWide P W' .any 0 t r) :
  s.post enc0 P f apart ku handsOn again W args v W':=by
 have hlt:∀ p∈before,p.block<W.heap.size:=fun p hp=>by simpa using hW.lt p hp
 have hold:∀ p∈before,(fun b=>decide (b<W.heap.size)) p.block=true:=fun p hp=>by simpa using hlt p hp
 refine ⟨ds,gs,before,[],pa,pv,hW,hres _ _ _,hargs _ hold,hvars _ hold,World.keptBut_mono (fun p hp=>⟨hp,?_⟩) (hb.frame (· ∈ before)),fun _ =>?_⟩
 ·rw[hps,zy4] at hp;exact Or.inr hp
 ·obtain ⟨_,_,_,_,_,hz,hn⟩:=hW;refine ⟨hok,_,_,([]++pa)++pv,⟨[]++pa,pv,trodAll_append (hargs _ (fun _ _=>rfl)) (hres _ _ _),hvars _ (fun _ _=>rfl),rfl,?_,?_⟩,?_⟩
  ·intro b off hp;have hp':MemPlace.cell b off∈before:=by rw[hps];simpa using hp
   rw[hb.frozen (p:=⟨b,off,none⟩) (hlt _ hp')];exact hz b off hp'
  ·intro ha;have:=hn ha;rw[hps] at this;simpa using this
  ·intro p hp _;rw[hps];simpa using hp
theorem Lc{P:Program}{f:FuncId}{fn:Func}{s:ChangeSpec}{H:Type}{enc0:TypeId×Value→H}{W:World}{ds gs:List (DataW H)}{before:List MemPlace}{xs:List I}{tb:TypeId}{v0 v1 v2:Value}{t0 t1 t2:TypeId}{d0 d1 d2:DataW H}{p0 p1 p2:List MemPlace}{again handsOn ku:Bool}
  (hl:laidOutB P=true) (hpar:fn.params.toList=[t0,t1,t2]) (hds:ds=[d0,d1,d2]) (hgs:gs=[]) (hbef:before=p0++p1++p2)
  (hvars:s.vars=[]) (hfn:s.fn H [d0,d1,d2] = { results:=[.lit (.bool true)],args:=[d0,d1,d2] }) (hres:fn.resultTypes = #[tb]) (htb:P.underlying tb=some .bool)
  (hW:DataW.Whole enc0 P fn.params.toList s.vars false W #[v0,v1,v2].toList ds gs before)
  (h0:DataW.Trod enc0 P W 0 (fun _=>true) true t0 v0 d0 p0) (h1:DataW.Trod enc0 P W 0 (fun _=>true) true t1 v1 d1 p1) (h2:DataW.Trod enc0 P W 0 (fun _=>true) true t2 v2 d2 p2)
  (hr:∀ t∈[t0,t1,t2],P.readableRec t=true∧t<P.types.size)
  (hctr:ay P f xs (enc true)) (hv:aH W (mK W) dS xs [v0,v1,v2]) :
  Calls P f #[v0,v1,v2] W fun e W'=>∃ v,e=.returned v∧s.post enc0 P fn false ku handsOn again W #[v0,v1,v2] v W':=by
 subst hds hgs;refine (hctr.2 W (mK W) [v0,v1,v2] (fun _ _ h=>h) hv).mono fun e W' ⟨v,D',he,hrv,hb,_,_⟩=>⟨v,he,?_⟩
 have hvb:v=.bool true:=mz hrv;subst hvb;have hlt:∀ x∈before,x.block<W.heap.size:=fun x hx=>by simpa using hW.lt x hx
 rw[hbef] at hlt;refine alO (pa:=p0++(p1++p2)) (pv:=[]) hW (fun _ _ _ =>?_) (fun sp hsp =>?_) (fun _ _ =>?_) (by rw[hbef];simp) hb ?_
 ·simp only[zx7,hfn,hres];exact trodAll_mk1 (shut_bool htb true)
 ·simp only[zx7,hfn,hpar];rw[hbef] at hsp;have br:∀ {t:TypeId} {v:Value} {d:DataW H} {p:List MemPlace},t∈[t0,t1,t2]→DataW.Trod enc0 P W 0 (fun _=>true) true t v d p→(∀ x∈p,x∈p0++p1++p2)→DataW.Trod enc0 P W' 0 sp true t v d p:=fun ht h hp =>
   WideElems.Trod_stays hl (hr _ ht).1 (hr _ ht).2 h (fun x hx=>hb.same (hlt x (hp x hx))) (fun x hx=>hsp x (hp x hx))
  exact trodAll_mk3 (br (by simp) h0 fun x hx=>by simp[hx]) (br (by simp) h1 fun x hx=>by simp[hx]) (br (by simp) h2 fun x hx=>by simp[hx])
 ·simp only[zx7,hfn,hvars];rfl
 ·intro j t r hj hv';rw[hres] at hj hv'
  match j,hj,hv' with
  |0,hj,hv' =>
   simp[Value.resultList] at hj hv';subst hj;subst hv';simp[Value.okWide,htb,Cell.okWide,Cell.ok]
theorem Mm{P:Program}{t e:TypeId}{α:Type}[Enc α]{H:Type}{enc0:TypeId×Value→H}{w:World}{base:Nat}{v:Value}{d:DataW H}{p:List MemPlace}(ho:jW P t (List α))(hu:P.underlying t=some (.slice e))(hv:Value.okWide P w .any base t v)
  (h:DataW.Trod enc0 P w 0 (fun _=>true) true t v d p):∃ l:List α,(∃ cs:List Value,bL (enc l) v cs∧af w (mK w) dS (enc l) cs)∧(l.length=0∨∃ elems spare,d=.slice elems spare∧elems.length=l.length):=by
 obtain ⟨l,cs,h1,h2⟩:=ug ho rfl (by rw[hu]) hv h;refine ⟨l,⟨cs,h1,h2⟩,?_⟩;have hcs:cs=[v]:=by simpa[bL,gG,I.isAgg] using h1
 subst hcs;simp only[gG,af] at h2;obtain ⟨a,cap,h3,_⟩:=h2;simp only[List.cons.injEq,and_true,zy2] at h3;subst h3;obtain ⟨fuel,h⟩:=h;have hc:(Value.slice a l.length cap).cells.toList=[Value.slice a l.length cap]:=rfl;rw[hc] at h;rcases DataW.trod_slice hu h with ⟨h4,_⟩ | ⟨a',len,cap',elems,rest,n,_,h4,h5,_,_,_,hlen,_⟩
 ·simp only[List.cons.injEq,Value.slice.injEq,and_true] at h4;exact .inl h4.2.1
 ·simp only[List.cons.injEq,Value.slice.injEq,and_true] at h4;simp only[Prod.mk.injEq] at h5;exact .inr ⟨_,_,h5.1,by rw[zy2,hlen,h4.2.1]⟩
end Go.Abs
namespace Go.Abs.C
open Go Go.Abs
abbrev o(a:Nat)(x:cn):aB:=⟨some a,x,none⟩
abbrev bR(a:Nat)(x:cn)(k:Nat):aB:=⟨some a,x,some (k,true)⟩
abbrev on(a:Nat)(x:cn)(k:Nat):aB:=⟨some a,x,some (k,false)⟩
abbrev p(x:cn):aB:=⟨none,x,none⟩
abbrev ai(n:Int):aJ:=.c (.int .i64 n)
abbrev T:aJ:=.c (.bool true)
abbrev bp:aJ:=.c (.bool false)
abbrev m(a b:Nat):aB:=⟨some a,.mv (.t b),none⟩
abbrev cY(a b k:Nat):aB:=⟨some a,.mv (.t b),some (k,true)⟩
abbrev fy(a b k:Nat):aB:=⟨some a,.mv (.t b),some (k,false)⟩
abbrev a8(a:Nat)(n:Int):aB:=⟨some a,.mv (.c (.int .i64 n)),none⟩
abbrev l(a b:Nat):aB:=⟨some a,.ld none (.t b),none⟩
abbrev ev(a b k:Nat):aB:=⟨some a,.ld none (.t b),some (k,true)⟩
abbrev iq(a b k:Nat):aB:=⟨some a,.ld none (.t b),some (k,false)⟩
abbrev az(a s b:Nat):aB:=⟨some a,.ld (some s) (.t b),none⟩
abbrev f(a b c d:Nat):aB:=⟨some a,.fa b c (.t d),none⟩
abbrev dP(a b c d k:Nat):aB:=⟨some a,.fa b c (.t d),some (k,true)⟩
abbrev fn(a b c d k:Nat):aB:=⟨some a,.fa b c (.t d),some (k,false)⟩
abbrev ad(a b:Nat)(n:Int):aB:=⟨some a,.bin .add (.t b) (.c (.int .i64 n)),none⟩
abbrev lt(a b c:Nat):aB:=⟨some a,.bin .lss (.t b) (.t c),none⟩
abbrev and(a b c:Nat):aB:=⟨some a,.pick (.t b) (.t c) (.c (.bool false)),none⟩
abbrev or(a b c:Nat):aB:=⟨some a,.pick (.t b) (.c (.bool true)) (.t c),none⟩
abbrev no(a b:Nat):aB:=⟨some a,.un .not (.t b),none⟩
abbrev b(a c:Nat):aB:=⟨some a,.box (.t c),none⟩
abbrev s(x y:aO):aO:=.seq x y
abbrev r(g:List aB):aO:=.bV none g
abbrev bG(P:Program)(f:Func)(c:aO):Prop:=f.body.bind (fr P f.ntmps)=some c
abbrev bH(P:Program)(f:Func)(r:List a7):Prop:=ji P f.results.toList=some r
abbrev bE(P:Program)(n:FuncId):Prop:=ij P n=true
theorem e{α:Type}{a b:α}(h:a=b):a=b:=h
end Go.Abs.C
namespace Go.Proofs.YtcldiigclhgafaaGreat
open Go Go.Abs Go.Abs.C
def agw:=[b 5 2,o 6 (.mv bp)]
def agx:=[m 21 0,o 22 (.call 24 [.t 21]),m 23 1,m 24 0,o 25 (.call 23 [.t 22,.t 23,.t 24]),m 7 25]
def agI:=[o 26 (.ia 2 1 (.t 5) (ai 0)),l 27 26,o 28 (.call 25 [.t 27,(ai 32)]),m 8 28]
def agR:=[o 29 (.ia 2 1 (.t 5) (ai 1)),l 30 29,o 31 (.call 25 [.t 30,(ai 45)]),m 9 31]
def agS:=[m 33 7,m 34 8,m 35 9,o 36 (.call 26 [.t 33,.t 34,.t 35]),m 32 36,o 37 (.ext (.t 32) 0),o 38 (.ext (.t 32) 1),m 10 37,m 11 38]
def agT:=[m 39 11,o 40 (.bin .neq (.t 39) (ai 0))]
def agU:=[o 6 (.mv bp)]
def agV:=[a8 12 0]
def agW:=[a8 13 0]
def agX:=[m 41 13,m 42 10,o 43 (.len (.t 42)),lt 44 41 43]
def agy:=[m 48 7,m 49 10,m 50 13,o 51 (.is 1 (.t 49) (.t 50)),l 52 51,m 53 8,m 54 9,o 55 (.call 27 [.t 48,.t 52,.t 53,.t 54]),m 47 55,o 56 (.ext (.t 47) 0),o 57 (.ext (.t 47) 1),m 14 56,m 15 57]
def agz:=[m 58 15,o 59 (.bin .neq (.t 58) (ai 0))]
def agA:=[o 6 (.mv bp)]
def agB:=[m 60 14,o 61 (.bin .neq (.t 60) (ai 0))]
def agC:=[m 62 12,ad 63 62 1,m 12 63]
def agD:=[m 45 13,ad 46 45 1,m 13 46]
def agE:=[a8 16 0]
def agF:=[a8 17 1]
def agG:=[m 64 17,o 65 (.bin .leq (.t 64) (ai 12))]
def agH:=[a8 18 1]
def agJ:=[m 68 18,o 69 (.bin .leq (.t 68) (ai 2))]
def agK:=[m 73 7,m 74 17,m 75 18,m 76 8,m 77 9,o 78 (.call 28 [.t 73,.t 74,.t 75,.t 76,.t 77]),m 72 78,o 79 (.ext (.t 72) 0),o 80 (.ext (.t 72) 1),m 19 79,m 20 80]
def agL:=[m 81 20,o 82 (.bin .neq (.t 81) (ai 0))]
def agM:=[o 6 (.mv bp)]
def agN:=[m 83 16,m 84 19,o 85 (.bin .add (.t 83) (.t 84)),m 16 85]
def agO:=[m 70 18,ad 71 70 1,m 18 71]
def agP:=[m 66 17,ad 67 66 1,m 17 67]
def agQ:=[m 86 16,m 87 12,o 88 (.bin .eql (.t 86) (.t 87)),m 89 88,bR 90 (.call 22 []) 89,and 91 89 90,m 6 91]
def fK:aO:=(s (r agw) (s (r agx) (s (r agI) (s (r agR) (s (r agS) (s (s (r agT) (.cond (.t 40) (s (r agU) .ret) .skip)) (s (r agV) (s (s (r agW) (.block 0 (.loop (s (s (r agX) (.cond (.t 44) .skip (.exit 0))) (s (.block 1 (s (r agy) (s (s (r agz) (.cond (.t 59) (s (r agA) .ret) .skip)) (s (r agB) (.cond (.t 61) (r agC) .skip))))) (r agD)))))) (s (r agE) (s (s (r agF) (.block 2 (.loop (s (s (r agG) (.cond (.t 65) .skip (.exit 2))) (s (.block 3 (s (r agH) (.block 4 (.loop (s (s (r agJ) (.cond (.t 69) .skip (.exit 4))) (s (.block 5 (s (r agK) (s (s (r agL) (.cond (.t 82) (s (r agM) .ret) .skip)) (r agN)))) (r agO))))))) (r agP)))))) (s (r agQ) .ret)))))))))))
def rT:List a7:=[.tmp 6]
theorem V2:bG Tryz.prog Tryz.f4 fK:=e (by kernel_rfl)
theorem Ye:bH Tryz.prog Tryz.f4 rT:=e (by kernel_rfl)
theorem T7:bE Tryz.prog 4:=e (by kernel_rfl)
def aa6:=[o 6 (.mv bp)]
def aa7:=[m 18 0,o 19 (.call 24 [.t 18]),o 7 (.alloc (.agg [.agg [.int .i64 0,.int .i64 0,.int .i64 0,.int .i64 0,.int .i64 0],.int .i64 0,.nils 7])),p (.br (some 7) (.t 7) (.t 19))]
def abg:=[az 20 7 7,m 21 1,m 22 0,o 23 (.call 23 [.t 20,.t 21,.t 22]),m 8 23]
def abh:=[m 24 2,o 25 (.call 25 [.t 24,(ai 45)]),m 2 25]
def abi:=[a8 9 0]
def abj:=[m 26 9,m 27 8,o 28 (.len (.t 27)),lt 29 26 28]
def abk:=[m 32 8,m 33 9,o 34 (.is 17 (.t 32) (.t 33)),f 35 1 2 34,l 36 35,o 37 (.bin .neq (.t 36) (ai 4)),m 38 37,cY 39 8 38,cY 40 9 38,bR 41 (.is 17 (.t 39) (.t 40)) 38,dP 42 1 2 41 38,ev 43 42 38,bR 44 (.bin .neq (.t 43) (ai 5)) 38,and 45 38 44]
def abl:=[az 47 7 7,m 48 8,m 49 8,m 50 9,o 51 (.is 17 (.t 49) (.t 50)),f 52 0 0 51,az 53 2 52,m 54 2,o 55 (.call 48 [.t 47,.t 48,.t 53,.t 54]),m 46 55,o 56 (.ext (.t 46) 0),o 57 (.ext (.t 46) 1),m 10 56,m 11 57]
def YK:=some [[],[],[],[],[2,3],[4],[5],[],[0,1,6,7],[8],[9],[9],[10,8,0,1,2,3,4,5,6,7,8,9,10],[11,12,0,1,2,3,4,5,6,7,8,9,10,11,12]]
def abm:=[m 58 11,o 59 (.bin .neq (.t 58) (ai 0)),m 60 59,fy 61 10 60,on 62 (.len (.t 61)) 60,on 63 (.bin .gtr (.t 62) (ai 1)) 60,or 64 60 63,m 65 64,fy 66 10 65,on 67 (.len (.t 66)) 65,on 68 (.bin .eql (.t 67) (ai 1)) 65,fy 69 68 65,cY 70 8 69,cY 71 9 69,bR 72 (.is 17 (.t 70) (.t 71)) 69,dP 73 1 2 72 69,ev 74 73 69,bR 75 (.bin .eql (.t 74) (ai 4)) 69,on 76 (.pick (.t 69) (.t 75) bp) 65,fy 77 76 65,cY 78 10 77,bR 79 (.is 1 (.t 78) (ai 0)) 77,ev 80 79 77,cY 81 8 77,cY 82 9 77,bR 83 (.is 17 (.t 81) (.t 82)) 77,dP 84 4 5 83 77,ev 85 84 77,bR 86 (.bin .neq (.t 80) (.t 85)) 77,on 87 (.pick (.t 77) (.t 86) bp) 65,or 88 65 87]
def YL:=some [[],[0],[1],[2],[3,2],[4,2],[2,5],[6,2],[7],[8,7],[9,7],[10,7,7],[11],[11],[12,13,11],[14,11],[15,11],[16,11],[11,17,7],[18,11,7],[19],[20,19],[21,19],[19],[19],[23,24,19],[25,19],[26,19],[22,27,19],[19,28,7],[7,29]]
def abn:=[o 6 (.mv bp)]
def aa8:=[m 89 10,o 90 (.len (.t 89)),o 91 (.bin .eql (.t 90) (ai 0)),m 92 91,fy 93 8 92,fy 94 9 92,on 95 (.is 17 (.t 93) (.t 94)) 92,fn 96 1 2 95 92,iq 97 96 92,on 98 (.bin .eql (.t 97) (ai 5)) 92,or 99 92 98]
def aa9:=[m 101 8,m 102 8,m 103 9,o 104 (.is 17 (.t 102) (.t 103)),f 105 0 0 104,az 106 2 105,o 107 (.call 38 [.t 101,.t 106]),m 100 107,o 108 (.ext (.t 100) 0),o 109 (.ext (.t 100) 1),m 12 108,m 13 109]
def aba:=[m 111 8,m 112 10,o 113 (.is 1 (.t 112) (ai 0)),l 114 113,m 115 2,o 116 (.call 39 [.t 111,.t 114,.t 115]),m 110 116,o 117 (.ext (.t 110) 0),o 118 (.ext (.t 110) 1),o 14 (.alloc (.agg [.int .i64 0,.int .i64 0,.int .i64 0,.int .i64 0,.int .i64 0,.int .i64 0,.int .i64 0,.bool false,.nils 6])),p (.br (some 9) (.t 14) (.t 117)),m 15 118]
def abb:=[m 120 12,m 121 10,o 122 (.is 1 (.t 121) (ai 0)),l 123 122,m 124 2,o 125 (.call 39 [.t 120,.t 123,.t 124]),m 119 125,o 126 (.ext (.t 119) 0),o 127 (.ext (.t 119) 1),o 16 (.alloc (.agg [.int .i64 0,.int .i64 0,.int .i64 0,.int .i64 0,.int .i64 0,.int .i64 0,.int .i64 0,.bool false,.nils 6])),p (.br (some 9) (.t 16) (.t 126)),m 17 127]
def abc:=[m 128 13,o 129 (.bin .neq (.t 128) (ai 0)),m 130 129,fy 131 15 130,on 132 (.bin .neq (.t 131) (ai 0)) 130,or 133 130 132,m 134 133,fy 135 17 134,on 136 (.bin .neq (.t 135) (ai 0)) 134,or 137 134 136,m 138 137,fn 139 3 3 14 138,iq 140 139 138,fn 141 3 3 16 138,iq 142 141 138,on 143 (.bin .neq (.t 140) (.t 142)) 138,or 144 138 143,m 145 144,fn 146 6 6 14 145,iq 147 146 145,fn 148 6 6 16 145,iq 149 148 145,on 150 (.bin .neq (.t 147) (.t 149)) 145,or 151 145 150,m 152 151,fn 153 7 7 14 152,iq 154 153 152,fn 155 7 7 16 152,iq 156 155 152,on 157 (.eqv .b true (.t 154) (.t 156)) 152,or 158 152 157,m 159 158,fn 160 8 8 14 159,iq 161 160 159,on 162 (.len (.t 161)) 159,fn 163 8 8 16 159,iq 164 163 159,on 165 (.len (.t 164)) 159,on 166 (.bin .add (.t 165) (ai 1)) 159,on 167 (.bin .neq (.t 162) (.t 166)) 159,or 168 159 167]
def abd:=[o 6 (.mv bp)]
def abe:=[m 30 9,ad 31 30 1,m 9 31]
def abf:=[o 169 (.call 22 []),m 6 169]
def A7:aO:=(s (r aa6) (s (r aa7) (s (r abg) (s (r abh) (s (s (r abi) (.block 0 (.loop (s (s (r abj) (.cond (.t 29) .skip (.exit 0))) (s (.block 1 (s (s (r abk) (.cond (.t 45) (.exit 1) .skip)) (s (.bV YK abl) (s (s (.bV YL abm) (.cond (.t 88) (s (r abn) .ret) .skip)) (s (s (r aa8) (.cond (.t 99) (.exit 1) .skip)) (s (r aa9) (s (r aba) (s (r abb) (s (r abc) (.cond (.t 168) (s (r abd) .ret) .skip)))))))))) (r abe)))))) (s (r abf) .ret))))))
def MI:List a7:=[.tmp 6]
theorem UA:bG Tryz.prog Tryz.f10 A7:=e (by kernel_rfl)
theorem WK:bH Tryz.prog Tryz.f10 MI:=e (by kernel_rfl)
theorem SF:bE Tryz.prog 10:=e (by kernel_rfl)
def acu:=[b 4 0,o 8 (.mv (.c (.nils 1))),a8 9 0]
def acv:=[az 13 7 4,o 14 (.call 66 [.t 13]),m 10 14]
def acx:=[m 15 10,o 16 (.bin .neq (.t 15) (ai 0))]
def acy:=[m 17 10,o 8 (.mv (.c (.nils 1))),m 9 17]
def acz:=[m 18 1,m 19 2,o 20 (.bld [.int .i64 0,.int .i64 0] [(0,(.t 19)),(1,(ai 9999))]),o 21 (.bs 28 2 [.t 20]),m 22 3,o 23 (.bs 3 1 [.t 22]),o 24 (.call 67 [.t 18,.t 21,.t 23]),m 11 24]
def acA:=[m 25 11,o 26 (.bin .neq (.t 25) (ai 0))]
def acB:=[m 27 11,o 8 (.mv (.c (.nils 1))),m 9 27]
def acC:=[m 28 1,m 29 3,o 30 (.call 68 [.t 28,.t 29]),o 31 (.nilC (.t 30)),f 32 0 0 31,l 33 32,m 34 2,o 35 (.lk (.i .i64) (.nilp) false (.t 33) (.t 34)),m 12 35]
def acD:=[m 36 12,o 37 (.ptrE false (.t 36) (.c (.nilp)))]
def acE:=[o 8 (.mv (.c (.nils 1))),a8 9 42]
def acw:=[az 38 7 4,m 39 12,o 40 (.call 69 [.t 38,.t 39]),m 8 40,a8 9 0]
def Bz:aO:=(s (r acu) (s (s (r acv) (s (r acx) (.cond (.t 16) (s (r acy) .ret) .skip))) (s (s (r acz) (s (r acA) (.cond (.t 26) (s (r acB) .ret) .skip))) (s (r acC) (s (s (r acD) (.cond (.t 37) (s (r acE) .ret) .skip)) (s (r acw) .ret))))))
def Nb:List a7:=[.tmp 8,.tmp 9]
theorem U2:bG Tryz.prog Tryz.f14 Bz:=e (by kernel_rfl)
theorem Xe:bH Tryz.prog Tryz.f14 Nb:=e (by kernel_rfl)
theorem S7:bE Tryz.prog 14:=e (by kernel_rfl)
def ada:=[b 3 0,o 6 (.mv (.c (.nils 1))),a8 7 0]
def adb:=[az 10 7 3,o 11 (.call 66 [.t 10]),m 8 11]
def ade:=[m 12 8,o 13 (.bin .neq (.t 12) (ai 0))]
def adf:=[m 14 8,o 6 (.mv (.c (.nils 1))),m 7 14]
def adg:=[m 15 1,m 16 2,o 17 (.bs 3 1 [.t 16]),o 18 (.call 67 [.t 15,(.c (.nils 2)),.t 17]),m 9 18]
def adh:=[m 19 9,o 20 (.bin .neq (.t 19) (ai 0))]
def adi:=[m 21 9,o 6 (.mv (.c (.nils 1))),m 7 21]
def adj:=[m 22 1,m 23 2,o 24 (.call 68 [.t 22,.t 23]),o 25 (.mk 73 [.t 3]),o 26 (.call 72 [.t 24,.t 25]),m 6 26,a8 7 0]
def BO:aO:=(s (r ada) (s (s (r adb) (s (r ade) (.cond (.t 13) (s (r adf) .ret) .skip))) (s (s (r adg) (s (r adh) (.cond (.t 20) (s (r adi) .ret) .skip))) (s (r adj) .ret))))
def Nt:List a7:=[.tmp 6,.tmp 7]
theorem Vh:bG Tryz.prog Tryz.f16 BO:=e (by kernel_rfl)
theorem Xt:bH Tryz.prog Tryz.f16 Nt:=e (by kernel_rfl)
theorem Tl:bE Tryz.prog 16:=e (by kernel_rfl)
def ad4:=[b 4 0,o 8 (.mv (.c (.nils 2))),a8 9 0]
def ad5:=[az 17 7 4,m 18 1,m 19 2,m 20 3,o 21 (.call 14 [.t 17,.t 18,.t 19,.t 20]),m 16 21,o 22 (.ext (.t 16) 0),o 23 (.ext (.t 16) 1),m 10 22,m 11 23]
def ad9:=[m 24 11,o 25 (.bin .neq (.t 24) (ai 0))]
def aea:=[m 26 11,o 8 (.mv (.c (.nils 2))),m 9 26]
def aeb:=[m 27 1,m 28 3,o 29 (.call 68 [.t 27,.t 28]),o 30 (.nilC (.t 29)),f 31 0 0 30,l 32 31,m 33 2,o 34 (.lk (.i .i64) (.nilp) false (.t 32) (.t 33)),m 12 34]
def aec:=[o 13 (.mv (.c (.nils 2)))]
def aed:=[m 35 1,o 36 (.len (.t 35)),a8 37 0]
def aee:=[lt 38 37 36]
def aef:=[m 39 37,o 40 (.is 17 (.t 35) (.t 37)),az 41 17 40,o 15 (.alloc (.agg [.agg [.int .i64 0,.int .i64 0],.int .i64 0,.int .i64 0,.int .i64 0,.int .i64 0,.int .i64 0,.int .i64 0,.int .i64 0,.agg [.int .i64 0,.int .i64 0,.int .i64 0,.int .i64 0,.int .i64 0,.int .i64 0],.agg [.int .i64 0,.int .i64 0]])),m 14 39,p (.br (some 17) (.t 15) (.t 41))]
def aeg:=[az 42 7 4,m 43 12,m 44 1,m 45 14,o 46 (.call 78 [.t 44,.t 45]),m 47 3,o 48 (.call 68 [.t 46,.t 47]),o 49 (.nilC (.t 48)),f 50 0 0 49,l 51 50,m 52 2,o 53 (.lk (.i .i64) (.nilp) false (.t 51) (.t 52)),o 54 (.call 77 [.t 42,.t 43,.t 53]),no 55 54]
def Y8:=some [[],[],[],[],[2,3],[],[4,5,4],[6],[7],[8],[],[9,10],[0,1,11,6],[12]]
def ad6:=[m 56 13,f 57 0 0 15,az 58 2 57,o 59 (.bs 65 2 [.t 58]),o 60 (.dF 65 2 16 (.agg [.int .i64 0,.int .i64 0]) (.t 56) (.t 59)),m 13 60]
def ad7:=[ad 61 37 1,m 37 61]
def ad8:=[m 62 13,m 8 62,a8 9 0]
def B8:aO:=(s (r ad4) (s (s (r ad5) (s (r ad9) (.cond (.t 25) (s (r aea) .ret) .skip))) (s (r aeb) (s (r aec) (s (s (r aed) (.block 0 (.loop (s (r aee) (s (.cond (.t 38) .skip (.exit 0)) (s (.block 1 (s (r aef) (s (.bV Y8 aeg) (.cond (.t 55) (r ad6) .skip)))) (r ad7))))))) (s (r ad8) .ret))))))
def NM:List a7:=[.tmp 8,.tmp 9]
theorem Vz:bG Tryz.prog Tryz.f18 B8:=e (by kernel_rfl)
theorem XL:bH Tryz.prog Tryz.f18 NM:=e (by kernel_rfl)
theorem TD:bE Tryz.prog 18:=e (by kernel_rfl)
def Iv:=[o 4 (.mv bp)]
def Iw:=[m 6 0,o 7 (.len (.t 6)),m 8 1,o 9 (.len (.t 8)),o 10 (.bin .neq (.t 7) (.t 9))]
def Iy:=[o 4 (.mv bp)]
def Iz:=[a8 5 0]
def IA:=[m 11 5,m 12 0,o 13 (.len (.t 12)),lt 14 11 13]
def IB:=[m 17 0,m 18 5,o 19 (.is 1 (.t 17) (.t 18)),l 20 19,m 21 1,m 22 5,o 23 (.is 1 (.t 21) (.t 22)),l 24 23,o 25 (.bin .neq (.t 20) (.t 24))]
def Zi:=some [[],[],[0,1],[2],[],[],[4,5],[6],[3,7]]
def IC:=[o 4 (.mv bp)]
def ID:=[m 15 5,ad 16 15 1,m 5 16]
def IE:=[o 4 (.mv T)]
def Ch:aO:=(s (r Iv) (s (s (r Iw) (.cond (.t 10) (s (r Iy) .ret) .skip)) (s (s (r Iz) (.block 0 (.loop (s (s (r IA) (.cond (.t 14) .skip (.exit 0))) (s (.block 1 (s (.bV Zi IB) (.cond (.t 25) (s (r IC) .ret) .skip))) (r ID)))))) (s (r IE) .ret))))
def NV:List a7:=[.tmp 4]
theorem VI:bG Tryz.prog Tryz.f20 Ch:=e (by kernel_rfl)
theorem XU:bH Tryz.prog Tryz.f20 NV:=e (by kernel_rfl)
theorem TL:bE Tryz.prog 20:=e (by kernel_rfl)
def aeX:=[o 4 (.mv bp)]
def aeY:=[m 6 0,o 7 (.len (.t 6)),m 8 1,o 9 (.len (.t 8)),o 10 (.bin .neq (.t 7) (.t 9))]
def aeZ:=[o 4 (.mv bp)]
def ae0:=[a8 5 0]
def ae1:=[m 11 5,m 12 0,o 13 (.len (.t 12)),lt 14 11 13]
def ae2:=[m 17 0,m 18 5,o 19 (.is 2 (.t 17) (.t 18)),az 20 2 19,m 21 1,m 22 5,o 23 (.is 2 (.t 21) (.t 22)),az 24 2 23,o 25 (.eqv (.br [(.i .i64),(.i .i64)]) true (.t 20) (.t 24))]
def Zl:=some [[],[],[0,1],[2],[],[],[4,5],[6],[3,7]]
def ae3:=[o 4 (.mv bp)]
def ae4:=[m 15 5,ad 16 15 1,m 5 16]
def ae5:=[o 4 (.mv T)]
def Ck:aO:=(s (r aeX) (s (s (r aeY) (.cond (.t 10) (s (r aeZ) .ret) .skip)) (s (s (r ae0) (.block 0 (.loop (s (s (r ae1) (.cond (.t 14) .skip (.exit 0))) (s (.block 1 (s (.bV Zl ae2) (.cond (.t 25) (s (r ae3) .ret) .skip))) (r ae4)))))) (s (r ae5) .ret))))
def NY:List a7:=[.tmp 4]
theorem VL:bG Tryz.prog Tryz.f21 Ck:=e (by kernel_rfl)
theorem XX:bH Tryz.prog Tryz.f21 NY:=e (by kernel_rfl)
theorem TO:bE Tryz.prog 21:=e (by kernel_rfl)
def ae6:=[o 0 (.mv bp)]
def ae7:=[o 18 (.call 81 []),m 1 18]
def afa:=[o 19 (.call 82 []),o 2 (.alloc (.agg [.agg [.int .i64 0,.int .i64 0,.int .i64 0,.int .i64 0,.int .i64 0],.int .i64 0,.nils 7])),p (.br (some 7) (.t 2) (.t 19))]
def afb:=[m 21 1,o 22 (.call 27 [.t 21,(ai 10),(ai 6),(ai 7)]),m 20 22,o 23 (.ext (.t 20) 0),o 24 (.ext (.t 20) 1),m 3 23,m 4 24]
def afc:=[az 26 7 2,m 27 1,o 28 (.call 14 [.t 26,.t 27,(ai 20),(ai 9)]),m 25 28,o 29 (.ext (.t 25) 0),o 30 (.ext (.t 25) 1),m 5 29,m 6 30]
def afd:=[az 32 7 2,m 33 1,o 34 (.call 14 [.t 32,.t 33,(ai 20),(ai 14)]),m 31 34,o 35 (.ext (.t 31) 0),o 36 (.ext (.t 31) 1),m 7 35,m 8 36]
def afe:=[az 38 7 2,m 39 1,o 40 (.call 16 [.t 38,.t 39,(ai 11)]),m 37 40,o 41 (.ext (.t 37) 0),o 42 (.ext (.t 37) 1),m 9 41,m 10 42]
def aff:=[m 44 1,o 45 (.call 28 [.t 44,(ai 2),(ai 3),(ai 7),(ai 7)]),m 43 45,o 46 (.ext (.t 43) 0),o 47 (.ext (.t 43) 1),m 11 46,m 12 47]
def afg:=[m 49 1,o 50 (.call 26 [.t 49,(ai 12),(ai 12)]),m 48 50,o 51 (.ext (.t 48) 0),o 52 (.ext (.t 48) 1),m 13 51,m 14 52]
def afh:=[az 54 7 2,m 55 1,o 56 (.call 18 [.t 54,.t 55,(ai 20),(ai 9)]),m 53 56,o 57 (.ext (.t 53) 0),o 58 (.ext (.t 53) 1),m 15 57,m 16 58]
def ae8:=[m 59 4,o 60 (.bin .eql (.t 59) (ai 0)),m 61 60,cY 62 6 61,bR 63 (.bin .eql (.t 62) (ai 0)) 61,and 64 61 63,m 65 64,cY 66 8 65,bR 67 (.bin .eql (.t 66) (ai 0)) 65,and 68 65 67,m 69 68,cY 70 10 69,bR 71 (.bin .eql (.t 70) (ai 0)) 69,and 72 69 71,m 73 72,cY 74 12 73,bR 75 (.bin .eql (.t 74) (ai 0)) 73,and 76 73 75,m 77 76,cY 78 14 77,bR 79 (.bin .eql (.t 78) (ai 0)) 77,and 80 77 79,m 81 80,cY 82 16 81,bR 83 (.bin .eql (.t 82) (ai 0)) 81,and 84 81 83,m 17 84]
def ae9:=[m 85 17,m 86 85,cY 87 3 86,bR 88 (.bin .eql (.t 87) (ai 2)) 86,and 89 86 88,m 90 89,cY 91 5 90,bR 92 (.bs 3 1 [(ai 3)]) 90,bR 93 (.call 20 [.t 91,.t 92]) 90,and 94 90 93,m 95 94,cY 96 7 95,bR 97 (.bs 3 1 [(ai 1),(ai 2),(ai 3)]) 95,bR 98 (.call 20 [.t 96,.t 97]) 95,and 99 95 98,m 100 99,cY 101 9 100,bR 102 (.bs 3 1 [(ai 11)]) 100,bR 103 (.call 20 [.t 101,.t 102]) 100,and 104 100 103,m 105 104,cY 106 11 105,bR 107 (.bin .eql (.t 106) (ai 1)) 105,and 108 105 107,m 109 108,cY 110 13 109,bR 111 (.bs 3 1 [(ai 11),(ai 20)]) 109,bR 112 (.call 20 [.t 110,.t 111]) 109,and 113 109 112,m 114 113,cY 115 15 114,bR 116 (.bld [.int .i64 0,.int .i64 0] [(1,(ai 2))]) 114,bR 117 (.bld [.int .i64 0,.int .i64 0] [(1,(ai 5))]) 114,bR 118 (.bs 65 2 [.t 116,.t 117]) 114,bR 119 (.call 21 [.t 115,.t 118]) 114,and 120 114 119,m 0 120]
def Cp:aO:=(s (r ae6) (s (r ae7) (s (r afa) (s (r afb) (s (r afc) (s (r afd) (s (r afe) (s (r aff) (s (r afg) (s (r afh) (s (r ae8) (s (r ae9) .ret))))))))))))
def N3:List a7:=[.tmp 0]
theorem VQ:bG Tryz.prog Tryz.f22 Cp:=e (by kernel_rfl)
theorem X2:bH Tryz.prog Tryz.f22 N3:=e (by kernel_rfl)
theorem TT:bE Tryz.prog 22:=e (by kernel_rfl)
def afi:=[b 3 0,o 6 (.mv (.c (.nils 17)))]
def afj:=[o 7 (.alloc (.agg [.int .i64 0,.int .i64 0,.int .i64 0]))]
def afu:=[o 8 (.mv (.c (.nils 17)))]
def afA:=[a8 9 0]
def afB:=[m 13 9,o 14 (.bin .lss (.t 13) (ai 3))]
def afC:=[a8 10 0]
def afD:=[m 17 10,m 18 1,o 19 (.len (.t 18)),lt 20 17 19,m 21 20,cY 22 10 21,bR 23 (.bin .lss (.t 22) (ai 20)) 21,and 24 21 23]
def afE:=[m 27 1,m 28 10,o 29 (.is 9 (.t 27) (.t 28)),az 30 9 29,o 11 (.alloc (.agg [.int .i64 0,.int .i64 0,.int .i64 0,.int .i64 0,.int .i64 0,.int .i64 0,.int .i64 0,.int .i64 0,.int .i64 0])),p (.br (some 9) (.t 11) (.t 30))]
def afF:=[o 31 (.ia 9 1 (.t 11) (ai 0)),l 32 31,o 33 (.call 25 [.t 32,(ai 3)]),m 34 9,o 35 (.bin .neq (.t 33) (.t 34))]
def afG:=[m 36 9,m 37 9,o 38 (.ia 3 1 (.t 7) (.t 37)),l 39 38,o 40 (.bld [.int .i64 0,.int .i64 0] [(0,(.t 36)),(1,(.t 39))]),o 41 (.ia 9 1 (.t 11) (ai 1)),l 42 41,o 43 (.call 25 [.t 42,(ai 7)]),o 44 (.ia 9 1 (.t 11) (ai 2)),l 45 44,o 46 (.call 25 [.t 45,(ai 30)]),o 47 (.ia 9 1 (.t 11) (ai 3)),l 48 47,o 49 (.call 25 [.t 48,(ai 40)]),o 50 (.ia 9 1 (.t 11) (ai 4)),l 51 50,o 52 (.call 25 [.t 51,(ai 6)]),o 53 (.bin .add (ai 1) (.t 52)),o 54 (.ia 9 1 (.t 11) (ai 5)),l 55 54,o 56 (.call 25 [.t 55,(ai 2)]),o 57 (.bin .add (ai 1) (.t 56)),o 58 (.ia 9 1 (.t 11) (ai 6)),l 59 58,o 60 (.call 25 [.t 59,(ai 12)]),o 61 (.bin .add (ai 1) (.t 60)),o 62 (.ia 9 1 (.t 11) (ai 7)),l 63 62,o 64 (.call 25 [.t 63,(ai 7)]),o 65 (.bld [.agg [.int .i64 0,.int .i64 0],.int .i64 0,.int .i64 0,.int .i64 0,.int .i64 0,.int .i64 0,.int .i64 0,.int .i64 0,.agg [.int .i64 0,.int .i64 0,.int .i64 0,.int .i64 0,.int .i64 0,.int .i64 0],.agg [.int .i64 0,.int .i64 0]] [(0,(.t 40)),(1,(.t 43)),(2,(.t 46)),(3,(.t 49)),(4,(.t 53)),(6,(.t 57)),(7,(.t 61)),(5,(.t 64))]),o 12 (.alloc (.agg [.agg [.int .i64 0,.int .i64 0],.int .i64 0,.int .i64 0,.int .i64 0,.int .i64 0,.int .i64 0,.int .i64 0,.int .i64 0,.agg [.int .i64 0,.int .i64 0,.int .i64 0,.int .i64 0,.int .i64 0,.int .i64 0],.agg [.int .i64 0,.int .i64 0]])),p (.br (some 17) (.t 12) (.t 65))]
def Zo:=some [[],[],[1],[2],[0,3],[],[5],[6],[],[8],[9,7],[],[11],[12,10],[],[14],[15,13],[16],[],[18],[19,16],[20],[],[22],[23,20],[24],[],[26],[27,24],[4,7,10,13,17,21,25,28],[],[30,29,28,0,1,2,3,4,5,6,7,8,9,10,11,12,13,14,15,16,17,18,19,20,21,22,23,24,25,26,27,28,29,30]]
def afk:=[f 66 5 6 12,l 67 66,f 68 4 5 12,l 69 68,o 70 (.bin .eql (.t 67) (.t 69))]
def afl:=[f 71 5 6 12,p (.br none (.t 71) (ai 0))]
def afm:=[f 72 1 2 12,l 73 72,o 74 (.bin .eql (.t 73) (ai 0))]
def afn:=[m 75 9,o 76 (.ia 3 1 (.t 7) (.t 75)),l 77 76,o 78 (.bin .eql (.t 77) (ai 0))]
def afo:=[f 79 2 3 12,p (.br none (.t 79) (ai 0))]
def afp:=[m 80 9,o 81 (.ia 9 1 (.t 11) (ai 4)),l 82 81,m 83 9,o 84 (.ia 3 1 (.t 7) (.t 83)),l 85 84,o 86 (.call 25 [.t 82,.t 85]),o 87 (.bld [.int .i64 0,.int .i64 0] [(0,(.t 80)),(1,(.t 86))]),f 88 9 15 12,p (.br (some 2) (.t 88) (.t 87))]
def Zm:=some [[],[],[1],[],[3],[4],[2,5],[0,6],[0,1,2,3,4,5,6,7],[8,7,6,0,1,2,3,4,5,6,7]]
def afq:=[f 89 1 2 12,l 90 89,o 91 (.bin .eql (.t 90) (ai 4))]
def afr:=[o 92 (.bld [.int .i64 0,.int .i64 0,.int .i64 0,.int .i64 0,.int .i64 0,.int .i64 0] [(0,(ai 31)),(1,(ai 31)),(2,(ai 31)),(3,(ai 31)),(4,(ai 31)),(5,(ai 31))]),f 93 8 9 12,p (.br (some 6) (.t 93) (.t 92))]
def afs:=[f 94 2 6 3,l 95 94,o 96 (.len (.t 95)),o 97 (.bin .gtr (.t 96) (ai 0))]
def aft:=[az 98 7 3,f 99 2 6 3,l 100 99,o 101 (.ia 9 1 (.t 11) (ai 8)),l 102 101,f 103 2 6 3,l 104 103,o 105 (.len (.t 104)),o 106 (.call 25 [.t 102,.t 105]),o 107 (.is 7 (.t 100) (.t 106)),f 108 1 1 107,az 109 6 108,m 110 2,m 111 10,o 112 (.call 83 [.t 110,.t 111]),o 113 (.call 35 [.t 98,.t 109,.t 112]),f 114 8 9 12,p (.br (some 6) (.t 114) (.t 113))]
def Zn:=some [[],[],[1],[],[3],[],[5],[6],[4,7],[2,8],[9],[10],[],[],[12,13,8],[0,11,14,14],[0,1,2,3,4,5,6,7,8,9,10,11,12,13,14,15],[16,15,15,0,1,2,3,4,5,6,7,8,9,10,11,12,13,14,15]]
def afv:=[m 115 8,az 116 17 12,o 117 (.call 84 [.t 116]),o 118 (.bs 68 17 [.t 117]),o 119 (.dF 68 17 136 (.agg [.agg [.int .i64 0,.int .i64 0],.int .i64 0,.int .i64 0,.int .i64 0,.int .i64 0,.int .i64 0,.int .i64 0,.int .i64 0,.agg [.int .i64 0,.int .i64 0,.int .i64 0,.int .i64 0,.int .i64 0,.int .i64 0],.agg [.int .i64 0,.int .i64 0]]) (.t 115) (.t 118)),m 8 119]
def afw:=[m 120 9,o 121 (.ia 3 1 (.t 7) (.t 120)),l 122 121,ad 123 122 1,o 124 (.ia 3 1 (.t 7) (.t 120)),p (.br none (.t 124) (.t 123))]
def afx:=[m 25 10,ad 26 25 1,m 10 26]
def afy:=[m 15 9,ad 16 15 1,m 9 16]
def afz:=[m 125 8,m 6 125]
def Cq:aO:=(s (r afi) (s (r afj) (s (r afu) (s (s (r afA) (.block 0 (.loop (s (s (r afB) (.cond (.t 14) .skip (.exit 0))) (s (.block 1 (s (r afC) (.block 2 (.loop (s (s (r afD) (.cond (.t 24) .skip (.exit 2))) (s (.block 3 (s (r afE) (s (s (r afF) (.cond (.t 35) (.exit 3) .skip)) (s (.bV Zo afG) (s (s (r afk) (.cond (.t 70) (r afl) .skip)) (s (s (r afm) (.cond (.t 74) (s (s (r afn) (.cond (.t 78) (.exit 3) .skip)) (s (r afo) (.bV Zm afp))) .skip)) (s (s (r afq) (.cond (.t 91) (s (r afr) (s (r afs) (.cond (.t 97) (.bV Zn aft) .skip))) .skip)) (s (r afv) (r afw))))))))) (r afx))))))) (r afy)))))) (s (r afz) .ret)))))
def N4:List a7:=[.tmp 6]
theorem VR:bG Tryz.prog Tryz.f23 Cq:=e (by kernel_rfl)
theorem X3:bH Tryz.prog Tryz.f23 N4:=e (by kernel_rfl)
theorem TU:bE Tryz.prog 23:=e (by kernel_rfl)
def IV:=[o 2 (.alloc (.agg [.agg [.int .i64 0,.int .i64 0,.int .i64 0,.int .i64 0,.int .i64 0],.int .i64 0,.nils 7]))]
def IW:=[m 7 0,o 8 (.call 85 [.t 7]),m 9 0,o 10 (.call 34 [.t 9,(ai 5)]),o 11 (.call 25 [.t 10,(ai 2)]),o 12 (.bld [.agg [.int .i64 0,.int .i64 0,.int .i64 0,.int .i64 0,.int .i64 0],.int .i64 0,.nils 7] [(0,(.t 8)),(1,(.t 11))]),o 3 (.alloc (.agg [.agg [.int .i64 0,.int .i64 0,.int .i64 0,.int .i64 0,.int .i64 0],.int .i64 0,.nils 7])),p (.br (some 7) (.t 3) (.t 12))]
def IX:=[a8 4 0]
def IY:=[a8 5 0]
def IZ:=[m 13 5,m 14 0,o 15 (.len (.t 14)),lt 16 13 15,m 17 16,cY 18 5 17,bR 19 (.bin .lss (.t 18) (ai 12)) 17,and 20 17 19,m 21 20,dP 22 2 6 3 21,ev 23 22 21,bR 24 (.len (.t 23)) 21,bR 25 (.bin .lss (.t 24) (ai 9)) 21,and 26 21 25]
def I0:=[m 29 4,m 30 0,m 31 5,o 32 (.is 1 (.t 30) (.t 31)),l 33 32,o 34 (.call 25 [.t 33,(ai 4)]),o 35 (.bin .add (ai 1) (.t 34)),o 36 (.bin .add (.t 29) (.t 35)),m 4 36]
def I1:=[m 37 4,m 38 0,m 39 5,o 40 (.is 1 (.t 38) (.t 39)),l 41 40,o 42 (.bin .mul (.t 41) (ai 7)),m 43 5,o 44 (.bin .mul (.t 43) (ai 2503)),o 45 (.bin .add (.t 42) (.t 44)),o 46 (.call 25 [.t 45,(ai 15625)]),o 47 (.call 86 [.t 46]),o 48 (.bld [.int .i64 0,.agg [.int .i64 0,.int .i64 0,.int .i64 0,.int .i64 0,.int .i64 0,.int .i64 0]] [(0,(.t 37)),(1,(.t 47))]),o 6 (.alloc (.agg [.int .i64 0,.agg [.int .i64 0,.int .i64 0,.int .i64 0,.int .i64 0,.int .i64 0,.int .i64 0]])),p (.br (some 7) (.t 6) (.t 48))]
def I2:=[az 49 7 3,f 50 1 1 6,az 51 6 50,o 52 (.call 87 [.t 49,.t 51]),no 53 52]
def I3:=[f 54 2 6 3,l 55 54,az 56 7 6,o 57 (.bs 63 7 [.t 56]),o 58 (.dF 63 7 56 (.agg [.int .i64 0,.agg [.int .i64 0,.int .i64 0,.int .i64 0,.int .i64 0,.int .i64 0,.int .i64 0]]) (.t 55) (.t 57)),f 59 2 6 3,p (.br none (.t 59) (.t 58))]
def xg:=[m 27 5,ad 28 27 1,m 5 28]
def tj:=[az 60 7 3,p (.br (some 7) (.t 2) (.t 60))]
def Cr:aO:=(s (r IV) (s (r IW) (s (r IX) (s (s (r IY) (.block 0 (.loop (s (s (r IZ) (.cond (.t 26) .skip (.exit 0))) (s (.block 1 (s (r I0) (s (r I1) (s (r I2) (.cond (.t 53) (r I3) .skip))))) (r xg)))))) (s (r tj) .ret)))))
def N5:List a7:=[.cell 2 (some 7)]
theorem VS:bG Tryz.prog Tryz.f24 Cr:=e (by kernel_rfl)
theorem X4:bH Tryz.prog Tryz.f24 N5:=e (by kernel_rfl)
theorem TV:bE Tryz.prog 24:=e (by kernel_rfl)
def I4:=[a8 4 0]
def I5:=[m 5 0,m 6 1,o 7 (.bin .rem (.t 5) (.t 6)),m 8 1,o 9 (.bin .add (.t 7) (.t 8)),m 10 1,o 11 (.bin .rem (.t 9) (.t 10)),m 4 11]
def Cs:aO:=(s (r I4) (s (r I5) .ret))
def N6:List a7:=[.tmp 4]
theorem VT:bG Tryz.prog Tryz.f25 Cs:=e (by kernel_rfl)
theorem X5:bH Tryz.prog Tryz.f25 N6:=e (by kernel_rfl)
theorem TW:bE Tryz.prog 25:=e (by kernel_rfl)
def afH:=[o 6 (.mv (.c (.nils 1))),a8 7 0]
def afI:=[m 11 0,m 12 1,m 13 2,o 14 (.bs 3 1 [.t 12,.t 13]),o 15 (.call 67 [.t 11,(.c (.nils 2)),.t 14]),m 8 15]
def afJ:=[m 16 8,o 17 (.bin .neq (.t 16) (ai 0))]
def afK:=[m 18 8,o 6 (.mv (.c (.nils 1))),m 7 18]
def afL:=[m 20 0,m 21 1,m 22 2,o 23 (.call 88 [.t 20,.t 21,.t 22]),m 19 23,o 24 (.ext (.t 19) 0),o 25 (.ext (.t 19) 1),m 9 24,m 10 25]
def afM:=[m 26 9,o 27 (.call 72 [.t 26,(.c (.func 89 []))]),m 6 27,a8 7 0]
def Ct:aO:=(s (r afH) (s (s (r afI) (s (r afJ) (.cond (.t 17) (s (r afK) .ret) .skip))) (s (r afL) (s (r afM) .ret))))
def N7:List a7:=[.tmp 6,.tmp 7]
theorem VU:bG Tryz.prog Tryz.f26 Ct:=e (by kernel_rfl)
theorem X6:bH Tryz.prog Tryz.f26 N7:=e (by kernel_rfl)
theorem TX:bE Tryz.prog 26:=e (by kernel_rfl)
def afN:=[a8 8 0,a8 9 0]
def afO:=[m 14 0,m 15 1,o 16 (.bld [.int .i64 0,.int .i64 0] [(0,(.t 15)),(1,(ai 9999))]),o 17 (.bs 28 2 [.t 16]),m 18 2,m 19 3,o 20 (.bs 3 1 [.t 18,.t 19]),o 21 (.call 67 [.t 14,.t 17,.t 20]),m 10 21]
def afQ:=[m 22 10,o 23 (.bin .neq (.t 22) (ai 0))]
def afR:=[m 24 10,a8 8 0,m 9 24]
def afS:=[m 26 0,m 27 2,m 28 3,o 29 (.call 88 [.t 26,.t 27,.t 28]),m 25 29,o 30 (.ext (.t 25) 0),o 31 (.ext (.t 25) 1),m 11 30,m 12 31]
def afT:=[m 32 11,o 33 (.nilC (.t 32)),f 34 0 0 33,l 35 34,m 36 1,o 37 (.lk (.i .i64) (.nilp) false (.t 35) (.t 36)),m 13 37]
def afU:=[m 39 13,o 40 (.ptrE false (.t 39) (.c (.nilp))),m 38 40]
def afV:=[a8 8 0,a8 9 42]
def afW:=[m 42 13,o 43 (.call 90 [.t 42]),m 41 43]
def afX:=[a8 8 0,a8 9 0]
def afP:=[m 44 13,o 45 (.nilC (.t 44)),f 46 0 0 45,f 47 3 3 46,l 48 47,m 8 48,a8 9 0]
def Cu:aO:=(s (r afN) (s (s (r afO) (s (r afQ) (.cond (.t 23) (s (r afR) .ret) .skip))) (s (r afS) (s (r afT) (s (.block 0 (s (r afU) (.cond (.t 38) (s (r afV) .ret) (s (r afW) (.cond (.t 41) (s (r afX) .ret) .skip))))) (s (r afP) .ret))))))
def N8:List a7:=[.tmp 8,.tmp 9]
theorem VV:bG Tryz.prog Tryz.f27 Cu:=e (by kernel_rfl)
theorem X7:bH Tryz.prog Tryz.f27 N8:=e (by kernel_rfl)
theorem TY:bE Tryz.prog 27:=e (by kernel_rfl)
def afY:=[b 6 1,b 7 2,a8 10 0,a8 11 0]
def afZ:=[m 15 0,l 16 6,o 17 (.bld [.int .i64 0,.int .i64 0] [(0,(.t 16)),(1,(ai 99))]),l 18 7,o 19 (.bld [.int .i64 0,.int .i64 0] [(0,(.t 18)),(1,(ai 9))]),o 20 (.bs 28 2 [.t 17,.t 19]),m 21 3,m 22 4,o 23 (.bs 3 1 [.t 21,.t 22]),o 24 (.call 67 [.t 15,.t 20,.t 23]),m 12 24]
def af0:=[m 25 12,o 26 (.bin .neq (.t 25) (ai 0))]
def af1:=[m 27 12,a8 10 0,m 11 27]
def af2:=[m 29 0,m 30 3,m 31 4,o 32 (.call 88 [.t 29,.t 30,.t 31]),m 28 32,o 33 (.ext (.t 28) 0),o 34 (.ext (.t 28) 1),m 13 33,m 14 34]
def af3:=[m 35 13,o 36 (.mk 91 [.t 6,.t 7]),o 37 (.call 72 [.t 35,.t 36]),o 38 (.len (.t 37)),m 10 38,a8 11 0]
def Cv:aO:=(s (r afY) (s (s (r afZ) (s (r af0) (.cond (.t 26) (s (r af1) .ret) .skip))) (s (r af2) (s (r af3) .ret))))
def N9:List a7:=[.tmp 10,.tmp 11]
theorem VW:bG Tryz.prog Tryz.f28 Cv:=e (by kernel_rfl)
theorem X8:bH Tryz.prog Tryz.f28 N9:=e (by kernel_rfl)
theorem TZ:bE Tryz.prog 28:=e (by kernel_rfl)
def I6:=[a8 4 0]
def I7:=[m 5 0,o 6 (.len (.t 5)),o 7 (.bin .eql (.t 6) (ai 0))]
def I8:=[a8 4 0]
def I9:=[m 8 0,m 9 1,m 10 0,o 11 (.len (.t 10)),o 12 (.call 25 [.t 9,.t 11]),o 13 (.is 1 (.t 8) (.t 12)),l 14 13,m 4 14]
def Cw:aO:=(s (r I6) (s (s (r I7) (.cond (.t 7) (s (r I8) .ret) .skip)) (s (r I9) .ret)))
def Oa:List a7:=[.tmp 4]
theorem VX:bG Tryz.prog Tryz.f34 Cw:=e (by kernel_rfl)
theorem X9:bH Tryz.prog Tryz.f34 Oa:=e (by kernel_rfl)
theorem T0:bE Tryz.prog 34:=e (by kernel_rfl)
def Ja:=[b 3 0,b 4 1,o 6 (.alloc (.agg [.int .i64 0,.int .i64 0,.int .i64 0,.int .i64 0,.int .i64 0,.int .i64 0]))]
def Jb:=[f 13 0 0 3,az 14 5 13,az 15 6 4,m 16 2,o 17 (.call 98 [.t 14,.t 15,.t 16]),m 12 17,o 18 (.ext (.t 12) 0),o 19 (.ext (.t 12) 1),o 7 (.alloc (.agg [.int .i64 0,.int .i64 0,.int .i64 0,.int .i64 0,.int .i64 0,.int .i64 0])),p (.br (some 6) (.t 7) (.t 18)),m 8 19]
def Je:=[a8 9 0]
def Jf:=[m 20 9,f 21 1 5 3,l 22 21,lt 23 20 22]
def Jg:=[m 26 2,m 27 9,ad 28 27 2,o 29 (.call 34 [.t 26,.t 28]),o 30 (.call 25 [.t 29,(ai 6)]),m 31 2,m 32 9,ad 33 32 5,o 34 (.call 34 [.t 31,.t 33]),o 35 (.call 25 [.t 34,(ai 5)]),o 36 (.bin .shl (ai 1) (.t 35)),o 37 (.ia 6 1 (.t 7) (.t 30)),p (.br none (.t 37) (.t 36))]
def Jh:=[m 24 9,ad 25 24 1,m 9 25]
def Ji:=[a8 10 0]
def Jj:=[m 38 10,m 39 2,o 40 (.call 34 [.t 39,(ai 1)]),o 41 (.call 25 [.t 40,(ai 4)]),lt 42 38 41]
def Jk:=[m 45 2,m 46 10,ad 47 46 7,o 48 (.call 34 [.t 45,.t 47]),o 49 (.call 25 [.t 48,(ai 6)]),m 11 49]
def Jl:=[m 50 11,m 51 11,o 52 (.ia 6 1 (.t 7) (.t 51)),l 53 52,m 54 2,m 55 10,ad 56 55 3,o 57 (.call 34 [.t 54,.t 56]),o 58 (.call 25 [.t 57,(ai 32)]),o 59 (.bin .or (.t 53) (.t 58)),o 60 (.ia 6 1 (.t 7) (.t 50)),p (.br none (.t 60) (.t 59))]
def Zp:=some [[],[],[1],[2],[],[],[5],[4,6],[7,7],[3,8],[0,0,1,2,3,4,5,6,7,8,9],[10,9,8,0,1,2,3,4,5,6,7,8,9]]
def Jc:=[m 43 10,ad 44 43 1,m 10 44]
def Jd:=[az 61 6 7,p (.br (some 6) (.t 6) (.t 61))]
def Cx:aO:=(s (r Ja) (s (r Jb) (s (s (r Je) (.block 0 (.loop (s (s (r Jf) (.cond (.t 23) .skip (.exit 0))) (s (.block 1 (r Jg)) (r Jh)))))) (s (s (r Ji) (.block 2 (.loop (s (s (r Jj) (.cond (.t 42) .skip (.exit 2))) (s (.block 3 (s (r Jk) (.bV Zp Jl))) (r Jc)))))) (s (r Jd) .ret)))))
def Ob:List a7:=[.cell 6 (some 6)]
theorem VY:bG Tryz.prog Tryz.f35 Cx:=e (by kernel_rfl)
theorem Ya:bH Tryz.prog Tryz.f35 Ob:=e (by kernel_rfl)
theorem T3:bE Tryz.prog 35:=e (by kernel_rfl)
def Jm:=[o 4 (.mv bp)]
def Jn:=[a8 5 0]
def Jo:=[m 6 5,m 7 0,o 8 (.len (.t 7)),lt 9 6 8]
def Jp:=[m 12 0,m 13 5,o 14 (.is 1 (.t 12) (.t 13)),l 15 14,m 16 1,o 17 (.bin .eql (.t 15) (.t 16))]
def Jq:=[o 4 (.mv T)]
def Jr:=[m 10 5,ad 11 10 1,m 5 11]
def Js:=[o 4 (.mv bp)]
def Cy:aO:=(s (r Jm) (s (s (r Jn) (.block 0 (.loop (s (s (r Jo) (.cond (.t 9) .skip (.exit 0))) (s (.block 1 (s (r Jp) (.cond (.t 17) (s (r Jq) .ret) .skip))) (r Jr)))))) (s (r Js) .ret)))
def Oc:List a7:=[.tmp 4]
theorem VZ:bG Tryz.prog Tryz.f36 Cy:=e (by kernel_rfl)
theorem Yb:bH Tryz.prog Tryz.f36 Oc:=e (by kernel_rfl)
theorem T4:bE Tryz.prog 36:=e (by kernel_rfl)
def af4:=[b 3 1,o 4 (.mv (.c (.nils 17))),a8 5 0]
def af5:=[m 9 0,o 10 (.call 64 [.t 9]),m 6 10]
def af6:=[m 11 6,o 12 (.bin .neq (.t 11) (ai 0))]
def af7:=[m 13 6,o 4 (.mv (.c (.nils 17))),m 5 13]
def af8:=[m 15 0,az 16 2 3,o 17 (.call 103 [.t 15,.t 16]),m 14 17,o 18 (.ext (.t 14) 0),o 19 (.ext (.t 14) 1),m 7 18,m 8 19]
def af9:=[m 20 8,no 21 20]
def aga:=[o 4 (.mv (.c (.nils 17))),a8 5 3]
def agb:=[m 22 0,m 23 7,o 24 (.call 78 [.t 22,.t 23]),m 4 24,a8 5 0]
def Cz:aO:=(s (r af4) (s (s (r af5) (s (r af6) (.cond (.t 12) (s (r af7) .ret) .skip))) (s (r af8) (s (s (r af9) (.cond (.t 21) (s (r aga) .ret) .skip)) (s (r agb) .ret)))))
def Od:List a7:=[.tmp 4,.tmp 5]
theorem V0:bG Tryz.prog Tryz.f38 Cz:=e (by kernel_rfl)
theorem Yc:bH Tryz.prog Tryz.f38 Od:=e (by kernel_rfl)
theorem T5:bE Tryz.prog 38:=e (by kernel_rfl)
def agc:=[o 6 (.alloc (.agg [.int .i64 0,.int .i64 0,.int .i64 0,.int .i64 0,.int .i64 0,.int .i64 0,.int .i64 0,.bool false,.nils 6])),a8 7 0]
def agd:=[m 10 0,m 11 1,o 12 (.bld [.int .i64 0,.int .i64 0] [(0,(.t 11)),(1,(ai 9999))]),o 13 (.bs 28 2 [.t 12]),m 14 2,o 15 (.bs 3 1 [.t 14]),o 16 (.call 67 [.t 10,.t 13,.t 15]),m 8 16]
def age:=[m 17 8,o 18 (.bin .neq (.t 17) (ai 0))]
def agf:=[o 19 (.bld [.int .i64 0,.int .i64 0,.int .i64 0,.int .i64 0,.int .i64 0,.int .i64 0,.int .i64 0,.bool false,.nils 6] []),m 20 8,p (.br (some 9) (.t 6) (.t 19)),m 7 20]
def agh:=[m 21 0,m 22 2,o 23 (.call 68 [.t 21,.t 22]),o 24 (.nilC (.t 23)),f 25 0 0 24,l 26 25,m 27 1,o 28 (.lk (.i .i64) (.nilp) false (.t 26) (.t 27)),m 9 28]
def agi:=[m 29 9,o 30 (.ptrE false (.t 29) (.c (.nilp)))]
def agj:=[o 31 (.bld [.int .i64 0,.int .i64 0,.int .i64 0,.int .i64 0,.int .i64 0,.int .i64 0,.int .i64 0,.bool false,.nils 6] []),p (.br (some 9) (.t 6) (.t 31)),a8 7 42]
def agk:=[m 32 9,o 33 (.nilC (.t 32)),f 34 0 0 33,az 35 9 34,p (.br (some 9) (.t 6) (.t 35)),a8 7 0]
def CA:aO:=(s (r agc) (s (s (r agd) (s (r age) (.cond (.t 18) (s (r agf) .ret) .skip))) (s (r agh) (s (s (r agi) (.cond (.t 30) (s (r agj) .ret) .skip)) (s (r agk) .ret)))))
def Oe:List a7:=[.cell 6 (some 9),.tmp 7]
theorem V1:bG Tryz.prog Tryz.f39 CA:=e (by kernel_rfl)
theorem Yd:bH Tryz.prog Tryz.f39 Oe:=e (by kernel_rfl)
theorem T6:bE Tryz.prog 39:=e (by kernel_rfl)
def agl:=[b 4 0,b 6 2,o 8 (.mv (.c (.nils 1))),a8 9 0]
def agm:=[az 14 7 4,o 15 (.call 66 [.t 14]),m 10 15]
def ago:=[m 16 10,o 17 (.bin .neq (.t 16) (ai 0))]
def agp:=[m 18 10,o 8 (.mv (.c (.nils 1))),m 9 18]
def agq:=[m 19 1,m 20 3,o 21 (.bs 3 1 [.t 20]),o 22 (.call 67 [.t 19,(.c (.nils 2)),.t 21]),m 11 22]
def agr:=[m 23 11,o 24 (.bin .neq (.t 23) (ai 0))]
def ags:=[m 25 11,o 8 (.mv (.c (.nils 1))),m 9 25]
def agt:=[m 27 1,az 28 2 6,o 29 (.call 103 [.t 27,.t 28]),m 26 29,o 30 (.ext (.t 26) 0),o 31 (.ext (.t 26) 1),m 12 30,m 13 31]
def agu:=[m 32 13,no 33 32]
def agv:=[o 8 (.mv (.c (.nils 1))),a8 9 3]
def agn:=[az 34 7 4,m 35 1,m 36 3,o 37 (.call 68 [.t 35,.t 36]),m 38 1,m 39 12,o 40 (.call 78 [.t 38,.t 39]),m 41 3,o 42 (.call 68 [.t 40,.t 41]),o 43 (.call 109 [.t 34,.t 37,.t 42]),m 8 43,a8 9 0]
def Zq:=some [[],[],[],[1,2],[],[],[4,5,3],[],[6,7,6],[0,3,8,8],[9,9,0,1,2,3,4,5,6,7,8,9],[10,0,1,2,3,4,5,6,7,8,9,10]]
def CB:aO:=(s (r agl) (s (s (r agm) (s (r ago) (.cond (.t 17) (s (r agp) .ret) .skip))) (s (s (r agq) (s (r agr) (.cond (.t 24) (s (r ags) .ret) .skip))) (s (r agt) (s (s (r agu) (.cond (.t 33) (s (r agv) .ret) .skip)) (s (.bV Zq agn) .ret))))))
def Of:List a7:=[.tmp 8,.tmp 9]
theorem V3:bG Tryz.prog Tryz.f48 CB:=e (by kernel_rfl)
theorem Yf:bH Tryz.prog Tryz.f48 Of:=e (by kernel_rfl)
theorem T8:bE Tryz.prog 48:=e (by kernel_rfl)
def Jt:=[a8 2 0]
def Ju:=[m 5 0,o 6 (.len (.t 5)),o 7 (.bin .gtr (.t 6) (ai 60))]
def agY:=[a8 2 41]
def Jv:=[m 8 0,o 9 (.len (.t 8)),a8 10 0]
def agZ:=[lt 11 10 9]
def ag0:=[m 12 10,o 13 (.is 17 (.t 8) (.t 10)),az 14 17 13,o 4 (.alloc (.agg [.agg [.int .i64 0,.int .i64 0],.int .i64 0,.int .i64 0,.int .i64 0,.int .i64 0,.int .i64 0,.int .i64 0,.int .i64 0,.agg [.int .i64 0,.int .i64 0,.int .i64 0,.int .i64 0,.int .i64 0,.int .i64 0],.agg [.int .i64 0,.int .i64 0]])),m 3 12,p (.br (some 17) (.t 4) (.t 14))]
def ag1:=[az 15 17 4,o 16 (.call 117 [.t 15]),no 17 16,m 18 17,fy 19 3 18,on 20 (.bin .gtr (.t 19) (ai 0)) 18,fy 21 20 18,cY 22 0 21,cY 23 3 21,bR 24 (.bin .sub (.t 23) (ai 1)) 21,bR 25 (.is 17 (.t 22) (.t 24)) 21,dP 26 0 0 25 21,bR 27 (.ld (some 2) (.t 26)) 21,dP 28 0 0 4 21,bR 29 (.ld (some 2) (.t 28)) 21,bR 30 (.call 118 [.t 27,.t 29]) 21,bR 31 (.bin .geq (.t 30) (ai 0)) 21,on 32 (.pick (.t 21) (.t 31) bp) 18,or 33 18 32]
def Zr:=some [[],[0],[1],[2,1],[3],[4,3],[5,3,3],[6],[6],[8,6],[7,9,6],[10,6],[11,6],[6],[13,6],[12,14,6,6],[15,6],[6,16,3],[3,17]]
def ag2:=[a8 2 41]
def ag3:=[ad 34 10 1,m 10 34]
def ag4:=[a8 2 0]
def CC:aO:=(s (r Jt) (s (s (r Ju) (.cond (.t 7) (s (r agY) .ret) .skip)) (s (s (r Jv) (.block 0 (.loop (s (r agZ) (s (.cond (.t 11) .skip (.exit 0)) (s (.block 1 (s (r ag0) (s (.bV Zr ag1) (.cond (.t 33) (s (r ag2) .ret) .skip)))) (r ag3))))))) (s (r ag4) .ret))))
def Oh:List a7:=[.tmp 2]
theorem V4:bG Tryz.prog Tryz.f64 CC:=e (by kernel_rfl)
theorem Yg:bH Tryz.prog Tryz.f64 Oh:=e (by kernel_rfl)
theorem T9:bE Tryz.prog 64:=e (by kernel_rfl)
def Jw:=[b 1 0,a8 2 0]
def Jx:=[f 5 0 0 1,az 6 5 5,o 7 (.call 120 [.t 6]),no 8 7,m 9 8,fn 10 1 5 1 9,iq 11 10 9,on 12 (.call 121 [.t 11,(ai 0),(ai 2)]) 9,on 13 (.un .not (.t 12)) 9,or 14 9 13,m 15 14,fn 16 2 6 1 15,iq 17 16 15,on 18 (.len (.t 17)) 15,on 19 (.bin .gtr (.t 18) (ai 40)) 15,or 20 15 19]
def tk:=[a8 2 13]
def Jy:=[f 21 2 6 1,l 22 21,o 23 (.len (.t 22)),a8 24 0]
def Jz:=[lt 25 24 23]
def JA:=[m 26 24,o 27 (.is 7 (.t 22) (.t 24)),az 28 7 27,o 4 (.alloc (.agg [.int .i64 0,.agg [.int .i64 0,.int .i64 0,.int .i64 0,.int .i64 0,.int .i64 0,.int .i64 0]])),m 3 26,p (.br (some 7) (.t 4) (.t 28))]
def JB:=[f 29 0 0 4,l 30 29,o 31 (.call 122 [.t 30]),no 32 31,m 33 32,fn 34 1 1 4 33,on 35 (.ld (some 6) (.t 34)) 33,on 36 (.call 123 [.t 35]) 33,on 37 (.un .not (.t 36)) 33,or 38 33 37,m 39 38,fy 40 3 39,on 41 (.bin .gtr (.t 40) (ai 0)) 39,fy 42 41 39,dP 43 2 6 1 42,ev 44 43 42,cY 45 3 42,bR 46 (.bin .sub (.t 45) (ai 1)) 42,bR 47 (.is 7 (.t 44) (.t 46)) 42,dP 48 0 0 47 42,ev 49 48 42,dP 50 0 0 4 42,ev 51 50 42,bR 52 (.bin .geq (.t 49) (.t 51)) 42,on 53 (.pick (.t 42) (.t 52) bp) 39,or 54 39 53,m 55 54,on 56 (.ld (some 7) (.t 1)) 55,fn 57 2 6 1 55,iq 58 57 55,fy 59 3 55,on 60 (.sl 7 (.t 58) none (some (.t 59)) none) 55,fn 61 1 1 4 55,on 62 (.ld (some 6) (.t 61)) 55,on 63 (.call 124 [.t 56,.t 60,.t 62]) 55,on 64 (.un .not (.t 63)) 55,or 65 55 64]
def Zs:=some [[],[0],[1],[2],[3,2],[4],[5,4],[6,4,4],[7,4],[4,8],[9,7],[10],[11,10],[12,10,10],[13],[14,13],[13],[16,13],[15,17,13],[18,13],[19,13],[13],[21,13],[20,22,13],[13,23,10],[10,24],[25,13],[26],[26],[28,26],[26],[29,30,26],[26],[32,26],[27,31,33,26,26],[34,26],[26,35]]
def pV:=[a8 2 13]
def xh:=[ad 66 24 1,m 24 66]
def JC:=[a8 2 0]
def CD:aO:=(s (r Jw) (s (s (r Jx) (.cond (.t 20) (s (r tk) .ret) .skip)) (s (s (r Jy) (.block 0 (.loop (s (r Jz) (s (.cond (.t 25) .skip (.exit 0)) (s (.block 1 (s (r JA) (s (.bV Zs JB) (.cond (.t 65) (s (r pV) .ret) .skip)))) (r xh))))))) (s (r JC) .ret))))
def Oi:List a7:=[.tmp 2]
theorem V5:bG Tryz.prog Tryz.f66 CD:=e (by kernel_rfl)
theorem Yh:bH Tryz.prog Tryz.f66 Oi:=e (by kernel_rfl)
theorem Ua:bE Tryz.prog 66:=e (by kernel_rfl)
def ag5:=[a8 6 0]
def ag6:=[m 10 0,o 11 (.call 64 [.t 10]),m 7 11]
def aha:=[m 12 7,o 13 (.bin .neq (.t 12) (ai 0))]
def ahb:=[m 14 7,m 6 14]
def ahc:=[m 15 1,o 16 (.len (.t 15)),a8 17 0]
def ahd:=[lt 18 17 16]
def ahe:=[o 19 (.is 2 (.t 15) (.t 17)),az 20 2 19,o 9 (.alloc (.agg [.int .i64 0,.int .i64 0])),p (.br (some 2) (.t 9) (.t 20))]
def ahf:=[o 21 (.ia 2 1 (.t 9) (ai 0)),l 22 21,o 23 (.ia 2 1 (.t 9) (ai 1)),l 24 23,o 25 (.call 114 [.t 22,(ai 1),.t 24]),no 26 25]
def ahg:=[a8 6 1]
def ahh:=[ad 27 17 1,m 17 27]
def ag7:=[m 28 2,o 29 (.call 125 [.t 28,(.c (.func 126 []))])]
def ag8:=[a8 6 6]
def ag9:=[a8 6 0]
def CE:aO:=(s (r ag5) (s (s (r ag6) (s (r aha) (.cond (.t 13) (s (r ahb) .ret) .skip))) (s (s (r ahc) (.block 0 (.loop (s (r ahd) (s (.cond (.t 18) .skip (.exit 0)) (s (.block 1 (s (r ahe) (s (r ahf) (.cond (.t 26) (s (r ahg) .ret) .skip)))) (r ahh))))))) (s (s (r ag7) (.cond (.t 29) (s (r ag8) .ret) .skip)) (s (r ag9) .ret)))))
def Oj:List a7:=[.tmp 6]
theorem V6:bG Tryz.prog Tryz.f67 CE:=e (by kernel_rfl)
theorem Yi:bH Tryz.prog Tryz.f67 Oj:=e (by kernel_rfl)
theorem Ub:bE Tryz.prog 67:=e (by kernel_rfl)
def ahi:=[o 4 (.mv (.c (.nilp)))]
def ahj:=[m 8 0,m 9 1,o 10 (.call 88 [.t 8,(ai 100000),.t 9]),m 7 10,o 11 (.ext (.t 7) 0),o 12 (.ext (.t 7) 1),m 5 11,m 6 12]
def ahk:=[m 13 5,m 4 13]
def CF:aO:=(s (r ahi) (s (r ahj) (s (r ahk) .ret)))
def Ol:List a7:=[.tmp 4]
theorem V7:bG Tryz.prog Tryz.f68 CF:=e (by kernel_rfl)
theorem Yj:bH Tryz.prog Tryz.f68 Ol:=e (by kernel_rfl)
theorem Uc:bE Tryz.prog 68:=e (by kernel_rfl)
def ahl:=[b 2 0,o 4 (.mv (.c (.nils 1)))]
def ahm:=[az 8 7 2,m 9 1,o 10 (.nilC (.t 9)),f 11 0 0 10,f 12 8 8 11,l 13 12,o 14 (.call 128 [.t 8,.t 13]),m 7 14,o 15 (.ext (.t 7) 0),o 16 (.ext (.t 7) 1),m 5 15,m 6 16]
def Zt:=some [[],[],[1],[2],[3],[4],[0,5],[6],[7],[7],[8,6,0,1,2,3,4,5,6,7,8],[9,10,0,1,2,3,4,5,6,7,8,9,10]]
def ahn:=[m 17 5,m 4 17]
def CG:aO:=(s (r ahl) (s (.bV Zt ahm) (s (r ahn) .ret)))
def Om:List a7:=[.tmp 4]
theorem V8:bG Tryz.prog Tryz.f69 CG:=e (by kernel_rfl)
theorem Yk:bH Tryz.prog Tryz.f69 Om:=e (by kernel_rfl)
theorem Ud:bE Tryz.prog 69:=e (by kernel_rfl)
def JD:=[o 4 (.mv (.c (.nils 1)))]
def JE:=[o 5 (.mv (.c (.nils 1)))]
def JF:=[m 8 0,o 9 (.nilC (.t 8)),f 10 0 0 9,l 11 10,o 12 (.kI (.t 11))]
def xi:=[o 13 (.jN (.t 12)),o 14 (.ext (.t 13) 0)]
def JG:=[o 15 (.ent (.t 12)),o 16 (.ext (.t 15) 0),o 17 (.ext (.t 15) 1),m 6 16,m 7 17]
def JH:=[m 18 1,m 19 7,o 20 (.eF (.t 18) [.t 19])]
def aho:=[m 21 5,m 22 6,o 23 (.bs 3 1 [.t 22]),o 24 (.dF 3 1 8 (.int .i64 0) (.t 21) (.t 23)),m 5 24]
def ahp:=[m 25 5,o 26 (.call 107 [.t 25])]
def ahq:=[m 27 5,m 4 27]
def CH:aO:=(s (r JD) (s (r JE) (s (s (r JF) (.block 0 (.loop (s (r xi) (s (.cond (.t 14) .skip (.exit 0)) (.block 1 (s (r JG) (s (r JH) (.cond (.t 20) (r aho) .skip))))))))) (s (r ahp) (s (r ahq) .ret)))))
def On:List a7:=[.tmp 4]
theorem V9:bG Tryz.prog Tryz.f72 CH:=e (by kernel_rfl)
theorem Yl:bH Tryz.prog Tryz.f72 On:=e (by kernel_rfl)
theorem Ue:bE Tryz.prog 72:=e (by kernel_rfl)
def ahr:=[o 3 (.mv bp)]
def ahs:=[m 4 0,o 5 (.nilC (.t 4)),f 6 0 0 5,f 7 4 4 6,l 8 7,o 9 (.bin .gtr (.t 8) (ai 0)),m 10 9,bR 11 (.ld (some 7) (.t 1)) 10,cY 12 0 10,bR 13 (.call 69 [.t 11,.t 12]) 10,cY 14 0 10,bR 15 (.nilC (.t 14)) 10,dP 16 0 0 15 10,dP 17 4 4 16 10,ev 18 17 10,bR 19 (.call 74 [.t 13,.t 18]) 10,bR 20 (.un .not (.t 19)) 10,and 21 10 20,m 3 21]
def Zu:=some [[],[0],[1],[2],[3],[4],[5],[6],[6],[7,8,6,6],[6],[10,6],[11,6],[12,6],[13,6],[9,14,9,6],[15,6],[6,16],[17,15,0,1,2,3,4,5,6,7,8,9,10,11,12,13,14,15,16,17]]
def CI:aO:=(s (r ahr) (s (.bV Zu ahs) .ret))
def Oo:List a7:=[.tmp 3]
theorem Wa:bG Tryz.prog Tryz.f73 CI:=e (by kernel_rfl)
theorem Ym:bH Tryz.prog Tryz.f73 Oo:=e (by kernel_rfl)
theorem Uf:bE Tryz.prog 73:=e (by kernel_rfl)
def aht:=[o 4 (.mv bp)]
def ahu:=[m 5 0,m 6 1,o 7 (.call 131 [.t 5,.t 6]),o 8 (.bin .geq (.t 7) (ai 0)),m 4 8]
def CJ:aO:=(s (r aht) (s (r ahu) .ret))
def Oq:List a7:=[.tmp 4]
theorem Wb:bG Tryz.prog Tryz.f74 CJ:=e (by kernel_rfl)
theorem Yn:bH Tryz.prog Tryz.f74 Oq:=e (by kernel_rfl)
theorem Ug:bE Tryz.prog 74:=e (by kernel_rfl)
def ahv:=[b 3 0,o 6 (.mv bp)]
def ahw:=[m 8 1,o 9 (.ptrE false (.t 8) (.c (.nilp))),m 10 9,fy 11 2 10,on 12 (.ptrE false (.t 11) (.c (.nilp))) 10,or 13 10 12]
def ahx:=[m 14 1,m 15 2,o 16 (.ptrE false (.t 14) (.t 15)),m 6 16]
def ahy:=[o 7 (.mv (.c (.func 133 [])))]
def ahz:=[m 17 7,m 18 1,o 19 (.eF (.t 17) [.t 18]),m 20 7,m 21 2,o 22 (.eF (.t 20) [.t 21]),o 23 (.eqv (.kO 8 (.i .i64)) false (.t 19) (.t 22)),m 24 23,bR 25 (.ld (some 7) (.t 3)) 24,cY 26 1 24,bR 27 (.call 69 [.t 25,.t 26]) 24,bR 28 (.ld (some 7) (.t 3)) 24,cY 29 2 24,bR 30 (.call 69 [.t 28,.t 29]) 24,bR 31 (.call 134 [.t 27,.t 30]) 24,and 32 24 31,m 6 32]
def Zv:=some [[],[],[0,1],[],[],[3,4,2],[2,5],[6,5],[7],[7],[8,9,7,7],[7],[7],[11,12,10,7],[10,13,13,7],[7,14],[15,14,0,1,2,3,4,5,6,7,8,9,10,11,12,13,14,15]]
def sP:aO:=(s (r ahv) (s (s (r ahw) (.cond (.t 13) (s (r ahx) .ret) .skip)) (s (r ahy) (s (.bV Zv ahz) .ret))))
def uo:List a7:=[.tmp 6]
theorem vJ:bG Tryz.prog Tryz.f77 sP:=e (by kernel_rfl)
theorem vS:bH Tryz.prog Tryz.f77 uo:=e (by kernel_rfl)
theorem vG:bE Tryz.prog 77:=e (by kernel_rfl)
def JI:=[o 4 (.mv (.c (.nils 17)))]
def JJ:=[m 5 0,o 6 (.call 136 [.t 5]),m 7 1,m 8 1,ad 9 8 1,o 10 (.call 135 [.t 6,.t 7,.t 9]),m 4 10]
def CK:aO:=(s (r JI) (s (r JJ) .ret))
def Ot:List a7:=[.tmp 4]
theorem Wc:bG Tryz.prog Tryz.f78 CK:=e (by kernel_rfl)
theorem Yo:bH Tryz.prog Tryz.f78 Ot:=e (by kernel_rfl)
theorem Uh:bE Tryz.prog 78:=e (by kernel_rfl)
def JK:=[o 0 (.mv (.c (.nils 17)))]
def JL:=[o 1 (.bld [.agg [.int .i64 0,.int .i64 0],.int .i64 0,.int .i64 0,.int .i64 0,.int .i64 0,.int .i64 0,.int .i64 0,.int .i64 0,.agg [.int .i64 0,.int .i64 0,.int .i64 0,.int .i64 0,.int .i64 0,.int .i64 0],.agg [.int .i64 0,.int .i64 0]] [(1,(ai 1)),(2,(ai 1)),(3,(ai 1)),(4,(ai 10)),(6,(ai 3)),(7,(ai 2))]),o 2 (.bld [.int .i64 0,.int .i64 0] [(1,(ai 1))]),o 3 (.bld [.agg [.int .i64 0,.int .i64 0],.int .i64 0,.int .i64 0,.int .i64 0,.int .i64 0,.int .i64 0,.int .i64 0,.int .i64 0,.agg [.int .i64 0,.int .i64 0,.int .i64 0,.int .i64 0,.int .i64 0,.int .i64 0],.agg [.int .i64 0,.int .i64 0]] [(0,(.t 2)),(1,(ai 1)),(2,(ai 5)),(3,(ai 5)),(4,(ai 11)),(6,(ai 3)),(7,(ai 2)),(5,(ai 10))]),o 4 (.bld [.int .i64 0,.int .i64 0] [(1,(ai 2))]),o 5 (.bld [.agg [.int .i64 0,.int .i64 0],.int .i64 0,.int .i64 0,.int .i64 0,.int .i64 0,.int .i64 0,.int .i64 0,.int .i64 0,.agg [.int .i64 0,.int .i64 0,.int .i64 0,.int .i64 0,.int .i64 0,.int .i64 0],.agg [.int .i64 0,.int .i64 0]] [(0,(.t 4)),(1,(ai 2)),(2,(ai 6)),(3,(ai 6)),(4,(ai 20)),(6,(ai 3))]),o 6 (.bld [.int .i64 0,.int .i64 0] [(1,(ai 3))]),o 7 (.bld [.int .i64 0,.int .i64 0,.int .i64 0,.int .i64 0,.int .i64 0,.int .i64 0] [(0,(ai 31)),(1,(ai 1)),(2,(ai 1)),(3,(ai 1)),(4,(ai 1)),(5,(ai 31))]),o 8 (.bld [.agg [.int .i64 0,.int .i64 0],.int .i64 0,.int .i64 0,.int .i64 0,.int .i64 0,.int .i64 0,.int .i64 0,.int .i64 0,.agg [.int .i64 0,.int .i64 0,.int .i64 0,.int .i64 0,.int .i64 0,.int .i64 0],.agg [.int .i64 0,.int .i64 0]] [(0,(.t 6)),(1,(ai 4)),(2,(ai 6)),(3,(ai 6)),(4,(ai 20)),(8,(.t 7))]),o 9 (.bld [.int .i64 0,.int .i64 0] [(1,(ai 4))]),o 10 (.bld [.agg [.int .i64 0,.int .i64 0],.int .i64 0,.int .i64 0,.int .i64 0,.int .i64 0,.int .i64 0,.int .i64 0,.int .i64 0,.agg [.int .i64 0,.int .i64 0,.int .i64 0,.int .i64 0,.int .i64 0,.int .i64 0],.agg [.int .i64 0,.int .i64 0]] [(0,(.t 9)),(1,(ai 3)),(2,(ai 7)),(3,(ai 7)),(4,(ai 10)),(7,(ai 1))]),o 11 (.bld [.int .i64 0,.int .i64 0] [(1,(ai 5))]),o 12 (.bld [.int .i64 0,.int .i64 0,.int .i64 0,.int .i64 0,.int .i64 0,.int .i64 0] [(0,(ai 24)),(1,(ai 1)),(2,(ai 1)),(3,(ai 1)),(4,(ai 1)),(5,(ai 31))]),o 13 (.bld [.agg [.int .i64 0,.int .i64 0],.int .i64 0,.int .i64 0,.int .i64 0,.int .i64 0,.int .i64 0,.int .i64 0,.int .i64 0,.agg [.int .i64 0,.int .i64 0,.int .i64 0,.int .i64 0,.int .i64 0,.int .i64 0],.agg [.int .i64 0,.int .i64 0]] [(0,(.t 11)),(1,(ai 4)),(2,(ai 6)),(3,(ai 9)),(4,(ai 20)),(8,(.t 12))]),o 14 (.bld [.int .i64 0,.int .i64 0] [(1,(ai 6))]),o 15 (.bld [.agg [.int .i64 0,.int .i64 0],.int .i64 0,.int .i64 0,.int .i64 0,.int .i64 0,.int .i64 0,.int .i64 0,.int .i64 0,.agg [.int .i64 0,.int .i64 0,.int .i64 0,.int .i64 0,.int .i64 0,.int .i64 0],.agg [.int .i64 0,.int .i64 0]] [(0,(.t 14)),(1,(ai 5)),(2,(ai 10)),(3,(ai 10)),(4,(ai 20)),(7,(ai 3))]),o 16 (.bld [.int .i64 0,.int .i64 0] [(1,(ai 7))]),o 17 (.bld [.int .i64 0,.int .i64 0,.int .i64 0,.int .i64 0,.int .i64 0,.int .i64 0] [(0,(ai 1)),(1,(ai 1)),(2,(ai 1)),(3,(ai 1)),(4,(ai 1)),(5,(ai 1))]),o 18 (.bld [.agg [.int .i64 0,.int .i64 0],.int .i64 0,.int .i64 0,.int .i64 0,.int .i64 0,.int .i64 0,.int .i64 0,.int .i64 0,.agg [.int .i64 0,.int .i64 0,.int .i64 0,.int .i64 0,.int .i64 0,.int .i64 0],.agg [.int .i64 0,.int .i64 0]] [(0,(.t 16)),(1,(ai 4)),(2,(ai 8)),(3,(ai 11)),(4,(ai 11)),(8,(.t 17))]),o 19 (.bld [.int .i64 0,.int .i64 0] [(1,(ai 8))]),o 20 (.bld [.agg [.int .i64 0,.int .i64 0],.int .i64 0,.int .i64 0,.int .i64 0,.int .i64 0,.int .i64 0,.int .i64 0,.int .i64 0,.agg [.int .i64 0,.int .i64 0,.int .i64 0,.int .i64 0,.int .i64 0,.int .i64 0],.agg [.int .i64 0,.int .i64 0]] [(0,(.t 19)),(1,(ai 6)),(2,(ai 12)),(3,(ai 12)),(4,(ai 10))]),o 21 (.bld [.int .i64 0,.int .i64 0] [(1,(ai 9))]),o 22 (.bld [.int .i64 0,.int .i64 0] [(1,(ai 5))]),o 23 (.bld [.agg [.int .i64 0,.int .i64 0],.int .i64 0,.int .i64 0,.int .i64 0,.int .i64 0,.int .i64 0,.int .i64 0,.int .i64 0,.agg [.int .i64 0,.int .i64 0,.int .i64 0,.int .i64 0,.int .i64 0,.int .i64 0],.agg [.int .i64 0,.int .i64 0]] [(0,(.t 21)),(1,(ai 0)),(3,(ai 14)),(9,(.t 22))]),o 24 (.bs 68 17 [.t 1,.t 3,.t 5,.t 8,.t 10,.t 13,.t 15,.t 18,.t 20,.t 23]),m 0 24]
def CL:aO:=(s (r JK) (s (r JL) .ret))
def Ou:List a7:=[.tmp 0]
theorem Wd:bG Tryz.prog Tryz.f81 CL:=e (by kernel_rfl)
theorem Yp:bH Tryz.prog Tryz.f81 Ou:=e (by kernel_rfl)
theorem Ui:bE Tryz.prog 81:=e (by kernel_rfl)
def JM:=[o 0 (.alloc (.agg [.agg [.int .i64 0,.int .i64 0,.int .i64 0,.int .i64 0,.int .i64 0],.int .i64 0,.nils 7]))]
def JN:=[o 1 (.bld [.int .i64 0,.int .i64 0,.int .i64 0,.int .i64 0,.int .i64 0] [(0,(ai 1)),(1,(ai 3)),(2,(ai 4)),(3,(ai 24)),(4,(ai 24))]),o 2 (.bld [.int .i64 0,.agg [.int .i64 0,.int .i64 0,.int .i64 0,.int .i64 0,.int .i64 0,.int .i64 0]] [(0,(ai 1))]),o 3 (.bld [.int .i64 0,.int .i64 0,.int .i64 0,.int .i64 0,.int .i64 0,.int .i64 0] [(0,(ai 2)),(1,(ai 0)),(2,(ai 0)),(3,(ai 0)),(4,(ai 0)),(5,(ai 0))]),o 4 (.bld [.int .i64 0,.agg [.int .i64 0,.int .i64 0,.int .i64 0,.int .i64 0,.int .i64 0,.int .i64 0]] [(0,(ai 2)),(1,(.t 3))]),o 5 (.bld [.int .i64 0,.int .i64 0,.int .i64 0,.int .i64 0,.int .i64 0,.int .i64 0] [(0,(ai 3)),(1,(ai 0)),(2,(ai 0)),(3,(ai 0)),(4,(ai 0)),(5,(ai 2))]),o 6 (.bld [.int .i64 0,.agg [.int .i64 0,.int .i64 0,.int .i64 0,.int .i64 0,.int .i64 0,.int .i64 0]] [(0,(ai 3)),(1,(.t 5))]),o 7 (.bs 63 7 [.t 2,.t 4,.t 6]),o 8 (.bld [.agg [.int .i64 0,.int .i64 0,.int .i64 0,.int .i64 0,.int .i64 0],.int .i64 0,.nils 7] [(0,(.t 1)),(2,(.t 7))]),p (.br (some 7) (.t 0) (.t 8))]
def CM:aO:=(s (r JM) (s (r JN) .ret))
def Ov:List a7:=[.cell 0 (some 7)]
theorem We:bG Tryz.prog Tryz.f82 CM:=e (by kernel_rfl)
theorem Yq:bH Tryz.prog Tryz.f82 Ov:=e (by kernel_rfl)
theorem Uj:bE Tryz.prog 82:=e (by kernel_rfl)
def ahA:=[o 4 (.mv (.c (.nils 1)))]
def ahB:=[o 5 (.mv (.c (.nils 1)))]
def ahC:=[a8 6 0]
def ahD:=[m 7 6,m 8 0,o 9 (.len (.t 8)),lt 10 7 9]
def ahE:=[m 13 5,m 14 0,m 15 6,m 16 1,o 17 (.bin .add (.t 15) (.t 16)),o 18 (.call 34 [.t 14,.t 17]),m 19 1,o 20 (.bin .add (.t 18) (.t 19)),o 21 (.bs 3 1 [.t 20]),o 22 (.dF 3 1 8 (.int .i64 0) (.t 13) (.t 21)),m 5 22]
def ahF:=[m 11 6,ad 12 11 1,m 6 12]
def ahG:=[m 23 5,m 4 23]
def CN:aO:=(s (r ahA) (s (r ahB) (s (s (r ahC) (.block 0 (.loop (s (s (r ahD) (.cond (.t 10) .skip (.exit 0))) (s (.block 1 (r ahE)) (r ahF)))))) (s (r ahG) .ret))))
def Ow:List a7:=[.tmp 4]
theorem Wf:bG Tryz.prog Tryz.f83 CN:=e (by kernel_rfl)
theorem Yr:bH Tryz.prog Tryz.f83 Ow:=e (by kernel_rfl)
theorem Uk:bE Tryz.prog 83:=e (by kernel_rfl)
def ahH:=[b 1 0,o 2 (.alloc (.agg [.agg [.int .i64 0,.int .i64 0],.int .i64 0,.int .i64 0,.int .i64 0,.int .i64 0,.int .i64 0,.int .i64 0,.int .i64 0,.agg [.int .i64 0,.int .i64 0,.int .i64 0,.int .i64 0,.int .i64 0,.int .i64 0],.agg [.int .i64 0,.int .i64 0]]))]
def ahI:=[f 4 0 0 1,az 5 2 4,f 6 1 2 1,l 7 6,f 8 2 3 1,l 9 8,f 10 3 4 1,l 11 10,o 12 (.bld [.agg [.int .i64 0,.int .i64 0],.int .i64 0,.int .i64 0,.int .i64 0,.int .i64 0,.int .i64 0,.int .i64 0,.int .i64 0,.agg [.int .i64 0,.int .i64 0,.int .i64 0,.int .i64 0,.int .i64 0,.int .i64 0],.agg [.int .i64 0,.int .i64 0]] [(0,(.t 5)),(1,(.t 7)),(2,(.t 9)),(3,(.t 11))]),o 3 (.alloc (.agg [.agg [.int .i64 0,.int .i64 0],.int .i64 0,.int .i64 0,.int .i64 0,.int .i64 0,.int .i64 0,.int .i64 0,.int .i64 0,.agg [.int .i64 0,.int .i64 0,.int .i64 0,.int .i64 0,.int .i64 0,.int .i64 0],.agg [.int .i64 0,.int .i64 0]])),p (.br (some 17) (.t 3) (.t 12))]
def ahS:=[f 13 1 2 1,l 14 13,o 15 (.bin .eql (.t 14) (ai 0))]
def ahT:=[f 16 9 15 1,az 17 2 16,f 18 9 15 3,p (.br (some 2) (.t 18) (.t 17))]
def ahU:=[az 19 17 3,p (.br (some 17) (.t 2) (.t 19))]
def ahV:=[f 20 4 5 1,l 21 20,f 22 4 5 3,p (.br none (.t 22) (.t 21))]
def ahW:=[f 23 1 2 1,l 24 23]
def ahX:=[o 26 (.bin .eql (.t 24) (ai 1)),m 25 26]
def ahY:=[f 27 6 7 1,l 28 27,f 29 6 7 3,p (.br none (.t 29) (.t 28))]
def ahZ:=[f 30 7 8 1,l 31 30,f 32 7 8 3,p (.br none (.t 32) (.t 31))]
def ahJ:=[f 33 5 6 1,l 34 33,f 35 5 6 3,p (.br none (.t 35) (.t 34))]
def ahK:=[o 37 (.bin .eql (.t 24) (ai 2)),m 36 37]
def ahL:=[f 38 6 7 1,l 39 38,f 40 6 7 3,p (.br none (.t 40) (.t 39))]
def ahM:=[o 42 (.bin .eql (.t 24) (ai 3)),m 41 42]
def ahN:=[o 43 (.bin .eql (.t 24) (ai 5)),m 41 43]
def ahO:=[f 44 7 8 1,l 45 44,f 46 7 8 3,p (.br none (.t 46) (.t 45))]
def ahP:=[o 48 (.bin .eql (.t 24) (ai 4)),m 47 48]
def ahQ:=[f 49 8 9 1,az 50 6 49,f 51 8 9 3,p (.br (some 6) (.t 51) (.t 50))]
def ahR:=[az 52 17 3,p (.br (some 17) (.t 2) (.t 52))]
def CO:aO:=(s (r ahH) (s (r ahI) (s (s (r ahS) (.cond (.t 15) (s (r ahT) (s (r ahU) .ret)) .skip)) (s (r ahV) (s (s (r ahW) (.block 0 (s (r ahX) (.cond (.t 25) (s (r ahY) (s (r ahZ) (r ahJ))) (s (r ahK) (.cond (.t 36) (r ahL) (s (s (r ahM) (.cond (.t 41) .skip (r ahN))) (.cond (.t 41) (r ahO) (s (r ahP) (.cond (.t 47) (r ahQ) .skip)))))))))) (s (r ahR) .ret))))))
def Ox:List a7:=[.cell 2 (some 17)]
theorem Wg:bG Tryz.prog Tryz.f84 CO:=e (by kernel_rfl)
theorem Ys:bH Tryz.prog Tryz.f84 Ox:=e (by kernel_rfl)
theorem Ul:bE Tryz.prog 84:=e (by kernel_rfl)
def JO:=[o 2 (.alloc (.agg [.int .i64 0,.int .i64 0,.int .i64 0,.int .i64 0,.int .i64 0]))]
def JP:=[o 3 (.alloc (.agg [.int .i64 0,.int .i64 0,.int .i64 0,.int .i64 0,.int .i64 0]))]
def JQ:=[a8 4 0]
def JR:=[m 6 4,o 7 (.bin .lss (.t 6) (ai 5))]
def JS:=[m 10 4,m 11 4,o 12 (.bin .shl (ai 1) (.t 11)),o 13 (.ia 5 1 (.t 3) (.t 10)),p (.br none (.t 13) (.t 12))]
def JT:=[m 14 0,m 15 4,o 16 (.call 34 [.t 14,.t 15]),o 17 (.call 25 [.t 16,(ai 12)]),m 5 17]
def JU:=[m 18 5,o 19 (.bin .lss (.t 18) (ai 5))]
def JV:=[m 20 4,m 21 4,o 22 (.ia 5 1 (.t 3) (.t 21)),l 23 22,m 24 5,o 25 (.bin .shl (ai 1) (.t 24)),o 26 (.bin .or (.t 23) (.t 25)),o 27 (.ia 5 1 (.t 3) (.t 20)),p (.br none (.t 27) (.t 26))]
def Zw:=some [[],[],[1],[2],[],[4],[3,5],[0,0,1,2,3,4,5,6],[7,6,0,1,2,3,4,5,6]]
def xj:=[m 8 4,ad 9 8 1,m 4 9]
def JW:=[az 28 5 3,p (.br (some 5) (.t 2) (.t 28))]
def CP:aO:=(s (r JO) (s (r JP) (s (s (r JQ) (.block 0 (.loop (s (s (r JR) (.cond (.t 7) .skip (.exit 0))) (s (.block 1 (s (r JS) (s (r JT) (s (r JU) (.cond (.t 19) (.bV Zw JV) .skip))))) (r xj)))))) (s (r JW) .ret))))
def Oy:List a7:=[.cell 2 (some 5)]
theorem Wh:bG Tryz.prog Tryz.f85 CP:=e (by kernel_rfl)
theorem Yt:bH Tryz.prog Tryz.f85 Oy:=e (by kernel_rfl)
theorem Um:bE Tryz.prog 85:=e (by kernel_rfl)
def JX:=[o 2 (.alloc (.agg [.int .i64 0,.int .i64 0,.int .i64 0,.int .i64 0,.int .i64 0,.int .i64 0]))]
def JY:=[o 3 (.alloc (.agg [.int .i64 0,.int .i64 0,.int .i64 0,.int .i64 0,.int .i64 0,.int .i64 0]))]
def JZ:=[a8 4 5]
def J0:=[m 5 4,o 6 (.bin .geq (.t 5) (ai 0))]
def J1:=[m 9 4,m 10 0,o 11 (.bin .rem (.t 10) (ai 5)),o 12 (.ia 6 1 (.t 3) (.t 9)),p (.br none (.t 12) (.t 11))]
def J2:=[m 13 0,o 14 (.bin .quo (.t 13) (ai 5)),m 0 14]
def J3:=[m 7 4,o 8 (.bin .sub (.t 7) (ai 1)),m 4 8]
def J4:=[az 15 6 3,p (.br (some 6) (.t 2) (.t 15))]
def CQ:aO:=(s (r JX) (s (r JY) (s (s (r JZ) (.block 0 (.loop (s (s (r J0) (.cond (.t 6) .skip (.exit 0))) (s (.block 1 (s (r J1) (r J2))) (r J3)))))) (s (r J4) .ret))))
def Oz:List a7:=[.cell 2 (some 6)]
theorem Wi:bG Tryz.prog Tryz.f86 CQ:=e (by kernel_rfl)
theorem Yu:bH Tryz.prog Tryz.f86 Oz:=e (by kernel_rfl)
theorem Un:bE Tryz.prog 86:=e (by kernel_rfl)
def J5:=[b 2 0,b 3 1,o 4 (.mv bp)]
def J6:=[a8 5 0]
def J7:=[m 6 5,f 7 2 6 2,l 8 7,o 9 (.len (.t 8)),lt 10 6 9]
def J8:=[f 13 0 0 2,az 14 5 13,f 15 2 6 2,l 16 15,m 17 5,o 18 (.is 7 (.t 16) (.t 17)),f 19 1 1 18,az 20 6 19,az 21 6 3,o 22 (.call 129 [.t 14,.t 20,.t 21]),f 23 1 5 2,l 24 23,o 25 (.bin .mul (ai 2) (.t 24)),o 26 (.bin .leq (.t 22) (.t 25))]
def Zx:=some [[],[0],[],[2],[],[3,4],[5],[6],[],[1,7,8],[],[10],[11],[9,12]]
def J9:=[o 4 (.mv T)]
def Ka:=[m 11 5,ad 12 11 1,m 5 12]
def Kb:=[o 4 (.mv bp)]
def CR:aO:=(s (r J5) (s (s (r J6) (.block 0 (.loop (s (s (r J7) (.cond (.t 10) .skip (.exit 0))) (s (.block 1 (s (.bV Zx J8) (.cond (.t 26) (s (r J9) .ret) .skip))) (r Ka)))))) (s (r Kb) .ret)))
def OA:List a7:=[.tmp 4]
theorem Wj:bG Tryz.prog Tryz.f87 CR:=e (by kernel_rfl)
theorem Yv:bH Tryz.prog Tryz.f87 OA:=e (by kernel_rfl)
theorem Uo:bE Tryz.prog 87:=e (by kernel_rfl)
def Kc:=[b 3 0,b 4 1,o 6 (.mv (.c (.nilp))),o 7 (.mv (.c (.nils 1)))]
def Kd:=[o 8 (.alloc (.nils 1)),o 9 (.mv (.c (.nils 1)))]
def Ki:=[l 15 3,m 16 2,o 17 (.call 105 [.t 15,.t 16])]
def ah0:=[m 10 18]
def ah1:=[l 19 3,m 20 10,o 21 (.is 17 (.t 19) (.t 20)),f 22 1 2 21,l 23 22,o 24 (.bin .neq (.t 23) (ai 0)),m 25 24,ev 26 3 25,cY 27 10 25,bR 28 (.is 17 (.t 26) (.t 27)) 25,dP 29 2 3 28 25,ev 30 29 25,ev 31 4 25,bR 32 (.bin .leq (.t 30) (.t 31)) 25,and 33 25 32]
def Zy:=some [[],[],[0,1],[2],[3],[4],[5],[6],[6],[7,8,6],[9,6],[10,6],[6],[11,12,6],[6,13]]
def ah2:=[l 34 8,m 35 10,o 36 (.bs 3 1 [.t 35]),o 37 (.dF 3 1 8 (.int .i64 0) (.t 34) (.t 36)),p (.br none (.t 8) (.t 37))]
def xl:=[l 38 8,o 39 (.mk 138 [.t 3]),o 40 (.call 137 [.t 38,.t 39])]
def xm:=[o 41 (.j9),o 42 (.bld [.raw (.map none)] [(0,(.t 41))]),b 43 42,m 11 43]
def xn:=[o 44 (.call 139 []),m 12 44]
def xp:=[l 45 8,o 46 (.len (.t 45)),a8 47 0]
def tl:=[lt 48 47 46]
def xk:=[o 49 (.is 1 (.t 45) (.t 47)),l 50 49,m 14 50]
def tm:=[m 51 12,l 52 3,m 53 14,o 54 (.is 17 (.t 52) (.t 53)),f 55 1 2 54,l 56 55,o 57 (.lk (.i .i64) (.dw) false (.t 51) (.t 56)),m 58 11,l 59 3,m 60 14,o 61 (.is 17 (.t 59) (.t 60)),az 62 17 61,o 63 (.eF (.t 57) [.t 58,.t 62]),no 64 63]
def DK:=some [[],[],[],[1,2],[3],[4],[0,5],[],[],[],[8,9],[10],[6,7,11],[12]]
def Ke:=[m 65 9,m 66 14,o 67 (.bs 3 1 [.t 66]),o 68 (.dF 3 1 8 (.int .i64 0) (.t 65) (.t 67)),m 9 68]
def Kf:=[ad 69 47 1,m 47 69]
def Kg:=[m 70 9,o 71 (.call 107 [.t 70])]
def Kh:=[m 72 11,m 73 9,m 6 72,m 7 73]
def CS:aO:=(s (r Kc) (s (r Kd) (s (s (r Ki) (.block 0 (.kd (.t 17) [18] (r ah0) (.block 1 (s (.bV Zy ah1) (.cond (.t 33) (r ah2) .skip)))))) (s (r xl) (s (r xm) (s (r xn) (s (s (r xp) (.block 2 (.loop (s (r tl) (s (.cond (.t 48) .skip (.exit 2)) (s (.block 3 (s (r xk) (s (.bV DK tm) (.cond (.t 64) (r Ke) .skip)))) (r Kf))))))) (s (r Kg) (s (r Kh) .ret)))))))))
def OB:List a7:=[.tmp 6,.tmp 7]
theorem Wk:bG Tryz.prog Tryz.f88 CS:=e (by kernel_rfl)
theorem Yw:bH Tryz.prog Tryz.f88 OB:=e (by kernel_rfl)
theorem Up:bE Tryz.prog 88:=e (by kernel_rfl)
def ah3:=[o 2 (.mv bp)]
def ah4:=[m 3 0,o 4 (.call 90 [.t 3]),no 5 4,m 2 5]
def CT:aO:=(s (r ah3) (s (r ah4) .ret))
def OC:List a7:=[.tmp 2]
theorem Wl:bG Tryz.prog Tryz.f89 CT:=e (by kernel_rfl)
theorem Yx:bH Tryz.prog Tryz.f89 OC:=e (by kernel_rfl)
theorem Uq:bE Tryz.prog 89:=e (by kernel_rfl)
def ah5:=[o 2 (.mv bp)]
def ah6:=[m 3 0,o 4 (.nilC (.t 3)),f 5 0 0 4,f 6 6 6 5,l 7 6,o 8 (.bin .geq (.t 7) (ai 0)),m 2 8]
def CU:aO:=(s (r ah5) (s (r ah6) .ret))
def OD:List a7:=[.tmp 2]
theorem Wm:bG Tryz.prog Tryz.f90 CU:=e (by kernel_rfl)
theorem Yy:bH Tryz.prog Tryz.f90 OD:=e (by kernel_rfl)
theorem Ur:bE Tryz.prog 90:=e (by kernel_rfl)
def ah7:=[o 4 (.mv bp)]
def ah8:=[m 5 0,o 6 (.call 90 [.t 5]),no 7 6,m 8 7,cY 9 0 8,bR 10 (.nilC (.t 9)) 8,dP 11 0 0 10 8,dP 12 3 3 11 8,ev 13 12 8,ev 14 1 8,bR 15 (.bin .eql (.t 13) (.t 14)) 8,and 16 8 15,m 17 16,cY 18 0 17,bR 19 (.nilC (.t 18)) 17,dP 20 0 0 19 17,dP 21 1 1 20 17,ev 22 21 17,ev 23 2 17,bR 24 (.bin .eql (.t 22) (.t 23)) 17,and 25 17 24,m 4 25]
def Zz:=some [[],[0],[1],[2,1],[3],[4,3],[5,3],[6,3],[7,3],[3],[8,9,3],[3,10],[11,3],[12],[13,12],[14,12],[15,12],[16,12],[12],[17,18,12],[12,19],[20,12,0,1,2,3,4,5,6,7,8,9,10,11,12,13,14,15,16,17,18,19,20]]
def CV:aO:=(s (r ah7) (s (.bV Zz ah8) .ret))
def OE:List a7:=[.tmp 4]
theorem Wn:bG Tryz.prog Tryz.f91 CV:=e (by kernel_rfl)
theorem Yz:bH Tryz.prog Tryz.f91 OE:=e (by kernel_rfl)
theorem Us:bE Tryz.prog 91:=e (by kernel_rfl)
def Kj:=[o 6 (.mv bp)]
def Kk:=[m 7 1,m 8 0,o 9 (.bin .leq (.t 7) (.t 8)),m 10 9,cY 11 0 10,cY 12 2 10,bR 13 (.bin .leq (.t 11) (.t 12)) 10,and 14 10 13,m 6 14]
def CW:aO:=(s (r Kj) (s (r Kk) .ret))
def OF:List a7:=[.tmp 6]
theorem Wo:bG Tryz.prog Tryz.f94 CW:=e (by kernel_rfl)
theorem YA:bH Tryz.prog Tryz.f94 OF:=e (by kernel_rfl)
theorem Ut:bE Tryz.prog 94:=e (by kernel_rfl)
def Kl:=[b 3 0,b 4 1,o 6 (.alloc (.agg [.int .i64 0,.int .i64 0,.int .i64 0,.int .i64 0,.int .i64 0,.int .i64 0])),a8 7 0]
def Km:=[az 11 5 3,o 12 (.call 99 [.t 11]),o 13 (.bin .neq (.t 12) (ai 0))]
def Kp:=[o 14 (.bld [.int .i64 0,.int .i64 0,.int .i64 0,.int .i64 0,.int .i64 0,.int .i64 0] []),p (.br (some 6) (.t 6) (.t 14)),a8 7 11]
def Kq:=[az 15 6 4,o 16 (.call 100 [.t 15]),o 17 (.bin .neq (.t 16) (ai 0))]
def Kr:=[o 18 (.bld [.int .i64 0,.int .i64 0,.int .i64 0,.int .i64 0,.int .i64 0,.int .i64 0] []),p (.br (some 6) (.t 6) (.t 18)),a8 7 10]
def Ks:=[o 8 (.alloc (.agg [.int .i64 0,.int .i64 0,.int .i64 0,.int .i64 0,.int .i64 0,.int .i64 0]))]
def Kt:=[a8 9 0]
def Ku:=[m 19 9,o 20 (.bin .lss (.t 19) (ai 6))]
def Kv:=[m 23 9,o 24 (.ia 6 1 (.t 4) (.t 23)),l 25 24,o 26 (.ia 5 1 (.t 3) (.t 25)),l 27 26,o 28 (.call 141 [.t 27]),m 10 28]
def Kx:=[m 29 9,m 30 10,m 31 2,m 32 9,o 33 (.call 34 [.t 31,.t 32]),m 34 10,o 35 (.len (.t 34)),o 36 (.call 25 [.t 33,.t 35]),o 37 (.is 1 (.t 30) (.t 36)),l 38 37,o 39 (.bin .shl (ai 1) (.t 38)),o 40 (.ia 6 1 (.t 8) (.t 29)),p (.br none (.t 40) (.t 39))]
def Kn:=[m 21 9,ad 22 21 1,m 9 22]
def Ko:=[az 41 6 8,p (.br (some 6) (.t 6) (.t 41)),a8 7 0]
def CX:aO:=(s (r Kl) (s (s (r Km) (.cond (.t 13) (s (r Kp) .ret) .skip)) (s (s (r Kq) (.cond (.t 17) (s (r Kr) .ret) .skip)) (s (r Ks) (s (s (r Kt) (.block 0 (.loop (s (s (r Ku) (.cond (.t 20) .skip (.exit 0))) (s (.block 1 (s (r Kv) (r Kx))) (r Kn)))))) (s (r Ko) .ret))))))
def OG:List a7:=[.cell 6 (some 6),.tmp 7]
theorem Wp:bG Tryz.prog Tryz.f98 CX:=e (by kernel_rfl)
theorem YB:bH Tryz.prog Tryz.f98 OG:=e (by kernel_rfl)
theorem Uu:bE Tryz.prog 98:=e (by kernel_rfl)
def Ky:=[b 1 0,a8 2 0]
def Kz:=[a8 3 0]
def KA:=[m 4 3,o 5 (.bin .lss (.t 4) (ai 5))]
def KB:=[m 8 3,o 9 (.ia 5 1 (.t 1) (.t 8)),l 10 9,o 11 (.call 94 [.t 10,(ai 0),(ai 31)]),no 12 11,m 13 12,fy 14 3 13,on 15 (.ia 5 1 (.t 1) (.t 14)) 13,iq 16 15 13,fy 17 3 13,on 18 (.bin .shl (ai 1) (.t 17)) 13,on 19 (.bin .and (.t 16) (.t 18)) 13,on 20 (.bin .eql (.t 19) (ai 0)) 13,or 21 13 20]
def ZA:=some [[],[0],[1],[2],[3],[4,3],[5],[6,5],[7,5],[5],[9,5],[8,10,5],[11,5],[5,12]]
def xq:=[a8 2 11]
def KC:=[m 6 3,ad 7 6 1,m 3 7]
def KD:=[a8 2 0]
def CY:aO:=(s (r Ky) (s (s (r Kz) (.block 0 (.loop (s (s (r KA) (.cond (.t 5) .skip (.exit 0))) (s (.block 1 (s (.bV ZA KB) (.cond (.t 21) (s (r xq) .ret) .skip))) (r KC)))))) (s (r KD) .ret)))
def OH:List a7:=[.tmp 2]
theorem Wq:bG Tryz.prog Tryz.f99 CY:=e (by kernel_rfl)
theorem YC:bH Tryz.prog Tryz.f99 OH:=e (by kernel_rfl)
theorem Uv:bE Tryz.prog 99:=e (by kernel_rfl)
def EM:=[b 1 0,a8 2 0]
def EN:=[a8 3 0]
def EO:=[m 4 3,o 5 (.bin .lss (.t 4) (ai 6))]
def EP:=[m 8 3,o 9 (.ia 6 1 (.t 1) (.t 8)),l 10 9,o 11 (.call 94 [.t 10,(ai 0),(ai 4)]),no 12 11]
def ER:=[a8 2 10]
def ES:=[m 6 3,ad 7 6 1,m 3 7]
def ET:=[a8 2 0]
def A8:aO:=(s (r EM) (s (s (r EN) (.block 0 (.loop (s (s (r EO) (.cond (.t 5) .skip (.exit 0))) (s (.block 1 (s (r EP) (.cond (.t 12) (s (r ER) .ret) .skip))) (r ES)))))) (s (r ET) .ret)))
def MJ:List a7:=[.tmp 2]
theorem UB:bG Tryz.prog Tryz.f100 A8:=e (by kernel_rfl)
theorem WL:bH Tryz.prog Tryz.f100 MJ:=e (by kernel_rfl)
theorem SG:bE Tryz.prog 100:=e (by kernel_rfl)
def EU:=[b 3 0,b 4 1,b 5 2,a8 6 0]
def EV:=[a8 7 0]
def EW:=[a8 8 0]
def EX:=[m 9 8,o 10 (.bin .lss (.t 9) (ai 6))]
def EY:=[m 13 8,o 14 (.ia 6 1 (.t 4) (.t 13)),l 15 14,o 16 (.ia 5 1 (.t 3) (.t 15)),l 17 16,m 18 8,o 19 (.ia 6 1 (.t 5) (.t 18)),l 20 19,o 21 (.bin .and (.t 17) (.t 20)),o 22 (.bin .eql (.t 21) (ai 0))]
def YF:=some [[],[0],[1],[2],[3],[],[5],[6],[4,7],[8]]
def EZ:=[m 23 7,ad 24 23 1,m 7 24]
def wy:=[m 11 8,ad 12 11 1,m 8 12]
def E0:=[m 25 7,m 6 25]
def A9:aO:=(s (r EU) (s (r EV) (s (s (r EW) (.block 0 (.loop (s (s (r EX) (.cond (.t 10) .skip (.exit 0))) (s (.block 1 (s (.bV YF EY) (.cond (.t 22) (r EZ) .skip))) (r wy)))))) (s (r E0) .ret))))
def MK:List a7:=[.tmp 6]
theorem UC:bG Tryz.prog Tryz.f102 A9:=e (by kernel_rfl)
theorem WM:bH Tryz.prog Tryz.f102 MK:=e (by kernel_rfl)
theorem SH:bE Tryz.prog 102:=e (by kernel_rfl)
def aaK:=[b 3 1,a8 4 0,o 5 (.mv bp)]
def aaL:=[m 6 0,az 7 2 3,o 8 (.call 142 [.t 6,.t 7,(.c (.func 143 []))]),o 9 (.ext (.t 8) 0),o 10 (.ext (.t 8) 1),m 4 9,m 5 10]
def Ba:aO:=(s (r aaK) (s (r aaL) .ret))
def ML:List a7:=[.tmp 4,.tmp 5]
theorem UD:bG Tryz.prog Tryz.f103 Ba:=e (by kernel_rfl)
theorem WN:bH Tryz.prog Tryz.f103 ML:=e (by kernel_rfl)
theorem SI:bE Tryz.prog 103:=e (by kernel_rfl)
def E4:=[b 2 0,b 3 1,o 4 (.mv (.c (.dw)))]
def E5:=[o 9 (.j9),o 5 (.alloc (.raw (.map none))),p (.br none (.t 5) (.t 9))]
def E6:=[l 10 2,o 11 (.len (.t 10)),o 12 (.kB 4 1 (.bool false) (.t 11)),o 6 (.alloc (.nils 1)),p (.br none (.t 6) (.t 12))]
def E7:=[l 13 2,o 14 (.call 145 [.t 13])]
def aaM:=[m 7 15]
def aaN:=[o 8 (.alloc (.agg [.agg [.int .i64 0,.int .i64 0],.int .i64 0,.int .i64 0,.int .i64 0,.int .i64 0,.int .i64 0,.int .i64 0,.int .i64 0,.agg [.int .i64 0,.int .i64 0,.int .i64 0,.int .i64 0,.int .i64 0,.int .i64 0],.agg [.int .i64 0,.int .i64 0]])),p (.br (some 17) (.t 8) (.t 16))]
def aaO:=[l 17 6,m 18 7,f 19 3 4 8,l 20 19,l 21 3,o 22 (.bin .leq (.t 20) (.t 21)),m 23 22,ev 24 5 23,dP 25 0 0 8 23,bR 26 (.ld (some 2) (.t 25)) 23,bR 27 (.lk (.br [(.i .i64),(.i .i64)]) (.bool false) false (.t 24) (.t 26)) 23,bR 28 (.un .not (.t 27)) 23,and 29 23 28,o 30 (.is 1 (.t 17) (.t 18)),p (.br none (.t 30) (.t 29))]
def YG:=some [[],[],[],[2],[],[3,4],[5],[6],[6],[8,6],[7,9,6],[10,6],[6,11],[0,1,0,1,2,3,4,5,6,7,8,9,10,11,12],[13,12,6,0,1,2,3,4,5,6,7,8,9,10,11,12]]
def aaP:=[l 31 6,m 32 7,o 33 (.is 1 (.t 31) (.t 32)),l 34 33,m 35 34,dP 36 1 2 8 35,ev 37 36 35,bR 38 (.bin .eql (.t 37) (ai 0)) 35,and 39 35 38]
def aaQ:=[l 40 5,f 41 9 15 8,az 42 2 41,p (.gY (.br [(.i .i64),(.i .i64)]) (.t 40) (.t 42) T)]
def aaR:=[o 43 (.mk 146 [.t 2,.t 6]),m 4 43]
def Bb:aO:=(s (r E4) (s (r E5) (s (r E6) (s (s (r E7) (.block 0 (.kd (.t 14) [15,16] (s (r aaM) (r aaN)) (.block 1 (s (.bV YG aaO) (s (r aaP) (.cond (.t 39) (r aaQ) .skip))))))) (s (r aaR) .ret)))))
def MN:List a7:=[.tmp 4]
theorem UE:bG Tryz.prog Tryz.f105 Bb:=e (by kernel_rfl)
theorem WO:bH Tryz.prog Tryz.f105 MN:=e (by kernel_rfl)
theorem SJ:bE Tryz.prog 105:=e (by kernel_rfl)
theorem CZ:bE Tryz.prog 107:=e (by kernel_rfl)
end Go.Proofs.YtcldiigclhgafaaGreat
namespace Go.Abs
open Go Go.RowKit
def sR(on:List (List Nat)):List Nat:=on.foldl (fun acc ks=>acc++[pw acc ks]) []
def vV(d:Option (List (List Nat)))(gs:List aB):Bool:=match d with
 |none=>true
 |some on=>sU on gs (sR on)
section
variable {c:cU} {Q:Exit→ae→Prop} {A:ae} {d:Option (List (List Nat))} {on:List (List Nat)} {gs:List aB}
theorem J.bx(hd:vV d gs=true)(h:∀ K:ae→Prop,(∀ B,Q .normal B→K B)→bt c.P c.Y d.isSome K (aE gs A)):J c (.bV d gs) Q A:=by
 cases d with
 |none=>exact J.bV (cl:=[]) rfl h
 |some on=>exact J.bV (cl:=sR on) hd h
theorem J.ao{y:aO}(hd:vV d gs=true)(h:∀ K:ae→Prop,(∀ B,J c y Q B→K B)→bt c.P c.Y d.isSome K (aE gs A)):J c (.seq (.bV d gs) y) Q A :=
 J.seq (J.bx hd h)
theorem J.rV(hs:List FuncId)(az:fe)(σ:List Nat)(hd:uj hs az on gs (sR on) σ=true)(hi:fc az A)(h:∀ K:ae→Prop,(∀ B,Q .normal B→K B)→cG c.P hs K (aE (oZ σ gs) A)):J c (.bV (some on) gs) Q A :=
 J.al6 hs az (sR on) σ hd hi h
def gO(c:cU):aO→(Exit→ae→Prop)→ae→Prop
 | .seq x y,Q,A=>gO c x (ar (fun B=>J c y Q B) Q) A
 | .block id x,Q,A=>gO c x (bO id Q) A
 | .skip,Q,A=>Q .normal A
 | .exit id,Q,A=>Q (.exit id) A
 | .ret,Q,A=>Q .ret A
 | .cond b x y,Q,A=>ak (ab A b) (J c x Q A) (J c y Q A)
 |x,Q,A=>J c x Q A
def ajk:aO→Bool
 | .seq _ _ | .block _ _ | .skip | .exit _ | .ret | .cond _ _ _=>true
 |_=>false
theorem gO.vq:∀ (x:aO) {Q:Exit→ae→Prop} {A:ae},gO c x Q A→J c x Q A
 | .seq x y,_,_,h=>J.seq (gO.vq x h)
 | .block id x,_,_,h=>J.block (gO.vq x h)
 | .skip,_,_,h=>J.skip h
 | .exit _,_,_,h=>J.exit h
 | .ret,_,_,h=>J.ret h
 | .cond _ _ _,_,_,h=>J.bM h
 | .bV _ _,_,_,h | .loop _,_,_,h | .scope _,_,_,h | .label,_,_,h | .lJ,_,_,h | .kd _ _ _ _,_,_,h=>h
theorem J.of{x:aO}(_:ajk x=true)(h:gO c x Q A):J c x Q A:=gO.vq x h
theorem aM :
  (∀ c x y Q A,gO c (.seq x y) Q A=gO c x (ar (fun B=>J c y Q B) Q) A)∧(∀ c id x Q A,gO c (.block id x) Q A=gO c x (bO id Q) A)∧(∀ c Q A,gO c .skip Q A=Q .normal A)∧(∀ c id Q A,gO c (.exit id) Q A=Q (.exit id) A)∧(∀ c Q A,gO c .ret Q A=Q .ret A) ∧
  (∀ c b x y Q A,gO c (.cond b x y) Q A=ak (ab A b) (J c x Q A) (J c y Q A))∧(∀ c d gs Q A,gO c (.bV d gs) Q A=J c (.bV d gs) Q A)∧(∀ c x Q A,gO c (.loop x) Q A=J c (.loop x) Q A)∧(∀ c f ps x y Q A,gO c (.kd f ps x y) Q A=J c (.kd f ps x y) Q A) ∧
  (∀ k Q A,ar k Q .normal A=k A)∧(∀ k Q A,ar k Q .ret A=Q .ret A)∧(∀ k Q A i,ar k Q (.exit i) A=Q (.exit i) A)∧(∀ i Q A,bO i Q .normal A=Q .normal A)∧(∀ i Q A,bO i Q .ret A=Q .ret A)∧(∀ i Q A j,bO i Q (.exit j) A=if j=i then Q .normal A else Q (.exit j) A) ∧
  (∀ p q,ak (.bool true) p q=p)∧(∀ p q,ak (.bool false) p q=q)∧(type_of% @xY) :=
 ⟨fun _ _ _ _ _=>rfl,fun _ _ _ _ _=>rfl,fun _ _ _=>rfl,fun _ _ _ _=>rfl,fun _ _ _=>rfl,fun _ _ _ _ _ _=>rfl,fun _ _ _ _ _=>rfl,fun _ _ _ _=>rfl,fun _ _ _ _ _ _ _=>rfl,fun _ _ _=>rfl,fun _ _ _=>rfl,fun _ _ _ _=>rfl,fun _ _ _=>rfl,fun _ _ _=>rfl,fun _ _ _ _=>rfl,
  fun p q=>by simp[ak],fun p q=>by simp[ak],xY⟩
theorem ak.aK{t:Bool}{p q:Prop}(h1:t=true→p)(h2:t=false→q):ak (.bool t) p q:=⟨h1,h2⟩
theorem J.aL{g:aB}{r:List aB}(hd:vV d gs=true)(e:gs=g::r)(h:∀ K:ae→Prop,(∀ B,Q .normal B→K B)→bt c.P c.Y d.isSome K (aE (g::r) A)):J c (.bV d gs) Q A :=
 J.bx hd (e▸h)
theorem bt.aG(az:List Nat){P:Program}{Y:Value→List I→List (Nat×ah)→cO→Prop}{dr:Bool}{x:aO}{K:ae→Prop}{ts:List (Nat×I)}{os:List (Nat×ah)}(hK:∀ B,J c x Q B→K B)(h:J c x Q (au (im az ts) os)):bt P Y dr K (.done (au ts os)) :=
 .done (hK _ (J.fX az h))
theorem cG.aG(az:List Nat){P:Program}{hs:List FuncId}{x:aO}{K:ae→Prop}{ts:List (Nat×I)}{os:List (Nat×ah)}(hK:∀ B,J c x Q B→K B)(h:J c x Q (au (im az ts) os)):cG P hs K (.done (au ts os)) :=
 .done (hK _ (J.fX az h))
end
end Go.Abs
namespace Go.Proofs.YtcldiigclhgafaaGreat
open Go Go.Abs Go.Abs.C
def aaS:=[o 2 (.mv (.c (.nils 1)))]
def aaT:=[m 6 0,o 7 (.len (.t 6)),o 8 (.bin .lss (.t 7) (ai 2))]
def aaZ:=[m 9 0,m 2 9]
def aa0:=[a8 3 1]
def aa1:=[m 10 3,m 11 0,o 12 (.len (.t 11)),lt 13 10 12]
def aa2:=[m 16 0,m 17 3,o 18 (.is 1 (.t 16) (.t 17)),l 19 18,m 20 0,m 21 3,o 22 (.bin .sub (.t 21) (ai 1)),o 23 (.is 1 (.t 20) (.t 22)),l 24 23,o 25 (.bin .eql (.t 19) (.t 24))]
def YH:=some [[],[],[0,1],[2],[],[],[5],[4,6],[7],[3,8]]
def aa3:=[m 26 0,m 27 3,o 28 (.sl 1 (.t 26) (some (.t 27)) none none),m 4 28]
def aa4:=[a8 5 1]
def Fa:=[m 29 5,m 30 4,o 31 (.len (.t 30)),lt 32 29 31]
def aa5:=[m 35 4,m 36 5,o 37 (.is 1 (.t 35) (.t 36)),l 38 37,m 39 4,m 40 5,o 41 (.bin .sub (.t 40) (ai 1)),o 42 (.is 1 (.t 39) (.t 41)),l 43 42,o 44 (.bin .neq (.t 38) (.t 43))]
def YI:=some [[],[],[0,1],[2],[],[],[5],[4,6],[7],[3,8]]
def aaU:=[m 45 0,m 46 3,m 47 4,m 48 5,o 49 (.is 1 (.t 47) (.t 48)),l 50 49,o 51 (.is 1 (.t 45) (.t 46)),p (.br none (.t 51) (.t 50))]
def aaV:=[m 52 3,ad 53 52 1,m 3 53]
def aaW:=[m 33 5,ad 34 33 1,m 5 34]
def E8:=[m 54 0,m 55 3,o 56 (.sl 1 (.t 54) (some (.t 55)) none none),p (.iQ 1 (.int .i64 0) (.t 56))]
def E9:=[m 57 0,m 58 3,o 59 (.sl 1 (.t 57) none (some (.t 58)) none),m 2 59]
def aaX:=[m 14 3,ad 15 14 1,m 3 15]
def aaY:=[m 60 0,m 2 60]
def vv:aO:=(s (r aaS) (s (s (r aaT) (.cond (.t 8) (s (r aaZ) .ret) .skip)) (s (s (r aa0) (.block 0 (.loop (s (s (r aa1) (.cond (.t 13) .skip (.exit 0))) (s (.block 1 (s (.bV YH aa2) (.cond (.t 25) (s (r aa3) (s (s (r aa4) (.block 2 (.loop (s (s (r Fa) (.cond (.t 32) .skip (.exit 2))) (s (.block 3 (s (.bV YI aa5) (.cond (.t 44) (s (r aaU) (r aaV)) .skip))) (r aaW)))))) (s (r E8) (s (r E9) .ret)))) .skip))) (r aaX)))))) (s (r aaY) .ret))))
def yY:List a7:=[.tmp 2]
theorem Dd:bG Tryz.prog Tryz.f108 vv:=e (by kernel_rfl)
theorem DA:bH Tryz.prog Tryz.f108 yY:=e (by kernel_rfl)
theorem C0:bE Tryz.prog 108:=e (by kernel_rfl)
def Fb:=[b 3 0,b 4 1,b 5 2,o 6 (.mv (.c (.nils 1)))]
def Fc:=[o 7 (.mv (.c (.func 149 [])))]
def wz:=[l 9 4,m 10 7,o 11 (.call 72 [.t 9,.t 10]),l 12 5,m 13 7,o 14 (.call 72 [.t 12,.t 13]),o 15 (.bs 29 1 [.t 11,.t 14]),o 16 (.call 150 [.t 15]),m 8 16]
def YJ:=some [[],[],[0,1],[],[],[3,4,2],[2,5],[6,5],[7,7,0,1,2,3,4,5,6,7]]
def Fe:=[m 17 8,o 18 (.call 107 [.t 17])]
def Ff:=[m 19 8,o 20 (.call 108 [.t 19]),o 21 (.mk 152 [.t 3,.t 4,.t 5]),o 22 (.call 151 [.t 20,.t 21]),m 6 22]
def Bc:aO:=(s (r Fb) (s (r Fc) (s (.bV YJ wz) (s (r Fe) (s (r Ff) .ret)))))
def MO:List a7:=[.tmp 6]
theorem UF:bG Tryz.prog Tryz.f109 Bc:=e (by kernel_rfl)
theorem WQ:bH Tryz.prog Tryz.f109 MO:=e (by kernel_rfl)
theorem SK:bE Tryz.prog 109:=e (by kernel_rfl)
def Fg:=[o 6 (.mv bp)]
def Fh:=[m 7 1,m 8 0,o 9 (.bin .leq (.t 7) (.t 8)),m 10 9,cY 11 0 10,cY 12 2 10,bR 13 (.bin .leq (.t 11) (.t 12)) 10,and 14 10 13,m 6 14]
def Bd:aO:=(s (r Fg) (s (r Fh) .ret))
def MP:List a7:=[.tmp 6]
theorem UG:bG Tryz.prog Tryz.f114 Bd:=e (by kernel_rfl)
theorem WR:bH Tryz.prog Tryz.f114 MP:=e (by kernel_rfl)
theorem SL:bE Tryz.prog 114:=e (by kernel_rfl)
def Fi:=[b 1 0,o 2 (.mv bp)]
def Fj:=[f 3 0 0 1,l 4 3,o 5 (.call 114 [.t 4,(ai 0),(ai 5)]),m 6 5,dP 7 1 1 1 6,ev 8 7 6,bR 9 (.call 114 [.t 8,(ai 0),(ai 9999)]) 6,and 10 6 9,m 2 10]
def Be:aO:=(s (r Fi) (s (r Fj) .ret))
def MQ:List a7:=[.tmp 2]
theorem UH:bG Tryz.prog Tryz.f115 Be:=e (by kernel_rfl)
theorem WS:bH Tryz.prog Tryz.f115 MQ:=e (by kernel_rfl)
theorem SM:bE Tryz.prog 115:=e (by kernel_rfl)
def Fk:=[b 1 0,o 2 (.mv bp)]
def Fl:=[f 5 0 0 1,az 6 2 5,f 7 1 2 1,l 8 7,f 9 2 3 1,l 10 9,f 11 3 4 1,l 12 11,f 13 4 5 1,l 14 13,o 15 (.bld [.agg [.int .i64 0,.int .i64 0],.int .i64 0,.int .i64 0,.int .i64 0,.int .i64 0,.int .i64 0,.int .i64 0,.int .i64 0,.agg [.int .i64 0,.int .i64 0,.int .i64 0,.int .i64 0,.int .i64 0,.int .i64 0],.agg [.int .i64 0,.int .i64 0]] [(0,(.t 6)),(1,(.t 8)),(2,(.t 10)),(3,(.t 12)),(4,(.t 14))]),o 3 (.alloc (.agg [.agg [.int .i64 0,.int .i64 0],.int .i64 0,.int .i64 0,.int .i64 0,.int .i64 0,.int .i64 0,.int .i64 0,.int .i64 0,.agg [.int .i64 0,.int .i64 0,.int .i64 0,.int .i64 0,.int .i64 0,.int .i64 0],.agg [.int .i64 0,.int .i64 0]])),p (.br (some 17) (.t 3) (.t 15))]
def Fm:=[f 16 4 5 1,l 17 16,o 18 (.call 154 [.t 17]),m 4 18]
def abC:=[f 19 1 2 1,l 20 19]
def abD:=[o 22 (.bin .eql (.t 20) (ai 0)),m 21 22]
def wA:=[f 23 9 15 1,az 24 2 23,f 25 4 5 3,p (.br none (.t 25) (ai 0)),f 26 9 15 3,p (.br (some 2) (.t 26) (.t 24))]
def YM:=some [[],[0],[],[2],[0,1,2,3],[4,1,3,0,1,2,3]] -- DRAW BAD
def abE:=[f 27 2 3 1,l 28 27,o 29 (.bin .eql (.t 28) (ai 0)),m 30 29,dP 31 9 15 1 30,bR 32 (.ld (some 2) (.t 31)) 30,bR 33 (.call 115 [.t 32]) 30,and 34 30 33,m 35 34,dP 36 9 15 1 35,dP 37 0 0 36 35,ev 38 37 35,dP 39 0 0 1 35,dP 40 0 0 39 35,ev 41 40 35,bR 42 (.bin .eql (.t 38) (.t 41)) 35,and 43 35 42,m 44 43,dP 45 9 15 1 44,dP 46 1 1 45 44,ev 47 46 44,dP 48 0 0 1 44,dP 49 1 1 48 44,ev 50 49 44,bR 51 (.bin .lss (.t 47) (.t 50)) 44,and 52 44 51,m 4 52]
def abF:=[o 54 (.bin .eql (.t 20) (ai 1)),m 53 54]
def wB:=[f 55 6 7 1,l 56 55,f 57 7 8 1,l 58 57,f 59 5 6 1,l 60 59,f 61 6 7 3,p (.br none (.t 61) (.t 56)),f 62 7 8 3,p (.br none (.t 62) (.t 58)),f 63 5 6 3,p (.br none (.t 63) (.t 60))]
def YN:=some [[],[0],[],[2],[],[4],[0,1],[6,1,0,1],[0,1,2,3,6,7],[8,3,7,0,1,2,3,6,7],[0,1,2,3,4,5,6,7,8,9],[10,5,9,0,1,2,3,4,5,6,7,8,9]] -- DRAW BAD
def abG:=[m 64 4,m 65 64,dP 66 6 7 1 65,ev 67 66 65,bR 68 (.call 155 [.t 67]) 65,and 69 65 68,m 70 69,dP 71 7 8 1 70,ev 72 71 70,bR 73 (.call 156 [.t 72]) 70,and 74 70 73,m 75 74,dP 76 5 6 1 75,ev 77 76 75,bR 78 (.call 114 [.t 77,(ai 0),(ai 9999)]) 75,and 79 75 78,m 80 79,dP 81 5 6 1 80,ev 82 81 80,dP 83 4 5 1 80,ev 84 83 80,bR 85 (.bin .neq (.t 82) (.t 84)) 80,and 86 80 85,m 4 86]
def abo:=[o 88 (.bin .eql (.t 20) (ai 2)),m 87 88]
def abp:=[f 89 6 7 1,l 90 89,f 91 6 7 3,p (.br none (.t 91) (.t 90))]
def abq:=[m 92 4,m 93 92,dP 94 6 7 1 93,ev 95 94 93,bR 96 (.call 155 [.t 95]) 93,and 97 93 96,m 4 97]
def abr:=[o 99 (.bin .eql (.t 20) (ai 3)),m 98 99]
def abt:=[o 100 (.bin .eql (.t 20) (ai 5)),m 98 100]
def abu:=[f 101 7 8 1,l 102 101,f 103 7 8 3,p (.br none (.t 103) (.t 102))]
def abv:=[m 104 4,m 105 104,dP 106 7 8 1 105,ev 107 106 105,bR 108 (.call 156 [.t 107]) 105,and 109 105 108,m 4 109]
def abw:=[o 111 (.bin .eql (.t 20) (ai 4)),m 110 111]
def abx:=[f 112 8 9 1,az 113 6 112,f 114 8 9 3,p (.br (some 6) (.t 114) (.t 113))]
def aby:=[m 115 4,m 116 115,dP 117 8 9 1 116,bR 118 (.ld (some 6) (.t 117)) 116,bR 119 (.call 157 [.t 118]) 116,bR 120 (.bin .eql (.t 119) (ai 0)) 116,and 121 116 120,m 4 121]
def abz:=[o 123 (.bin .eql (.t 20) (ai 6)),m 122 123]
def abA:=[o 2 (.mv bp)]
def abB:=[m 124 4,m 125 124,bR 126 (.ld (some 17) (.t 1)) 125,bR 127 (.ld (some 17) (.t 3)) 125,bR 128 (.eqv (.br [(.br [(.i .i64),(.i .i64)]),(.i .i64),(.i .i64),(.i .i64),(.i .i64),(.i .i64),(.i .i64),(.i .i64),(.kO 6 (.i .i64)),(.br [(.i .i64),(.i .i64)])]) false (.t 126) (.t 127)) 125,and 129 125 128,m 130 129,dP 131 0 0 1 130,bR 132 (.ld (some 2) (.t 131)) 130,bR 133 (.call 115 [.t 132]) 130,and 134 130 133,m 135 134,dP 136 2 3 1 135,ev 137 136 135,bR 138 (.call 127 [.t 137]) 135,and 139 135 138,m 140 139,dP 141 3 4 1 140,ev 142 141 140,bR 143 (.call 127 [.t 142]) 140,and 144 140 143,m 2 144]
def Bf:aO:=(s (r Fk) (s (r Fl) (s (r Fm) (s (s (r abC) (.block 0 (s (r abD) (.cond (.t 21) (s (.bV YM wA) (r abE)) (s (r abF) (.cond (.t 53) (s (.bV YN wB) (r abG)) (s (r abo) (.cond (.t 87) (s (r abp) (r abq)) (s (s (r abr) (.cond (.t 98) .skip (r abt))) (.cond (.t 98) (s (r abu) (r abv)) (s (r abw) (.cond (.t 110) (s (r abx) (r aby)) (s (r abz) (.cond (.t 122) .skip (s (r abA) .ret))))))))))))))) (s (r abB) .ret)))))
def MR:List a7:=[.tmp 2]
theorem UI:bG Tryz.prog Tryz.f117 Bf:=e (by kernel_rfl)
theorem WT:bH Tryz.prog Tryz.f117 MR:=e (by kernel_rfl)
theorem SN:bE Tryz.prog 117:=e (by kernel_rfl)
def Fo:=[b 2 0,b 3 1,a8 4 0]
def Fp:=[f 5 0 0 2,l 6 5,f 7 0 0 3,l 8 7,o 9 (.call 159 [.t 6,.t 8]),f 10 1 1 2,l 11 10,f 12 1 1 3,l 13 12,o 14 (.call 159 [.t 11,.t 13]),o 15 (.bs 3 1 [.t 9,.t 14]),o 16 (.call 158 [.t 15]),m 4 16]
def YO:=some [[],[0],[],[2],[1,3],[],[5],[],[7],[6,8,4],[4,9],[10,9],[11,11,0,1,2,3,4,5,6,7,8,9,10,11]]
def Bg:aO:=(s (r Fo) (s (.bV YO Fp) .ret))
def MS:List a7:=[.tmp 4]
theorem UJ:bG Tryz.prog Tryz.f118 Bg:=e (by kernel_rfl)
theorem WU:bH Tryz.prog Tryz.f118 MS:=e (by kernel_rfl)
theorem SO:bE Tryz.prog 118:=e (by kernel_rfl)
def Fq:=[b 1 0,o 2 (.mv bp)]
def Fs:=[az 6 5 1,a8 7 0]
def Ft:=[o 8 (.bin .lss (.t 7) (ai 5))]
def Fu:=[m 9 7,o 10 (.ix 5 1 none (.t 6) (.t 7)),m 3 9,m 4 10]
def Fv:=[m 11 4,m 5 11]
def Fw:=[m 12 5,o 13 (.call 160 [.t 12]),no 14 13,m 15 14,fy 16 5 15,fy 17 3 15,on 18 (.call 161 [.t 16,.t 17]) 15,on 19 (.un .not (.t 18)) 15,or 20 15 19]
def wC:=[o 2 (.mv bp)]
def Fx:=[ad 21 7 1,m 7 21]
def Fy:=[o 2 (.mv T)]
def Bh:aO:=(s (r Fq) (s (s (r Fs) (.block 0 (.loop (s (r Ft) (s (.cond (.t 8) .skip (.exit 0)) (s (.block 1 (s (r Fu) (s (r Fv) (s (r Fw) (.cond (.t 20) (s (r wC) .ret) .skip))))) (r Fx))))))) (s (r Fy) .ret)))
def MT:List a7:=[.tmp 2]
theorem UK:bG Tryz.prog Tryz.f120 Bh:=e (by kernel_rfl)
theorem WV:bH Tryz.prog Tryz.f120 MT:=e (by kernel_rfl)
theorem SP:bE Tryz.prog 120:=e (by kernel_rfl)
def Fz:=[o 6 (.mv bp)]
def FA:=[m 7 1,m 8 0,o 9 (.bin .leq (.t 7) (.t 8)),m 10 9,cY 11 0 10,cY 12 2 10,bR 13 (.bin .leq (.t 11) (.t 12)) 10,and 14 10 13,m 6 14]
def Bi:aO:=(s (r Fz) (s (r FA) .ret))
def MU:List a7:=[.tmp 6]
theorem UL:bG Tryz.prog Tryz.f121 Bi:=e (by kernel_rfl)
theorem WW:bH Tryz.prog Tryz.f121 MU:=e (by kernel_rfl)
theorem SQ:bE Tryz.prog 121:=e (by kernel_rfl)
def FB:=[o 2 (.mv bp)]
def FC:=[m 3 0,o 4 (.call 121 [.t 3,(ai 1),(ai 99)]),m 2 4]
def Bj:aO:=(s (r FB) (s (r FC) .ret))
def MV:List a7:=[.tmp 2]
theorem UM:bG Tryz.prog Tryz.f122 Bj:=e (by kernel_rfl)
theorem WX:bH Tryz.prog Tryz.f122 MV:=e (by kernel_rfl)
theorem SR:bE Tryz.prog 122:=e (by kernel_rfl)
def FD:=[b 1 0,o 2 (.mv bp)]
def FE:=[o 3 (.va 6 1 (.t 1)),o 4 (.call 125 [.t 3,(.c (.func 162 []))]),no 5 4,m 2 5]
def Bk:aO:=(s (r FD) (s (r FE) .ret))
def MW:List a7:=[.tmp 2]
theorem UN:bG Tryz.prog Tryz.f123 Bk:=e (by kernel_rfl)
theorem WY:bH Tryz.prog Tryz.f123 MW:=e (by kernel_rfl)
theorem SS:bE Tryz.prog 123:=e (by kernel_rfl)
def FF:=[b 3 0,b 5 2,o 6 (.mv bp)]
def FG:=[m 7 1,o 8 (.mk 164 [.t 3,.t 5]),o 9 (.call 163 [.t 7,.t 8]),no 10 9,m 6 10]
def Bl:aO:=(s (r FF) (s (r FG) .ret))
def MX:List a7:=[.tmp 6]
theorem UO:bG Tryz.prog Tryz.f124 Bl:=e (by kernel_rfl)
theorem WZ:bH Tryz.prog Tryz.f124 MX:=e (by kernel_rfl)
theorem SU:bE Tryz.prog 124:=e (by kernel_rfl)
def FH:=[o 4 (.mv bp)]
def FI:=[m 5 0,m 6 1,o 7 (.call 166 [.t 5,.t 6]),o 8 (.bin .geq (.t 7) (ai 0)),m 4 8]
def Bm:aO:=(s (r FH) (s (r FI) .ret))
def MY:List a7:=[.tmp 4]
theorem UP:bG Tryz.prog Tryz.f125 Bm:=e (by kernel_rfl)
theorem W2:bH Tryz.prog Tryz.f125 MY:=e (by kernel_rfl)
theorem SV:bE Tryz.prog 125:=e (by kernel_rfl)
def abH:=[o 2 (.mv bp)]
def abI:=[m 3 0,o 4 (.call 127 [.t 3]),no 5 4,m 2 5]
def Bn:aO:=(s (r abH) (s (r abI) .ret))
def MZ:List a7:=[.tmp 2]
theorem UQ:bG Tryz.prog Tryz.f126 Bn:=e (by kernel_rfl)
theorem W3:bH Tryz.prog Tryz.f126 MZ:=e (by kernel_rfl)
theorem SW:bE Tryz.prog 126:=e (by kernel_rfl)
def FJ:=[o 2 (.mv bp)]
def FK:=[m 3 0,o 4 (.call 114 [.t 3,(ai 0),(ai 100000)]),m 2 4]
def Bo:aO:=(s (r FJ) (s (r FK) .ret))
def M0:List a7:=[.tmp 2]
theorem UR:bG Tryz.prog Tryz.f127 Bo:=e (by kernel_rfl)
theorem W4:bH Tryz.prog Tryz.f127 M0:=e (by kernel_rfl)
theorem SX:bE Tryz.prog 127:=e (by kernel_rfl)
def FL:=[b 2 0,o 4 (.mv (.c (.nils 1))),a8 5 0]
def FM:=[az 11 7 2,o 12 (.call 66 [.t 11]),m 6 12]
def wH:=[m 13 6,o 14 (.bin .neq (.t 13) (ai 0))]
def FN:=[m 15 6,o 4 (.mv (.c (.nils 1))),m 5 15]
def FO:=[m 16 1,o 17 (.len (.t 16)),o 18 (.bin .gtr (.t 17) (ai 60))]
def FP:=[o 4 (.mv (.c (.nils 1))),a8 5 2]
def FQ:=[f 19 2 6 2,l 20 19,o 21 (.call 167 [.t 20]),m 7 21]
def wI:=[m 22 1,o 23 (.len (.t 22)),a8 24 0]
def wJ:=[lt 25 24 23]
def wK:=[o 26 (.is 6 (.t 22) (.t 24)),az 27 6 26,o 9 (.alloc (.agg [.int .i64 0,.int .i64 0,.int .i64 0,.int .i64 0,.int .i64 0,.int .i64 0])),p (.br (some 6) (.t 9) (.t 27))]
def wD:=[az 28 6 9,o 29 (.call 157 [.t 28]),m 10 29]
def te:=[m 30 10,o 31 (.bin .neq (.t 30) (ai 0))]
def wE:=[m 32 10,o 4 (.mv (.c (.nils 1))),m 5 32]
def wF:=[f 33 0 0 2,az 34 5 33,f 35 1 5 2,l 36 35,m 37 7,o 38 (.bld [.agg [.int .i64 0,.int .i64 0,.int .i64 0,.int .i64 0,.int .i64 0],.int .i64 0,.nils 7] [(0,(.t 34)),(1,(.t 36)),(2,(.t 37))]),az 39 6 9,o 40 (.call 168 [.t 38,.t 39]),m 7 40]
def tf:=[ad 41 24 1,m 24 41]
def wG:=[m 42 7,o 43 (.call 169 [.t 42]),m 4 43,a8 5 0]
def Bp:aO:=(s (r FL) (s (s (r FM) (s (r wH) (.cond (.t 14) (s (r FN) .ret) .skip))) (s (s (r FO) (.cond (.t 18) (s (r FP) .ret) .skip)) (s (r FQ) (s (s (r wI) (.block 0 (.loop (s (r wJ) (s (.cond (.t 25) .skip (.exit 0)) (s (.block 1 (s (r wK) (s (s (r wD) (s (r te) (.cond (.t 31) (s (r wE) .ret) .skip))) (r wF)))) (r tf))))))) (s (r wG) .ret))))))
def M2:List a7:=[.tmp 4,.tmp 5]
theorem US:bG Tryz.prog Tryz.f128 Bp:=e (by kernel_rfl)
theorem W5:bH Tryz.prog Tryz.f128 M2:=e (by kernel_rfl)
theorem SY:bE Tryz.prog 128:=e (by kernel_rfl)
def FR:=[b 3 0,b 4 1,b 5 2,a8 6 0]
def FT:=[a8 7 0]
def FU:=[a8 8 0]
def FV:=[m 9 8,o 10 (.bin .lss (.t 9) (ai 6))]
def FW:=[m 13 8,o 14 (.ia 6 1 (.t 4) (.t 13)),l 15 14,o 16 (.ia 5 1 (.t 3) (.t 15)),l 17 16,m 18 8,o 19 (.ia 6 1 (.t 5) (.t 18)),l 20 19,o 21 (.ia 5 1 (.t 3) (.t 20)),l 22 21,o 23 (.bin .and (.t 17) (.t 22)),o 24 (.bin .eql (.t 23) (ai 0))]
def YP:=some [[],[0],[1],[2],[3],[],[5],[6],[7],[8],[4,9],[10]]
def FX:=[m 25 7,ad 26 25 1,m 7 26]
def wL:=[m 11 8,ad 12 11 1,m 8 12]
def FY:=[m 27 7,m 6 27]
def Bq:aO:=(s (r FR) (s (r FT) (s (s (r FU) (.block 0 (.loop (s (s (r FV) (.cond (.t 10) .skip (.exit 0))) (s (.block 1 (s (.bV YP FW) (.cond (.t 24) (r FX) .skip))) (r wL)))))) (s (r FY) .ret))))
def M3:List a7:=[.tmp 6]
theorem UT:bG Tryz.prog Tryz.f129 Bq:=e (by kernel_rfl)
theorem W6:bH Tryz.prog Tryz.f129 M3:=e (by kernel_rfl)
theorem SZ:bE Tryz.prog 129:=e (by kernel_rfl)
def abJ:=[a8 4 0]
def abK:=[m 6 0,o 7 (.len (.t 6)),a8 8 0]
def abL:=[lt 9 8 7]
def abM:=[m 10 8,m 5 10]
def abN:=[m 11 1,m 12 0,m 13 5,o 14 (.is 1 (.t 12) (.t 13)),l 15 14,o 16 (.bin .eql (.t 11) (.t 15))]
def abO:=[m 17 5,m 4 17]
def abP:=[ad 18 8 1,m 8 18]
def abQ:=[a8 4 (-1)]
def Br:aO:=(s (r abJ) (s (s (r abK) (.block 0 (.loop (s (r abL) (s (.cond (.t 9) .skip (.exit 0)) (s (.block 1 (s (r abM) (s (r abN) (.cond (.t 16) (s (r abO) .ret) .skip)))) (r abP))))))) (s (r abQ) .ret)))
def M4:List a7:=[.tmp 4]
theorem UU:bG Tryz.prog Tryz.f131 Br:=e (by kernel_rfl)
theorem W7:bH Tryz.prog Tryz.f131 M4:=e (by kernel_rfl)
theorem S0:bE Tryz.prog 131:=e (by kernel_rfl)
def abR:=[o 2 (.alloc (.agg [.int .i64 0,.int .i64 0,.int .i64 0,.int .i64 0,.int .i64 0,.int .i64 0,.int .i64 0,.int .i64 0]))]
def abS:=[a8 3 0]
def abT:=[m 4 0,o 5 (.nilC (.t 4)),f 6 0 0 5,f 7 7 7 6,l 8 7]
def abU:=[a8 3 1]
def abV:=[m 9 0,o 10 (.nilC (.t 9)),f 11 0 0 10,f 12 0 0 11,l 13 12,m 14 0,o 15 (.nilC (.t 14)),f 16 0 0 15,f 17 1 1 16,l 18 17,m 19 0,o 20 (.nilC (.t 19)),f 21 0 0 20,f 22 2 2 21,l 23 22,m 24 0,o 25 (.nilC (.t 24)),f 26 0 0 25,f 27 3 3 26,l 28 27,m 29 0,o 30 (.nilC (.t 29)),f 31 0 0 30,f 32 4 4 31,l 33 32,m 34 0,o 35 (.nilC (.t 34)),f 36 0 0 35,f 37 5 5 36,l 38 37,m 39 0,o 40 (.nilC (.t 39)),f 41 0 0 40,f 42 6 6 41,l 43 42,m 44 3,o 45 (.bld [.int .i64 0,.int .i64 0,.int .i64 0,.int .i64 0,.int .i64 0,.int .i64 0,.int .i64 0,.int .i64 0] [(0,(.t 13)),(1,(.t 18)),(2,(.t 23)),(3,(.t 28)),(4,(.t 33)),(5,(.t 38)),(6,(.t 43)),(7,(.t 44))]),p (.br (some 8) (.t 2) (.t 45))]
def YQ:=some [[],[0],[1],[2],[3],[],[5],[6],[7],[8],[],[10],[11],[12],[13],[],[15],[16],[17],[18],[],[20],[21],[22],[23],[],[25],[26],[27],[28],[],[30],[31],[32],[33],[],[4,9,14,19,24,29,34,35],[36,0,1,2,3,4,5,6,7,8,9,10,11,12,13,14,15,16,17,18,19,20,21,22,23,24,25,26,27,28,29,30,31,32,33,34,35,36]]
def Bt:aO:=(s (r abR) (s (r abS) (s (s (r abT) (.cond (.t 8) (r abU) .skip)) (s (.bV YQ abV) .ret))))
def M5:List a7:=[.cell 2 (some 8)]
theorem UW:bG Tryz.prog Tryz.f133 Bt:=e (by kernel_rfl)
theorem W8:bH Tryz.prog Tryz.f133 M5:=e (by kernel_rfl)
theorem S1:bE Tryz.prog 133:=e (by kernel_rfl)
def abW:=[o 4 (.mv bp)]
def abX:=[m 6 0,o 7 (.len (.t 6)),m 8 1,o 9 (.len (.t 8)),o 10 (.bin .neq (.t 7) (.t 9))]
def abY:=[o 4 (.mv bp)]
def abZ:=[m 11 0,o 12 (.len (.t 11)),a8 13 0]
def ab0:=[lt 14 13 12]
def ab1:=[m 15 13,m 5 15]
def ab2:=[m 16 0,m 17 5,o 18 (.is 1 (.t 16) (.t 17)),l 19 18,m 20 1,m 21 5,o 22 (.is 1 (.t 20) (.t 21)),l 23 22,o 24 (.bin .neq (.t 19) (.t 23))]
def YR:=some [[],[],[0,1],[2],[],[],[4,5],[6],[3,7]]
def ab3:=[o 4 (.mv bp)]
def ab4:=[ad 25 13 1,m 13 25]
def ab5:=[o 4 (.mv T)]
def Bu:aO:=(s (r abW) (s (s (r abX) (.cond (.t 10) (s (r abY) .ret) .skip)) (s (s (r abZ) (.block 0 (.loop (s (r ab0) (s (.cond (.t 14) .skip (.exit 0)) (s (.block 1 (s (r ab1) (s (.bV YR ab2) (.cond (.t 24) (s (r ab3) .ret) .skip)))) (r ab4))))))) (s (r ab5) .ret))))
def M6:List a7:=[.tmp 4]
theorem UX:bG Tryz.prog Tryz.f134 Bu:=e (by kernel_rfl)
theorem W9:bH Tryz.prog Tryz.f134 M6:=e (by kernel_rfl)
theorem S2:bE Tryz.prog 134:=e (by kernel_rfl)
def FZ:=[o 6 (.mv (.c (.nils 17)))]
def F0:=[m 8 0,m 9 1,m 10 2,m 11 0,o 12 (.len (.t 11)),o 13 (.sl 17 (.t 8) (some (.t 9)) (some (.t 10)) (some (.t 12)))]
def F1:=[m 14 1,m 15 2,o 16 (.bin .eql (.t 14) (.t 15))]
def ab6:=[m 17 0,m 6 17]
def F2:=[m 18 0,o 19 (.len (.t 18)),m 7 19]
def wM:=[m 20 0,m 21 1,o 22 (.sl 17 (.t 20) none (some (.t 21)) none),m 23 0,m 24 2,o 25 (.sl 17 (.t 23) (some (.t 24)) none none),o 26 (.dF 68 17 136 (.agg [.agg [.int .i64 0,.int .i64 0],.int .i64 0,.int .i64 0,.int .i64 0,.int .i64 0,.int .i64 0,.int .i64 0,.int .i64 0,.agg [.int .i64 0,.int .i64 0,.int .i64 0,.int .i64 0,.int .i64 0,.int .i64 0],.agg [.int .i64 0,.int .i64 0]]) (.t 22) (.t 25)),m 0 26]
def YS:=some [[],[],[0,1],[],[],[3,4],[2,5],[6,6,0,1,2,3,4,5,6]]
def wN:=[m 27 0,m 28 0,o 29 (.len (.t 28)),m 30 7,o 31 (.sl 17 (.t 27) (some (.t 29)) (some (.t 30)) none),p (.iQ 17 (.agg [.agg [.int .i64 0,.int .i64 0],.int .i64 0,.int .i64 0,.int .i64 0,.int .i64 0,.int .i64 0,.int .i64 0,.int .i64 0,.agg [.int .i64 0,.int .i64 0,.int .i64 0,.int .i64 0,.int .i64 0,.int .i64 0],.agg [.int .i64 0,.int .i64 0]]) (.t 31))]
def wO:=[m 32 0,m 6 32]
def Bv:aO:=(s (r FZ) (s (r F0) (s (s (r F1) (.cond (.t 16) (s (r ab6) .ret) .skip)) (s (r F2) (s (.bV YS wM) (s (r wN) (s (r wO) .ret)))))))
def M7:List a7:=[.tmp 6]
theorem UY:bG Tryz.prog Tryz.f135 Bv:=e (by kernel_rfl)
theorem Xa:bH Tryz.prog Tryz.f135 M7:=e (by kernel_rfl)
theorem S3:bE Tryz.prog 135:=e (by kernel_rfl)
def F3:=[o 2 (.mv (.c (.nils 17)))]
def wP:=[m 3 0,o 4 (.nilS false (.t 3))]
def F4:=[o 2 (.mv (.c (.nils 17)))]
def wQ:=[o 5 (.bs0 17),m 6 0,o 7 (.dF 68 17 136 (.agg [.agg [.int .i64 0,.int .i64 0],.int .i64 0,.int .i64 0,.int .i64 0,.int .i64 0,.int .i64 0,.int .i64 0,.int .i64 0,.agg [.int .i64 0,.int .i64 0,.int .i64 0,.int .i64 0,.int .i64 0,.int .i64 0],.agg [.int .i64 0,.int .i64 0]]) (.t 5) (.t 6)),m 2 7]
def Bw:aO:=(s (r F3) (s (s (r wP) (.cond (.t 4) (s (r F4) .ret) .skip)) (s (r wQ) .ret)))
def M8:List a7:=[.tmp 2]
theorem UZ:bG Tryz.prog Tryz.f136 Bw:=e (by kernel_rfl)
theorem Xb:bH Tryz.prog Tryz.f136 M8:=e (by kernel_rfl)
theorem S4:bE Tryz.prog 136:=e (by kernel_rfl)
def F5:=[m 4 0,m 5 0,o 6 (.len (.t 5)),m 7 1,o 8 (.call 171 [.t 4,.t 6,.t 7])]
def vw:aO:=(r F5)
def yZ:List a7:=[]
theorem De:bG Tryz.prog Tryz.f137 vw:=e (by kernel_rfl)
theorem DB:bH Tryz.prog Tryz.f137 yZ:=e (by kernel_rfl)
theorem C1:bE Tryz.prog 137:=e (by kernel_rfl)
def ab7:=[a8 5 0]
def ab8:=[l 6 2,m 7 0,o 8 (.is 17 (.t 6) (.t 7)),f 9 2 3 8,l 10 9,l 11 2,m 12 1,o 13 (.is 17 (.t 11) (.t 12)),f 14 2 3 13,l 15 14,o 16 (.bin .sub (.t 10) (.t 15)),m 5 16]
def YT:=some [[],[],[0,1],[2],[3],[],[],[5,6],[7],[8],[4,9],[10,0,1,2,3,4,5,6,7,8,9,10]]
def Bx:aO:=(s (r ab7) (s (.bV YT ab8) .ret))
def M9:List a7:=[.tmp 5]
theorem U0:bG Tryz.prog Tryz.f138 Bx:=e (by kernel_rfl)
theorem Xc:bH Tryz.prog Tryz.f138 M9:=e (by kernel_rfl)
theorem S5:bE Tryz.prog 138:=e (by kernel_rfl)
def F6:=[o 0 (.mv (.c (.raw (.map none))))]
def F7:=[o 1 (.j9),p (.gY (.i .i64) (.t 1) (ai 1) (.c (.func 172 []))),p (.gY (.i .i64) (.t 1) (ai 2) (.c (.func 173 []))),p (.gY (.i .i64) (.t 1) (ai 3) (.c (.func 174 []))),p (.gY (.i .i64) (.t 1) (ai 4) (.c (.func 175 []))),p (.gY (.i .i64) (.t 1) (ai 5) (.c (.func 176 []))),p (.gY (.i .i64) (.t 1) (ai 6) (.c (.func 177 []))),m 2 1,m 0 2]
def By:aO:=(s (r F6) (s (r F7) .ret))
def Na:List a7:=[.tmp 0]
theorem U1:bG Tryz.prog Tryz.f139 By:=e (by kernel_rfl)
theorem Xd:bH Tryz.prog Tryz.f139 Na:=e (by kernel_rfl)
theorem S6:bE Tryz.prog 139:=e (by kernel_rfl)
def F8:=[o 2 (.mv (.c (.nils 1)))]
def F9:=[o 3 (.mv (.c (.nils 1)))]
def Ga:=[a8 4 0]
def Gb:=[m 5 4,o 6 (.bin .lss (.t 5) (ai 5))]
def Gc:=[m 9 0,m 10 4,o 11 (.bin .shl (ai 1) (.t 10)),o 12 (.bin .and (.t 9) (.t 11)),o 13 (.bin .neq (.t 12) (ai 0))]
def Gd:=[m 14 3,m 15 4,o 16 (.bs 3 1 [.t 15]),o 17 (.dF 3 1 8 (.int .i64 0) (.t 14) (.t 16)),m 3 17]
def wR:=[m 7 4,ad 8 7 1,m 4 8]
def Ge:=[m 18 3,m 2 18]
def BA:aO:=(s (r F8) (s (r F9) (s (s (r Ga) (.block 0 (.loop (s (s (r Gb) (.cond (.t 6) .skip (.exit 0))) (s (.block 1 (s (r Gc) (.cond (.t 13) (r Gd) .skip))) (r wR)))))) (s (r Ge) .ret))))
def Nc:List a7:=[.tmp 2]
theorem U3:bG Tryz.prog Tryz.f141 BA:=e (by kernel_rfl)
theorem Xf:bH Tryz.prog Tryz.f141 Nc:=e (by kernel_rfl)
theorem S8:bE Tryz.prog 141:=e (by kernel_rfl)
def ab9:=[b 4 1,a8 6 0,o 7 (.mv bp)]
def aca:=[m 12 0,o 13 (.len (.t 12)),m 8 13]
def acb:=[m 14 8,a8 9 0,m 10 14]
def acd:=[m 15 9,m 16 10,lt 17 15 16]
def ace:=[m 18 9,m 19 10,o 20 (.bin .add (.t 18) (.t 19)),o 21 (.conv .u64 (.t 20)),o 22 (.bin .shr (.t 21) (.c (.int .u64 1))),o 23 (.conv .i64 (.t 22)),m 11 23]
def acf:=[m 24 2,m 25 0,m 26 11,o 27 (.is 17 (.t 25) (.t 26)),az 28 17 27,az 29 2 4,o 30 (.eF (.t 24) [.t 28,.t 29]),o 31 (.bin .lss (.t 30) (ai 0))]
def YU:=some [[],[],[],[1,2],[3],[],[0,4,5],[6]]
def acg:=[m 32 11,ad 33 32 1,m 9 33]
def ach:=[m 34 11,m 10 34]
def aci:=[m 35 9,m 36 9,m 37 8,lt 38 36 37,m 39 38,cY 40 2 39,cY 41 0 39,cY 42 9 39,bR 43 (.is 17 (.t 41) (.t 42)) 39,bR 44 (.ld (some 17) (.t 43)) 39,bR 45 (.ld (some 2) (.t 4)) 39,bR 46 (.eF (.t 40) [.t 44,.t 45]) 39,bR 47 (.bin .eql (.t 46) (ai 0)) 39,and 48 39 47,m 6 35,m 7 48]
def YV:=some [[],[],[],[1,2],[3],[4],[4],[4],[6,7,4],[8,4],[4],[5,9,10,4,4],[11,4],[4,12],[0,11,0],[13,14,0,1,2,3,4,5,6,7,8,9,10,11,12,13,14]]
def BB:aO:=(s (r ab9) (s (r aca) (s (r acb) (s (.block 0 (.loop (s (s (r acd) (.cond (.t 17) .skip (.exit 0))) (.block 1 (s (r ace) (s (.bV YU acf) (.cond (.t 31) (r acg) (r ach)))))))) (s (.bV YV aci) .ret)))))
def Nd:List a7:=[.tmp 6,.tmp 7]
theorem U4:bG Tryz.prog Tryz.f142 BB:=e (by kernel_rfl)
theorem Xg:bH Tryz.prog Tryz.f142 Nd:=e (by kernel_rfl)
theorem S9:bE Tryz.prog 142:=e (by kernel_rfl)
def acj:=[b 2 0,b 3 1,a8 4 0]
def ack:=[f 5 0 0 2,az 6 2 5,az 7 2 3,o 8 (.call 118 [.t 6,.t 7]),m 4 8]
def BC:aO:=(s (r acj) (s (r ack) .ret))
def Nf:List a7:=[.tmp 4]
theorem U5:bG Tryz.prog Tryz.f143 BC:=e (by kernel_rfl)
theorem Xh:bH Tryz.prog Tryz.f143 Nf:=e (by kernel_rfl)
theorem Ta:bE Tryz.prog 143:=e (by kernel_rfl)
def Gf:=[b 2 0,o 4 (.mv (.c (.nils 1)))]
def Gg:=[m 6 1]
def acm:=[m 5 7]
def acn:=[l 8 2,m 9 5,o 10 (.bs 3 1 [.t 9]),o 11 (.dF 3 1 8 (.int .i64 0) (.t 8) (.t 10)),p (.br none (.t 2) (.t 11))]
def aco:=[l 12 2,m 4 12]
def BD:aO:=(s (r Gf) (s (s (r Gg) (.block 0 (.kd (.t 6) [7] (r acm) (.block 1 (r acn))))) (s (r aco) .ret)))
def Ng:List a7:=[.tmp 4]
theorem U6:bG Tryz.prog Tryz.f144 BD:=e (by kernel_rfl)
theorem Xi:bH Tryz.prog Tryz.f144 Ng:=e (by kernel_rfl)
theorem Tb:bE Tryz.prog 144:=e (by kernel_rfl)
def acp:=[b 1 0,o 2 (.mv (.c (.dw)))]
def acq:=[o 3 (.mk 178 [.t 1]),m 2 3]
def BE:aO:=(s (r acp) (s (r acq) .ret))
def Nh:List a7:=[.tmp 2]
theorem U7:bG Tryz.prog Tryz.f145 BE:=e (by kernel_rfl)
theorem Xj:bH Tryz.prog Tryz.f145 Nh:=e (by kernel_rfl)
theorem Tc:bE Tryz.prog 145:=e (by kernel_rfl)
def Gh:=[l 5 1,o 6 (.len (.t 5)),a8 7 0]
def Gi:=[lt 8 7 6]
def Gj:=[m 9 7,m 4 9]
def wS:=[l 10 2,m 11 4,o 12 (.is 1 (.t 10) (.t 11)),l 13 12,m 14 13,cY 15 0 14,cY 16 4 14,bR 17 (.eF (.t 15) [.t 16]) 14,bR 18 (.un .not (.t 17)) 14,and 19 14 18]
def wT:=[ad 20 7 1,m 7 20]
def BF:aO:=(s (r Gh) (.block 0 (.loop (s (r Gi) (s (.cond (.t 8) .skip (.exit 0)) (s (.block 1 (s (r Gj) (s (r wS) (.cond (.t 19) .ret .skip)))) (r wT)))))))
def Ni:List a7:=[]
theorem U8:bG Tryz.prog Tryz.f146 BF:=e (by kernel_rfl)
theorem Xk:bH Tryz.prog Tryz.f146 Ni:=e (by kernel_rfl)
theorem vE:bE Tryz.prog 146:=e (by kernel_rfl)
def acr:=[o 2 (.mv bp)]
def acs:=[o 2 (.mv T)]
def BG:aO:=(s (r acr) (s (r acs) .ret))
def Nj:List a7:=[.tmp 2]
theorem U9:bG Tryz.prog Tryz.f149 BG:=e (by kernel_rfl)
theorem Xl:bH Tryz.prog Tryz.f149 Nj:=e (by kernel_rfl)
theorem Td:bE Tryz.prog 149:=e (by kernel_rfl)
def acF:=[o 2 (.mv (.c (.nils 1)))]
def acG:=[a8 3 0]
def acM:=[m 9 0,o 10 (.len (.t 9)),a8 11 0]
def acN:=[lt 12 11 10]
def acO:=[o 13 (.is 1 (.t 9) (.t 11)),l 14 13,m 5 14]
def acP:=[m 15 3,m 16 5,o 17 (.len (.t 16)),o 18 (.bin .add (.t 15) (.t 17)),m 3 18]
def acQ:=[m 19 3,o 20 (.bin .lss (.t 19) (ai 0))]
def acR:=[ad 22 11 1,m 11 22]
def acS:=[m 23 3,o 24 (.call 190 [(.c (.nils 1)),.t 23]),m 6 24]
def acT:=[m 25 0,o 26 (.len (.t 25)),a8 27 0]
def acH:=[lt 28 27 26]
def acI:=[o 29 (.is 1 (.t 25) (.t 27)),l 30 29,m 8 30]
def acJ:=[m 31 6,m 32 8,o 33 (.dF 3 1 8 (.int .i64 0) (.t 31) (.t 32)),m 6 33]
def acK:=[ad 34 27 1,m 27 34]
def acL:=[m 35 6,m 2 35]
def vx:aO:=(s (r acF) (s (r acG) (s (s (r acM) (.block 0 (.loop (s (r acN) (s (.cond (.t 12) .skip (.exit 0)) (s (.block 1 (s (r acO) (s (r acP) (s (r acQ) (.cond (.t 20) .lJ .skip))))) (r acR))))))) (s (r acS) (s (s (r acT) (.block 2 (.loop (s (r acH) (s (.cond (.t 28) .skip (.exit 2)) (s (.block 3 (s (r acI) (r acJ))) (r acK))))))) (s (r acL) .ret))))))
def y0:List a7:=[.tmp 2]
theorem Df:bG Tryz.prog Tryz.f150 vx:=e (by kernel_rfl)
theorem DC:bH Tryz.prog Tryz.f150 y0:=e (by kernel_rfl)
theorem C3:bE Tryz.prog 150:=e (by kernel_rfl)
def acU:=[o 4 (.mv (.c (.nils 1)))]
def acV:=[m 8 0,m 9 1,o 10 (.call 166 [.t 8,.t 9]),m 5 10]
def acX:=[m 11 5,o 12 (.bin .eql (.t 11) (.c (.int .i64 (-1))))]
def acY:=[m 13 0,m 4 13]
def acZ:=[m 14 5,ad 15 14 1,m 6 15]
def Gm:=[m 16 6,m 17 0,o 18 (.len (.t 17)),lt 19 16 18]
def ac0:=[m 22 0,m 23 6,o 24 (.is 1 (.t 22) (.t 23)),l 25 24,m 7 25]
def ac1:=[m 26 1,m 27 7,o 28 (.eF (.t 26) [.t 27]),no 29 28]
def ac2:=[m 30 0,m 31 5,m 32 7,o 33 (.is 1 (.t 30) (.t 31)),p (.br none (.t 33) (.t 32))]
def ac3:=[m 34 5,ad 35 34 1,m 5 35]
def acW:=[m 20 6,ad 21 20 1,m 6 21]
def Gk:=[m 36 0,m 37 5,o 38 (.sl 1 (.t 36) (some (.t 37)) none none),p (.iQ 1 (.int .i64 0) (.t 38))]
def Gl:=[m 39 0,m 40 5,o 41 (.sl 1 (.t 39) none (some (.t 40)) none),m 4 41]
def vy:aO:=(s (r acU) (s (r acV) (s (s (r acX) (.cond (.t 12) (s (r acY) .ret) .skip)) (s (s (r acZ) (.block 0 (.loop (s (s (r Gm) (.cond (.t 19) .skip (.exit 0))) (s (.block 1 (s (r ac0) (s (r ac1) (.cond (.t 29) (s (r ac2) (r ac3)) .skip)))) (r acW)))))) (s (r Gk) (s (r Gl) .ret))))))
def y5:List a7:=[.tmp 4]
theorem Dg:bG Tryz.prog Tryz.f151 vy:=e (by kernel_rfl)
theorem DE:bH Tryz.prog Tryz.f151 y5:=e (by kernel_rfl)
theorem C4:bE Tryz.prog 151:=e (by kernel_rfl)
def ac4:=[o 5 (.mv bp)]
def ac5:=[az 6 7 1,l 7 2,o 8 (.nilC (.t 7)),f 9 0 0 8,l 10 9,m 11 0,o 12 (.lk (.i .i64) (.nilp) false (.t 10) (.t 11)),l 13 3,o 14 (.nilC (.t 13)),f 15 0 0 14,l 16 15,m 17 0,o 18 (.lk (.i .i64) (.nilp) false (.t 16) (.t 17)),o 19 (.call 77 [.t 6,.t 12,.t 18]),m 5 19]
def YW:=some [[],[],[1],[2],[3],[],[4,5],[],[7],[8],[9],[],[10,11],[0,6,12],[13,13,0,1,2,3,4,5,6,7,8,9,10,11,12,13]]
def BH:aO:=(s (r ac4) (s (.bV YW ac5) .ret))
def Nk:List a7:=[.tmp 5]
theorem Va:bG Tryz.prog Tryz.f152 BH:=e (by kernel_rfl)
theorem Xm:bH Tryz.prog Tryz.f152 Nk:=e (by kernel_rfl)
theorem Te:bE Tryz.prog 152:=e (by kernel_rfl)
def Gn:=[o 2 (.mv bp)]
def Gp:=[m 3 0,o 4 (.call 114 [.t 3,(ai 1),(ai 9999)]),m 2 4]
def BI:aO:=(s (r Gn) (s (r Gp) .ret))
def Nl:List a7:=[.tmp 2]
theorem Vb:bG Tryz.prog Tryz.f154 BI:=e (by kernel_rfl)
theorem Xn:bH Tryz.prog Tryz.f154 Nl:=e (by kernel_rfl)
theorem Tf:bE Tryz.prog 154:=e (by kernel_rfl)
def Gq:=[o 2 (.mv bp)]
def Gr:=[m 3 0,o 4 (.call 114 [.t 3,(ai 1),(ai 9)]),m 2 4]
def BJ:aO:=(s (r Gq) (s (r Gr) .ret))
def Nn:List a7:=[.tmp 2]
theorem Vc:bG Tryz.prog Tryz.f155 BJ:=e (by kernel_rfl)
theorem Xo:bH Tryz.prog Tryz.f155 Nn:=e (by kernel_rfl)
theorem Tg:bE Tryz.prog 155:=e (by kernel_rfl)
def Gs:=[o 2 (.mv bp)]
def Gt:=[m 3 0,o 4 (.call 114 [.t 3,(ai 1),(ai 99)]),m 2 4]
def BK:aO:=(s (r Gs) (s (r Gt) .ret))
def Np:List a7:=[.tmp 2]
theorem Vd:bG Tryz.prog Tryz.f156 BK:=e (by kernel_rfl)
theorem Xp:bH Tryz.prog Tryz.f156 Np:=e (by kernel_rfl)
theorem Th:bE Tryz.prog 156:=e (by kernel_rfl)
def Gu:=[b 1 0,a8 2 0]
def Gv:=[az 3 6 1,o 4 (.call 193 [.t 3]),no 5 4]
def Gw:=[a8 2 12]
def Gx:=[a8 2 0]
def BL:aO:=(s (r Gu) (s (s (r Gv) (.cond (.t 5) (s (r Gw) .ret) .skip)) (s (r Gx) .ret)))
def Nq:List a7:=[.tmp 2]
theorem Ve:bG Tryz.prog Tryz.f157 BL:=e (by kernel_rfl)
theorem Xq:bH Tryz.prog Tryz.f157 Nq:=e (by kernel_rfl)
theorem Ti:bE Tryz.prog 157:=e (by kernel_rfl)
def Gy:=[a8 2 0]
def Gz:=[a8 3 0]
def GA:=[m 6 0,o 7 (.len (.t 6)),a8 8 0]
def GB:=[lt 9 8 7]
def GC:=[o 10 (.is 1 (.t 6) (.t 8)),l 11 10,m 5 11]
def GD:=[m 12 5,m 13 3,o 14 (.bin .neq (.t 12) (.t 13))]
def GF:=[m 15 5,m 2 15]
def GG:=[ad 16 8 1,m 8 16]
def GH:=[m 17 3,m 2 17]
def BM:aO:=(s (r Gy) (s (r Gz) (s (s (r GA) (.block 0 (.loop (s (r GB) (s (.cond (.t 9) .skip (.exit 0)) (s (.block 1 (s (r GC) (s (r GD) (.cond (.t 14) (s (r GF) .ret) .skip)))) (r GG))))))) (s (r GH) .ret))))
def Nr:List a7:=[.tmp 2]
theorem Vf:bG Tryz.prog Tryz.f158 BM:=e (by kernel_rfl)
theorem Xr:bH Tryz.prog Tryz.f158 Nr:=e (by kernel_rfl)
theorem Tj:bE Tryz.prog 158:=e (by kernel_rfl)
def GI:=[a8 4 0]
def GJ:=[m 7 0,o 8 (.call 194 [.t 7]),m 5 8]
def GO:=[m 9 1,o 10 (.call 194 [.t 9]),m 6 10]
def GP:=[m 11 5]
def ac6:=[m 12 6]
def ac7:=[a8 4 0]
def ac8:=[a8 4 (-1)]
def GQ:=[m 13 6]
def ac9:=[a8 4 1]
def GR:=[m 14 0,m 15 1,lt 16 14 15]
def GK:=[a8 4 (-1)]
def GL:=[m 17 0,m 18 1,o 19 (.bin .gtr (.t 17) (.t 18))]
def GM:=[a8 4 1]
def GN:=[a8 4 0]
def BN:aO:=(s (r GI) (s (r GJ) (s (r GO) (s (s (r GP) (.cond (.t 11) (s (s (r ac6) (.cond (.t 12) (s (r ac7) .ret) .skip)) (s (r ac8) .ret)) .skip)) (s (s (r GQ) (.cond (.t 13) (s (r ac9) .ret) .skip)) (s (s (r GR) (.cond (.t 16) (s (r GK) .ret) .skip)) (s (s (r GL) (.cond (.t 19) (s (r GM) .ret) .skip)) (s (r GN) .ret))))))))
def Ns:List a7:=[.tmp 4]
theorem Vg:bG Tryz.prog Tryz.f159 BN:=e (by kernel_rfl)
theorem Xs:bH Tryz.prog Tryz.f159 Ns:=e (by kernel_rfl)
theorem Tk:bE Tryz.prog 159:=e (by kernel_rfl)
def GS:=[o 2 (.mv bp)]
def GU:=[m 3 0,o 4 (.call 121 [.t 3,(ai 0),(ai 31)]),m 2 4]
def BP:aO:=(s (r GS) (s (r GU) .ret))
def Nu:List a7:=[.tmp 2]
theorem Vi:bG Tryz.prog Tryz.f160 BP:=e (by kernel_rfl)
theorem Xu:bH Tryz.prog Tryz.f160 Nu:=e (by kernel_rfl)
theorem Tm:bE Tryz.prog 160:=e (by kernel_rfl)
def GV:=[o 4 (.mv bp)]
def GW:=[m 5 0,m 6 1,o 7 (.bin .shr (.t 5) (.t 6)),o 8 (.bin .and (.t 7) (ai 1)),o 9 (.bin .eql (.t 8) (ai 1)),m 4 9]
def BQ:aO:=(s (r GV) (s (r GW) .ret))
def Nv:List a7:=[.tmp 4]
theorem Vj:bG Tryz.prog Tryz.f161 BQ:=e (by kernel_rfl)
theorem Xv:bH Tryz.prog Tryz.f161 Nv:=e (by kernel_rfl)
theorem Tn:bE Tryz.prog 161:=e (by kernel_rfl)
def GX:=[o 2 (.mv bp)]
def GY:=[m 3 0,o 4 (.call 121 [.t 3,(ai 0),(ai 4)]),no 5 4,m 2 5]
def BR:aO:=(s (r GX) (s (r GY) .ret))
def Nw:List a7:=[.tmp 2]
theorem Vk:bG Tryz.prog Tryz.f162 BR:=e (by kernel_rfl)
theorem Xw:bH Tryz.prog Tryz.f162 Nw:=e (by kernel_rfl)
theorem Tp:bE Tryz.prog 162:=e (by kernel_rfl)
def GZ:=[o 4 (.mv bp)]
def G0:=[m 5 0,m 6 1,o 7 (.call 195 [.t 5,.t 6]),o 8 (.bin .geq (.t 7) (ai 0)),m 4 8]
def BS:aO:=(s (r GZ) (s (r G0) .ret))
def Nx:List a7:=[.tmp 4]
theorem Vl:bG Tryz.prog Tryz.f163 BS:=e (by kernel_rfl)
theorem Xx:bH Tryz.prog Tryz.f163 Nx:=e (by kernel_rfl)
theorem Tq:bE Tryz.prog 163:=e (by kernel_rfl)
def G1:=[b 3 0,o 4 (.mv bp)]
def G2:=[f 5 0 0 1,az 6 5 5,f 7 1 1 3,az 8 6 7,az 9 6 2,o 10 (.call 165 [.t 6,.t 8,.t 9]),f 11 1 5 1,l 12 11,o 13 (.bin .mul (ai 2) (.t 12)),o 14 (.bin .leq (.t 10) (.t 13)),m 4 14]
def YX:=some [[],[0],[],[2],[],[1,3,4],[],[6],[7],[5,8],[9,5,0,1,2,3,4,5,6,7,8,9]]
def BT:aO:=(s (r G1) (s (.bV YX G2) .ret))
def Ny:List a7:=[.tmp 4]
theorem Vm:bG Tryz.prog Tryz.f164 BT:=e (by kernel_rfl)
theorem Xy:bH Tryz.prog Tryz.f164 Ny:=e (by kernel_rfl)
theorem Tr:bE Tryz.prog 164:=e (by kernel_rfl)
def G3:=[b 3 0,b 4 1,b 5 2,a8 6 0]
def G4:=[o 7 (.alloc (.dw)),p (.br none (.t 7) (.c (.func 196 [])))]
def G5:=[o 8 (.mk 198 [.t 7,.t 3,.t 4,.t 5]),o 9 (.call 197 [.t 8]),m 6 9]
def BU:aO:=(s (r G3) (s (r G4) (s (r G5) .ret)))
def Nz:List a7:=[.tmp 6]
theorem Vn:bG Tryz.prog Tryz.f165 BU:=e (by kernel_rfl)
theorem Xz:bH Tryz.prog Tryz.f165 Nz:=e (by kernel_rfl)
theorem Ts:bE Tryz.prog 165:=e (by kernel_rfl)
def G6:=[a8 4 0]
def G7:=[m 6 0,o 7 (.len (.t 6)),a8 8 0]
def G8:=[lt 9 8 7]
def G9:=[m 10 8,m 5 10]
def Ha:=[m 11 1,m 12 0,m 13 5,o 14 (.is 1 (.t 12) (.t 13)),l 15 14,o 16 (.eF (.t 11) [.t 15])]
def Hb:=[m 17 5,m 4 17]
def Hc:=[ad 18 8 1,m 8 18]
def Hd:=[a8 4 (-1)]
def BV:aO:=(s (r G6) (s (s (r G7) (.block 0 (.loop (s (r G8) (s (.cond (.t 9) .skip (.exit 0)) (s (.block 1 (s (r G9) (s (r Ha) (.cond (.t 16) (s (r Hb) .ret) .skip)))) (r Hc))))))) (s (r Hd) .ret)))
def NA:List a7:=[.tmp 4]
theorem Vo:bG Tryz.prog Tryz.f166 BV:=e (by kernel_rfl)
theorem XA:bH Tryz.prog Tryz.f166 NA:=e (by kernel_rfl)
theorem Tt:bE Tryz.prog 166:=e (by kernel_rfl)
def He:=[o 2 (.mv (.c (.nils 7)))]
def wU:=[m 3 0,o 4 (.nilS false (.t 3))]
def Hf:=[o 2 (.mv (.c (.nils 7)))]
def wV:=[o 5 (.bs0 7),m 6 0,o 7 (.dF 63 7 56 (.agg [.int .i64 0,.agg [.int .i64 0,.int .i64 0,.int .i64 0,.int .i64 0,.int .i64 0,.int .i64 0]]) (.t 5) (.t 6)),m 2 7]
def BW:aO:=(s (r He) (s (s (r wU) (.cond (.t 4) (s (r Hf) .ret) .skip)) (s (r wV) .ret)))
def NB:List a7:=[.tmp 2]
theorem Vp:bG Tryz.prog Tryz.f167 BW:=e (by kernel_rfl)
theorem XB:bH Tryz.prog Tryz.f167 NB:=e (by kernel_rfl)
theorem Tu:bE Tryz.prog 167:=e (by kernel_rfl)
def Hg:=[b 2 0,b 3 1,o 4 (.mv (.c (.nils 7)))]
def Hh:=[f 5 2 6 2,l 6 5,o 7 (.call 167 [.t 6]),o 8 (.mk 201 [.t 2,.t 3]),o 9 (.call 200 [.t 7,.t 8]),m 4 9]
def BX:aO:=(s (r Hg) (s (r Hh) .ret))
def NC:List a7:=[.tmp 4]
theorem Vq:bG Tryz.prog Tryz.f168 BX:=e (by kernel_rfl)
theorem XC:bH Tryz.prog Tryz.f168 NC:=e (by kernel_rfl)
theorem Tv:bE Tryz.prog 168:=e (by kernel_rfl)
def Hi:=[o 2 (.mv (.c (.nils 1)))]
def Hj:=[o 3 (.mv (.c (.nils 1)))]
def Hk:=[m 6 0,o 7 (.len (.t 6)),a8 8 0]
def Hl:=[lt 9 8 7]
def Hm:=[o 10 (.is 7 (.t 6) (.t 8)),az 11 7 10,o 5 (.alloc (.agg [.int .i64 0,.agg [.int .i64 0,.int .i64 0,.int .i64 0,.int .i64 0,.int .i64 0,.int .i64 0]])),p (.br (some 7) (.t 5) (.t 11))]
def Hn:=[m 12 3,f 13 0 0 5,l 14 13,o 15 (.bs 3 1 [.t 14]),o 16 (.dF 3 1 8 (.int .i64 0) (.t 12) (.t 15)),m 3 16]
def Ho:=[ad 17 8 1,m 8 17]
def Hp:=[m 18 3,m 2 18]
def BY:aO:=(s (r Hi) (s (r Hj) (s (s (r Hk) (.block 0 (.loop (s (r Hl) (s (.cond (.t 9) .skip (.exit 0)) (s (.block 1 (s (r Hm) (r Hn))) (r Ho))))))) (s (r Hp) .ret))))
def ND:List a7:=[.tmp 2]
theorem Vr:bG Tryz.prog Tryz.f169 BY:=e (by kernel_rfl)
theorem XD:bH Tryz.prog Tryz.f169 ND:=e (by kernel_rfl)
theorem Tw:bE Tryz.prog 169:=e (by kernel_rfl)
def wW:=[a8 6 20]
def wX:=[m 10 6,a8 7 0,m 8 10]
def Hq:=[m 11 8,m 12 1,o 13 (.bin .leq (.t 11) (.t 12))]
def adr:=[m 14 0,m 15 7,m 16 8,m 17 2,o 18 (.call 203 [.t 14,.t 15,.t 16,.t 17])]
def ads:=[m 19 8,m 7 19]
def adt:=[m 20 8,m 21 6,o 22 (.bin .add (.t 20) (.t 21)),m 8 22]
def Hr:=[m 23 0,m 24 7,m 25 1,m 26 2,o 27 (.call 203 [.t 23,.t 24,.t 25,.t 26])]
def wY:=[m 28 6,m 29 1,lt 30 28 29]
def Hs:=[m 31 6,o 32 (.bin .mul (ai 2) (.t 31)),a8 7 0,m 8 32]
def Ht:=[m 33 8,m 34 1,o 35 (.bin .leq (.t 33) (.t 34))]
def adk:=[m 36 0,m 37 7,m 38 7,m 39 6,o 40 (.bin .add (.t 38) (.t 39)),m 41 8,m 42 2,o 43 (.call 204 [.t 36,.t 37,.t 40,.t 41,.t 42])]
def adl:=[m 44 8,m 7 44]
def adm:=[m 45 8,m 46 6,o 47 (.bin .mul (ai 2) (.t 46)),o 48 (.bin .add (.t 45) (.t 47)),m 8 48]
def adn:=[m 49 7,m 50 6,o 51 (.bin .add (.t 49) (.t 50)),m 9 51]
def ado:=[m 52 9,m 53 1,lt 54 52 53]
def adp:=[m 55 0,m 56 7,m 57 9,m 58 1,m 59 2,o 60 (.call 204 [.t 55,.t 56,.t 57,.t 58,.t 59])]
def adq:=[m 61 6,o 62 (.bin .mul (.t 61) (ai 2)),m 6 62]
def vz:aO:=(s (r wW) (s (r wX) (s (.block 0 (.loop (s (s (r Hq) (.cond (.t 13) .skip (.exit 0))) (.block 1 (s (r adr) (s (r ads) (r adt))))))) (s (r Hr) (.block 2 (.loop (s (s (r wY) (.cond (.t 30) .skip (.exit 2))) (.block 3 (s (r Hs) (s (.block 4 (.loop (s (s (r Ht) (.cond (.t 35) .skip (.exit 4))) (.block 5 (s (r adk) (s (r adl) (r adm))))))) (s (s (r adn) (s (r ado) (.cond (.t 54) (r adp) .skip))) (r adq))))))))))))
def y6:List a7:=[]
theorem Di:bG Tryz.prog Tryz.f171 vz:=e (by kernel_rfl)
theorem DF:bH Tryz.prog Tryz.f171 y6:=e (by kernel_rfl)
theorem C5:bE Tryz.prog 171:=e (by kernel_rfl)
def adu:=[b 3 1,o 4 (.mv bp)]
def adv:=[f 6 5 6 3,l 7 6,o 8 (.bin .gtr (.t 7) (ai 0))]
def adw:=[m 9 0,o 10 (.nilC (.t 9)),f 11 0 0 10,l 12 11,f 13 5 6 3,l 14 13,o 15 (.lk (.i .i64) (.nilp) false (.t 12) (.t 14)),m 5 15]
def YY:=some [[],[0],[1],[2],[],[4],[3,5],[6,0,1,2,3,4,5,6]]
def adx:=[m 16 5,o 17 (.ptrE false (.t 16) (.c (.nilp))),m 18 17,fy 19 5 18,on 20 (.nilC (.t 19)) 18,fn 21 0 0 20 18,fn 22 1 1 21 18,iq 23 22 18,fn 24 6 7 3 18,iq 25 24 18,on 26 (.bin .neq (.t 23) (.t 25)) 18,or 27 18 26,m 28 27,fy 29 5 28,on 30 (.call 90 [.t 29]) 28,fy 31 30 28,cY 32 5 31,bR 33 (.nilC (.t 32)) 31,dP 34 0 0 33 31,dP 35 6 6 34 31,ev 36 35 31,dP 37 2 3 3 31,ev 38 37 31,bR 39 (.bin .lss (.t 36) (.t 38)) 31,on 40 (.pick (.t 31) (.t 39) bp) 28,or 41 28 40]
def YZ:=some [[],[0],[1],[2],[3,2],[4,2],[5,2],[6,2],[2],[8,2],[7,9,2],[2,10],[11,2],[12],[13,12,12],[14,14,12],[15],[16,15],[17,15],[18,15],[19,15],[15],[21,15],[20,22,15],[15,23,12],[12,24]]
def ady:=[o 4 (.mv bp)]
def adz:=[m 42 0,az 43 17 3,o 44 (.call 173 [.t 42,.t 43]),m 4 44]
def BZ:aO:=(s (r adu) (s (s (r adv) (.cond (.t 8) (s (.bV YY adw) (s (.bV YZ adx) (.cond (.t 41) (s (r ady) .ret) .skip))) .skip)) (s (r adz) .ret)))
def NF:List a7:=[.tmp 4]
theorem Vs:bG Tryz.prog Tryz.f172 BZ:=e (by kernel_rfl)
theorem XE:bH Tryz.prog Tryz.f172 NF:=e (by kernel_rfl)
theorem Tx:bE Tryz.prog 172:=e (by kernel_rfl)
def adA:=[b 3 1,o 4 (.mv bp)]
def adB:=[m 5 0,o 6 (.nilC (.t 5)),f 7 0 0 6,l 8 7,f 9 4 5 3,l 10 9,o 11 (.lk (.i .i64) (.nilp) false (.t 8) (.t 10)),o 12 (.ptrE true (.t 11) (.c (.nilp)))]
def Y0:=some [[],[0],[1],[2],[],[4],[3,5],[6]]
def adC:=[o 4 (.mv bp)]
def adD:=[m 13 0,o 14 (.nilC (.t 13)),f 15 0 0 14,l 16 15,f 17 4 5 3,l 18 17,f 19 4 5 3,l 20 19,f 21 6 7 3,l 22 21,f 23 5 6 3,l 24 23,f 25 7 8 3,l 26 25,f 27 7 8 3,l 28 27,f 29 2 3 3,l 30 29,o 31 (.bld [.int .i64 0,.int .i64 0,.int .i64 0,.int .i64 0,.int .i64 0,.int .i64 0,.int .i64 0,.bool false,.nils 6] [(0,(.t 20)),(1,(.t 22)),(2,(.t 24)),(3,(.t 26)),(4,(.t 28)),(5,(.t 30)),(6,(.c (.int .i64 (-1))))]),o 32 (.bld [.agg [.int .i64 0,.int .i64 0,.int .i64 0,.int .i64 0,.int .i64 0,.int .i64 0,.int .i64 0,.bool false,.nils 6]] [(0,(.t 31))]),b 33 32,p (.gY (.i .i64) (.t 16) (.t 18) (.t 33))]
def Y1:=some [[],[0],[1],[2],[],[4],[],[6],[],[8],[],[10],[],[12],[],[14],[],[16],[7,9,11,13,15,17],[18],[19],[3,5,20,0,1,2,3,4,5,6,7,8,9,10,11,12,13,14,15,16,17,18,19,20]]
def adE:=[o 4 (.mv T)]
def B1:aO:=(s (r adA) (s (s (.bV Y0 adB) (.cond (.t 12) (s (r adC) .ret) .skip)) (s (.bV Y1 adD) (s (r adE) .ret))))
def NG:List a7:=[.tmp 4]
theorem Vt:bG Tryz.prog Tryz.f173 B1:=e (by kernel_rfl)
theorem XF:bH Tryz.prog Tryz.f173 NG:=e (by kernel_rfl)
theorem Ty:bE Tryz.prog 173:=e (by kernel_rfl)
def adF:=[b 3 1,o 4 (.mv bp)]
def adG:=[m 6 0,o 7 (.nilC (.t 6)),f 8 0 0 7,l 9 8,f 10 4 5 3,l 11 10,o 12 (.lk (.i .i64) (.nilp) false (.t 9) (.t 11)),m 5 12]
def Y2:=some [[],[0],[1],[2],[],[4],[3,5],[6,0,1,2,3,4,5,6]]
def adH:=[m 13 5,o 14 (.ptrE false (.t 13) (.c (.nilp))),m 15 14,fy 16 5 15,on 17 (.call 90 [.t 16]) 15,or 18 15 17,m 19 18,fy 20 5 19,on 21 (.nilC (.t 20)) 19,fn 22 0 0 21 19,fn 23 3 3 22 19,iq 24 23 19,on 25 (.bin .eql (.t 24) (ai 0)) 19,or 26 19 25,m 27 26,fy 28 5 27,on 29 (.nilC (.t 28)) 27,fn 30 0 0 29 27,fn 31 3 3 30 27,iq 32 31 27,fn 33 7 8 3 27,iq 34 33 27,on 35 (.bin .eql (.t 32) (.t 34)) 27,or 36 27 35]
def Y3:=some [[],[0],[1],[2],[3,2,2],[2,4],[5,4],[6],[7,6],[8,6],[9,6],[10,6],[11,6],[6,12],[13,6],[14],[15,14],[16,14],[17,14],[18,14],[14],[20,14],[19,21,14],[14,22]]
def adI:=[o 4 (.mv bp)]
def adJ:=[m 37 5,f 38 7 8 3,l 39 38,o 40 (.nilC (.t 37)),f 41 0 0 40,f 42 3 3 41,p (.br none (.t 42) (.t 39))]
def adK:=[o 4 (.mv T)]
def B3:aO:=(s (r adF) (s (.bV Y2 adG) (s (s (.bV Y3 adH) (.cond (.t 36) (s (r adI) .ret) .skip)) (s (r adJ) (s (r adK) .ret)))))
def NH:List a7:=[.tmp 4]
theorem Vu:bG Tryz.prog Tryz.f174 B3:=e (by kernel_rfl)
theorem XG:bH Tryz.prog Tryz.f174 NH:=e (by kernel_rfl)
theorem Tz:bE Tryz.prog 174:=e (by kernel_rfl)
def adL:=[b 3 1,o 4 (.mv bp)]
def adM:=[m 6 0,o 7 (.nilC (.t 6)),f 8 0 0 7,l 9 8,f 10 4 5 3,l 11 10,o 12 (.lk (.i .i64) (.nilp) false (.t 9) (.t 11)),m 5 12]
def Y4:=some [[],[0],[1],[2],[],[4],[3,5],[6,0,1,2,3,4,5,6]]
def adN:=[m 13 5,o 14 (.ptrE false (.t 13) (.c (.nilp)))]
def adO:=[o 4 (.mv bp)]
def wZ:=[m 15 5,m 16 5,o 17 (.nilC (.t 16)),f 18 0 0 17,f 19 8 8 18,l 20 19,f 21 8 9 3,az 22 6 21,o 23 (.bs 66 6 [.t 22]),o 24 (.dF 66 6 48 (.agg [.int .i64 0,.int .i64 0,.int .i64 0,.int .i64 0,.int .i64 0,.int .i64 0]) (.t 20) (.t 23)),o 25 (.nilC (.t 15)),f 26 0 0 25,f 27 8 8 26,p (.br none (.t 27) (.t 24))]
def Y5:=some [[],[],[1],[2],[3],[4],[],[6],[7],[5,8],[0,0,1,2,3,4,5,6,7,8,9],[10,0,1,2,3,4,5,6,7,8,9],[11,0,1,2,3,4,5,6,7,8,9],[12,9,9,0,1,2,3,4,5,6,7,8,9]] -- DRAW BAD
def adP:=[o 4 (.mv T)]
def B4:aO:=(s (r adL) (s (.bV Y4 adM) (s (s (r adN) (.cond (.t 14) (s (r adO) .ret) .skip)) (s (.bV Y5 wZ) (s (r adP) .ret)))))
def NI:List a7:=[.tmp 4]
theorem Vv:bG Tryz.prog Tryz.f175 B4:=e (by kernel_rfl)
theorem XH:bH Tryz.prog Tryz.f175 NI:=e (by kernel_rfl)
theorem TA:bE Tryz.prog 175:=e (by kernel_rfl)
def adQ:=[b 3 1,o 4 (.mv bp)]
def adR:=[m 6 0,o 7 (.nilC (.t 6)),f 8 0 0 7,l 9 8,f 10 4 5 3,l 11 10,o 12 (.lk (.i .i64) (.nilp) false (.t 9) (.t 11)),m 5 12]
def Y6:=some [[],[0],[1],[2],[],[4],[3,5],[6,0,1,2,3,4,5,6]]
def adS:=[m 13 5,o 14 (.ptrE false (.t 13) (.c (.nilp)))]
def adT:=[o 4 (.mv bp)]
def adU:=[m 15 5,m 16 5,f 17 7 8 3,l 18 17,o 19 (.nilC (.t 15)),f 20 0 0 19,f 21 3 3 20,p (.br none (.t 21) (.t 18)),o 22 (.nilC (.t 16)),f 23 0 0 22,f 24 7 7 23,p (.br none (.t 24) T)]
def adV:=[o 4 (.mv T)]
def B5:aO:=(s (r adQ) (s (.bV Y6 adR) (s (s (r adS) (.cond (.t 14) (s (r adT) .ret) .skip)) (s (r adU) (s (r adV) .ret)))))
def NJ:List a7:=[.tmp 4]
theorem Vw:bG Tryz.prog Tryz.f176 B5:=e (by kernel_rfl)
theorem XI:bH Tryz.prog Tryz.f176 NJ:=e (by kernel_rfl)
theorem TB:bE Tryz.prog 176:=e (by kernel_rfl)
def adW:=[b 3 1,o 4 (.mv bp)]
def adX:=[m 6 0,o 7 (.nilC (.t 6)),f 8 0 0 7,l 9 8,f 10 4 5 3,l 11 10,o 12 (.lk (.i .i64) (.nilp) false (.t 9) (.t 11)),m 5 12]
def Y7:=some [[],[0],[1],[2],[],[4],[3,5],[6,0,1,2,3,4,5,6]]
def adY:=[m 13 5,o 14 (.ptrE false (.t 13) (.c (.nilp))),m 15 14,fy 16 5 15,on 17 (.call 90 [.t 16]) 15,or 18 15 17]
def adZ:=[o 4 (.mv bp)]
def ad0:=[m 19 5,f 20 2 3 3,l 21 20,o 22 (.nilC (.t 19)),f 23 0 0 22,f 24 6 6 23,p (.br none (.t 24) (.t 21))]
def ad3:=[o 4 (.mv T)]
def B6:aO:=(s (r adW) (s (.bV Y7 adX) (s (s (r adY) (.cond (.t 18) (s (r adZ) .ret) .skip)) (s (r ad0) (s (r ad3) .ret)))))
def NK:List a7:=[.tmp 4]
theorem Vx:bG Tryz.prog Tryz.f177 B6:=e (by kernel_rfl)
theorem XJ:bH Tryz.prog Tryz.f177 NK:=e (by kernel_rfl)
theorem TC:bE Tryz.prog 177:=e (by kernel_rfl)
def Hu:=[l 4 1,o 5 (.len (.t 4)),o 6 (.bin .sub (.t 5) (ai 1)),m 3 6]
def Hv:=[m 7 3,o 8 (.bin .geq (.t 7) (ai 0))]
def Hw:=[m 11 0,m 12 3,l 13 1,m 14 3,o 15 (.is 17 (.t 13) (.t 14)),az 16 17 15,o 17 (.eF (.t 11) [.t 12,.t 16]),no 18 17]
def Hx:=[m 9 3,o 10 (.bin .sub (.t 9) (ai 1)),m 3 10]
def B7:aO:=(s (r Hu) (.block 0 (.loop (s (s (r Hv) (.cond (.t 8) .skip (.exit 0))) (s (.block 1 (s (r Hw) (.cond (.t 18) .ret .skip))) (r Hx))))))
def NL:List a7:=[]
theorem Vy:bG Tryz.prog Tryz.f178 B7:=e (by kernel_rfl)
theorem XK:bH Tryz.prog Tryz.f178 NL:=e (by kernel_rfl)
theorem C6:bE Tryz.prog 178:=e (by kernel_rfl)
def aeh:=[o 4 (.mv (.c (.nils 1)))]
def aei:=[m 5 1,o 6 (.bin .lss (.t 5) (ai 0))]
def aej:=[m 8 1,m 9 0,o 10 (.cap (.t 9)),m 11 0,o 12 (.len (.t 11)),o 13 (.bin .sub (.t 10) (.t 12)),o 14 (.bin .sub (.t 8) (.t 13)),m 1 14]
def aek:=[m 15 1,o 16 (.bin .gtr (.t 15) (ai 0))]
def ael:=[m 17 0,m 18 0,o 19 (.cap (.t 18)),o 20 (.sl 1 (.t 17) none (some (.t 19)) none),m 21 1,o 22 (.lI 3 1 8 (.int .i64 0) (.t 20) (.t 21)),m 23 0,o 24 (.len (.t 23)),o 25 (.sl 1 (.t 22) none (some (.t 24)) none),m 0 25]
def aem:=[m 26 0,m 4 26]
def B9:aO:=(s (r aeh) (s (s (r aei) (.cond (.t 6) .lJ .skip)) (s (s (r aej) (s (r aek) (.cond (.t 16) (r ael) .skip))) (s (r aem) .ret))))
def NN:List a7:=[.tmp 4]
theorem VA:bG Tryz.prog Tryz.f190 B9:=e (by kernel_rfl)
theorem XM:bH Tryz.prog Tryz.f190 NN:=e (by kernel_rfl)
theorem C7:bE Tryz.prog 190:=e (by kernel_rfl)
def Hy:=[b 1 0,o 2 (.mv bp)]
def Hz:=[o 3 (.va 6 1 (.t 1)),o 4 (.call 125 [.t 3,(.c (.func 211 []))]),no 5 4,m 2 5]
def Ca:aO:=(s (r Hy) (s (r Hz) .ret))
def NO:List a7:=[.tmp 2]
theorem VB:bG Tryz.prog Tryz.f193 Ca:=e (by kernel_rfl)
theorem XN:bH Tryz.prog Tryz.f193 NO:=e (by kernel_rfl)
theorem TE:bE Tryz.prog 193:=e (by kernel_rfl)
def HA:=[o 2 (.mv bp)]
def HB:=[m 3 0,m 4 0,o 5 (.bin .neq (.t 3) (.t 4)),m 2 5]
def Cb:aO:=(s (r HA) (s (r HB) .ret))
def NP:List a7:=[.tmp 2]
theorem VC:bG Tryz.prog Tryz.f194 Cb:=e (by kernel_rfl)
theorem XO:bH Tryz.prog Tryz.f194 NP:=e (by kernel_rfl)
theorem TF:bE Tryz.prog 194:=e (by kernel_rfl)
def HC:=[a8 4 0]
def HD:=[m 6 0,o 7 (.len (.t 6)),a8 8 0]
def HE:=[lt 9 8 7]
def HF:=[m 10 8,m 5 10]
def HG:=[m 11 1,m 12 0,m 13 5,o 14 (.is 7 (.t 12) (.t 13)),az 15 7 14,o 16 (.eF (.t 11) [.t 15])]
def HI:=[m 17 5,m 4 17]
def HJ:=[ad 18 8 1,m 8 18]
def HK:=[a8 4 (-1)]
def Cc:aO:=(s (r HC) (s (s (r HD) (.block 0 (.loop (s (r HE) (s (.cond (.t 9) .skip (.exit 0)) (s (.block 1 (s (r HF) (s (r HG) (.cond (.t 16) (s (r HI) .ret) .skip)))) (r HJ))))))) (s (r HK) .ret)))
def NQ:List a7:=[.tmp 4]
theorem VD:bG Tryz.prog Tryz.f195 Cc:=e (by kernel_rfl)
theorem XP:bH Tryz.prog Tryz.f195 NQ:=e (by kernel_rfl)
theorem TG:bE Tryz.prog 195:=e (by kernel_rfl)
def HL:=[o 4 (.mv bp)]
def HM:=[m 5 0,m 6 1,o 7 (.bin .and (.t 5) (.t 6)),o 8 (.bin .neq (.t 7) (ai 0)),m 4 8]
def Cd:aO:=(s (r HL) (s (r HM) .ret))
def NR:List a7:=[.tmp 4]
theorem VE:bG Tryz.prog Tryz.f196 Cd:=e (by kernel_rfl)
theorem XQ:bH Tryz.prog Tryz.f196 NR:=e (by kernel_rfl)
theorem TH:bE Tryz.prog 196:=e (by kernel_rfl)
def HN:=[a8 2 0]
def HO:=[a8 3 0]
def HP:=[a8 5 0]
def HQ:=[o 6 (.bin .lss (.t 5) (ai 6))]
def HR:=[m 7 5,m 4 7]
def HS:=[m 8 0,m 9 4,o 10 (.eF (.t 8) [.t 9]),no 11 10]
def HT:=[m 12 3,ad 13 12 1,m 3 13]
def w0:=[ad 14 5 1,m 5 14]
def HU:=[m 15 3,m 2 15]
def Ce:aO:=(s (r HN) (s (r HO) (s (s (r HP) (.block 0 (.loop (s (r HQ) (s (.cond (.t 6) .skip (.exit 0)) (s (.block 1 (s (r HR) (s (r HS) (.cond (.t 11) (r HT) .skip)))) (r w0))))))) (s (r HU) .ret))))
def NS:List a7:=[.tmp 2]
theorem VF:bG Tryz.prog Tryz.f197 Ce:=e (by kernel_rfl)
theorem XR:bH Tryz.prog Tryz.f197 NS:=e (by kernel_rfl)
theorem TI:bE Tryz.prog 197:=e (by kernel_rfl)
def HV:=[o 6 (.mv bp)]
def HW:=[l 7 1,az 8 5 2,az 9 6 3,m 10 0,o 11 (.call 199 [.t 8,.t 9,.t 10]),az 12 5 2,az 13 6 4,m 14 0,o 15 (.call 199 [.t 12,.t 13,.t 14]),o 16 (.eF (.t 7) [.t 11,.t 15]),m 6 16]
def Y9:=some [[],[],[],[],[1,2,3],[],[],[],[5,6,7,4],[0,4,8,8],[9,9,0,1,2,3,4,5,6,7,8,9]]
def Cf:aO:=(s (r HV) (s (.bV Y9 HW) .ret))
def NT:List a7:=[.tmp 6]
theorem VG:bG Tryz.prog Tryz.f198 Cf:=e (by kernel_rfl)
theorem XS:bH Tryz.prog Tryz.f198 NT:=e (by kernel_rfl)
theorem TJ:bE Tryz.prog 198:=e (by kernel_rfl)
def HX:=[b 3 0,b 4 1,a8 6 0]
def HY:=[m 7 2,o 8 (.ia 6 1 (.t 4) (.t 7)),l 9 8,o 10 (.ia 5 1 (.t 3) (.t 9)),l 11 10,m 6 11]
def Cg:aO:=(s (r HX) (s (r HY) .ret))
def NU:List a7:=[.tmp 6]
theorem VH:bG Tryz.prog Tryz.f199 Cg:=e (by kernel_rfl)
theorem XT:bH Tryz.prog Tryz.f199 NU:=e (by kernel_rfl)
theorem TK:bE Tryz.prog 199:=e (by kernel_rfl)
def xa:=[o 4 (.mv (.c (.nils 7)))]
def xb:=[m 8 0,m 9 1,o 10 (.call 195 [.t 8,.t 9]),m 5 10]
def tg:=[m 11 5,o 12 (.bin .eql (.t 11) (.c (.int .i64 (-1))))]
def xd:=[m 13 0,m 4 13]
def H2:=[m 14 5,ad 15 14 1,m 6 15]
def H3:=[m 16 6,m 17 0,o 18 (.len (.t 17)),lt 19 16 18]
def H4:=[m 22 0,m 23 6,o 24 (.is 7 (.t 22) (.t 23)),az 25 7 24,o 7 (.alloc (.agg [.int .i64 0,.agg [.int .i64 0,.int .i64 0,.int .i64 0,.int .i64 0,.int .i64 0,.int .i64 0]])),p (.br (some 7) (.t 7) (.t 25))]
def H5:=[m 26 1,az 27 7 7,o 28 (.eF (.t 26) [.t 27]),no 29 28]
def H6:=[m 30 0,m 31 5,az 32 7 7,o 33 (.is 7 (.t 30) (.t 31)),p (.br (some 7) (.t 33) (.t 32))]
def H7:=[m 34 5,ad 35 34 1,m 5 35]
def xc:=[m 20 6,ad 21 20 1,m 6 21]
def HZ:=[m 36 0,m 37 5,o 38 (.sl 7 (.t 36) (some (.t 37)) none none),p (.iQ 7 (.agg [.int .i64 0,.agg [.int .i64 0,.int .i64 0,.int .i64 0,.int .i64 0,.int .i64 0,.int .i64 0]]) (.t 38))]
def H0:=[m 39 0,m 40 5,o 41 (.sl 7 (.t 39) none (some (.t 40)) none),m 4 41]
def vA:aO:=(s (r xa) (s (r xb) (s (s (r tg) (.cond (.t 12) (s (r xd) .ret) .skip)) (s (s (r H2) (.block 0 (.loop (s (s (r H3) (.cond (.t 19) .skip (.exit 0))) (s (.block 1 (s (r H4) (s (r H5) (.cond (.t 29) (s (r H6) (r H7)) .skip)))) (r xc)))))) (s (r HZ) (s (r H0) .ret))))))
def y7:List a7:=[.tmp 4]
theorem Dj:bG Tryz.prog Tryz.f200 vA:=e (by kernel_rfl)
theorem DG:bH Tryz.prog Tryz.f200 y7:=e (by kernel_rfl)
theorem C8:bE Tryz.prog 200:=e (by kernel_rfl)
def H8:=[b 3 0,o 4 (.mv bp)]
def H9:=[f 5 0 0 1,az 6 5 5,f 7 1 1 3,az 8 6 7,az 9 6 2,o 10 (.call 202 [.t 6,.t 8,.t 9]),f 11 1 5 1,l 12 11,o 13 (.bin .gtr (.t 10) (.t 12)),m 4 13]
def Za:=some [[],[0],[],[2],[],[1,3,4],[],[6],[5,7],[8,5,0,1,2,3,4,5,6,7,8]]
def Ci:aO:=(s (r H8) (s (.bV Za H9) .ret))
def NW:List a7:=[.tmp 4]
theorem VJ:bG Tryz.prog Tryz.f201 Ci:=e (by kernel_rfl)
theorem XV:bH Tryz.prog Tryz.f201 NW:=e (by kernel_rfl)
theorem TM:bE Tryz.prog 201:=e (by kernel_rfl)
def Ia:=[b 3 0,b 4 1,b 5 2,a8 6 0]
def Ib:=[o 7 (.alloc (.dw)),p (.br none (.t 7) (.c (.func 196 [])))]
def Ic:=[o 8 (.mk 212 [.t 7,.t 3,.t 4,.t 5]),o 9 (.call 197 [.t 8]),m 6 9]
def Cj:aO:=(s (r Ia) (s (r Ib) (s (r Ic) .ret)))
def NX:List a7:=[.tmp 6]
theorem VK:bG Tryz.prog Tryz.f202 Cj:=e (by kernel_rfl)
theorem XW:bH Tryz.prog Tryz.f202 NX:=e (by kernel_rfl)
theorem TN:bE Tryz.prog 202:=e (by kernel_rfl)
def xe:=[m 10 1,ad 11 10 1,m 8 11]
def Ie:=[m 12 8,m 13 2,lt 14 12 13]
def If:=[m 17 8,m 9 17]
def aen:=[m 18 9,m 19 1,o 20 (.bin .gtr (.t 18) (.t 19)),m 21 20,cY 22 3 21,cY 23 0 21,cY 24 9 21,bR 25 (.is 1 (.t 23) (.t 24)) 21,ev 26 25 21,cY 27 0 21,cY 28 9 21,bR 29 (.bin .sub (.t 28) (ai 1)) 21,bR 30 (.is 1 (.t 27) (.t 29)) 21,ev 31 30 21,bR 32 (.eF (.t 22) [.t 26,.t 31]) 21,bR 33 (.bin .lss (.t 32) (ai 0)) 21,and 34 21 33]
def Zb:=some [[],[],[0,1],[2],[3],[3],[3],[5,6,3],[7,3],[3],[3],[10,3],[9,11,3],[12,3],[4,8,13,3,3],[14,3],[3,15]]
def aeo:=[m 37 0,m 38 9,m 39 0,m 40 9,o 41 (.bin .sub (.t 40) (ai 1)),m 42 0,m 43 9,o 44 (.bin .sub (.t 43) (ai 1)),o 45 (.is 1 (.t 42) (.t 44)),l 46 45,m 47 0,m 48 9,o 49 (.is 1 (.t 47) (.t 48)),l 50 49,o 51 (.is 1 (.t 37) (.t 38)),p (.br none (.t 51) (.t 46)),o 52 (.is 1 (.t 39) (.t 41)),p (.br none (.t 52) (.t 50))]
def Zc:=some [[],[],[],[],[3],[],[],[6],[5,7],[8],[],[],[10,11],[12],[0,1,0,1,5,6,7,8,9,13],[14,9,0,1,5,6,7,8,9,13],[2,4,0,1,2,3,4,5,6,7,8,9,10,11,12,13,14,15],[16,13,15,0,1,2,3,4,5,6,7,8,9,10,11,12,13,14,15]]
def aep:=[m 35 9,o 36 (.bin .sub (.t 35) (ai 1)),m 9 36]
def aeq:=[m 15 8,ad 16 15 1,m 8 16]
def vB:aO:=(s (r xe) (.block 0 (.loop (s (s (r Ie) (.cond (.t 14) .skip (.exit 0))) (s (.block 1 (s (r If) (.block 2 (.loop (s (s (.bV Zb aen) (.cond (.t 34) .skip (.exit 2))) (s (.block 3 (.bV Zc aeo)) (r aep))))))) (r aeq))))))
def y8:List a7:=[]
theorem Dk:bG Tryz.prog Tryz.f203 vB:=e (by kernel_rfl)
theorem DH:bH Tryz.prog Tryz.f203 y8:=e (by kernel_rfl)
theorem C9:bE Tryz.prog 203:=e (by kernel_rfl)
def th:=[m 25 2,m 26 1,o 27 (.bin .sub (.t 25) (.t 26)),o 28 (.bin .eql (.t 27) (ai 1))]
def Ig:=[m 29 2,m 10 29]
def Ik:=[m 30 3,m 11 30]
def Iq:=[m 31 10,m 32 11,lt 33 31 32]
def aeK:=[m 34 10,m 35 11,o 36 (.bin .add (.t 34) (.t 35)),o 37 (.conv .u64 (.t 36)),o 38 (.bin .shr (.t 37) (.c (.int .u64 1))),o 39 (.conv .i64 (.t 38)),m 12 39]
def aeQ:=[m 40 4,m 41 0,m 42 12,o 43 (.is 1 (.t 41) (.t 42)),l 44 43,m 45 0,m 46 1,o 47 (.is 1 (.t 45) (.t 46)),l 48 47,o 49 (.eF (.t 40) [.t 44,.t 48]),o 50 (.bin .lss (.t 49) (ai 0))]
def Zh:=some [[],[],[],[1,2],[3],[],[],[5,6],[7],[0,4,8],[9]]
def aeR:=[m 51 12,ad 52 51 1,m 10 52]
def aeS:=[m 53 12,m 11 53]
def Iu:=[m 54 1,m 13 54]
def aeT:=[m 55 13,m 56 10,o 57 (.bin .sub (.t 56) (ai 1)),lt 58 55 57]
def aer:=[m 61 0,m 62 13,m 63 0,m 64 13,ad 65 64 1,m 66 0,m 67 13,ad 68 67 1,o 69 (.is 1 (.t 66) (.t 68)),l 70 69,m 71 0,m 72 13,o 73 (.is 1 (.t 71) (.t 72)),l 74 73,o 75 (.is 1 (.t 61) (.t 62)),p (.br none (.t 75) (.t 70)),o 76 (.is 1 (.t 63) (.t 65)),p (.br none (.t 76) (.t 74))]
def Zd:=some [[],[],[],[],[3],[],[],[6],[5,7],[8],[],[],[10,11],[12],[0,1,0,1,5,6,7,8,9,13],[14,9,0,1,5,6,7,8,9,13],[2,4,0,1,2,3,4,5,6,7,8,9,10,11,12,13,14,15],[16,13,15,0,1,2,3,4,5,6,7,8,9,10,11,12,13,14,15]]
def aes:=[m 59 13,ad 60 59 1,m 13 60]
def xf:=[m 77 3,m 78 2,o 79 (.bin .sub (.t 77) (.t 78)),o 80 (.bin .eql (.t 79) (ai 1))]
def Ih:=[m 81 1,m 14 81]
def Ii:=[m 82 2,m 15 82]
def Ij:=[m 83 14,m 84 15,lt 85 83 84]
def aet:=[m 86 14,m 87 15,o 88 (.bin .add (.t 86) (.t 87)),o 89 (.conv .u64 (.t 88)),o 90 (.bin .shr (.t 89) (.c (.int .u64 1))),o 91 (.conv .i64 (.t 90)),m 16 91]
def aeu:=[m 92 4,m 93 0,m 94 2,o 95 (.is 1 (.t 93) (.t 94)),l 96 95,m 97 0,m 98 16,o 99 (.is 1 (.t 97) (.t 98)),l 100 99,o 101 (.eF (.t 92) [.t 96,.t 100]),o 102 (.bin .lss (.t 101) (ai 0)),no 103 102]
def Ze:=some [[],[],[],[1,2],[3],[],[],[5,6],[7],[0,4,8],[9],[10]]
def aev:=[m 104 16,ad 105 104 1,m 14 105]
def aew:=[m 106 16,m 15 106]
def Il:=[m 107 2,m 17 107]
def aex:=[m 108 17,m 109 14,o 110 (.bin .gtr (.t 108) (.t 109))]
def aey:=[m 113 0,m 114 17,m 115 0,m 116 17,o 117 (.bin .sub (.t 116) (ai 1)),m 118 0,m 119 17,o 120 (.bin .sub (.t 119) (ai 1)),o 121 (.is 1 (.t 118) (.t 120)),l 122 121,m 123 0,m 124 17,o 125 (.is 1 (.t 123) (.t 124)),l 126 125,o 127 (.is 1 (.t 113) (.t 114)),p (.br none (.t 127) (.t 122)),o 128 (.is 1 (.t 115) (.t 117)),p (.br none (.t 128) (.t 126))]
def Zf:=some [[],[],[],[],[3],[],[],[6],[5,7],[8],[],[],[10,11],[12],[0,1,0,1,5,6,7,8,9,13],[14,9,0,1,5,6,7,8,9,13],[2,4,0,1,2,3,4,5,6,7,8,9,10,11,12,13,14,15],[16,13,15,0,1,2,3,4,5,6,7,8,9,10,11,12,13,14,15]]
def aez:=[m 111 17,o 112 (.bin .sub (.t 111) (ai 1)),m 17 112]
def Im:=[m 129 1,m 130 3,o 131 (.bin .add (.t 129) (.t 130)),o 132 (.conv .u64 (.t 131)),o 133 (.bin .shr (.t 132) (.c (.int .u64 1))),o 134 (.conv .i64 (.t 133)),m 18 134]
def Io:=[m 135 18,m 136 2,o 137 (.bin .add (.t 135) (.t 136)),m 19 137]
def Ip:=[a8 20 0,a8 21 0]
def aeA:=[m 138 2,m 139 18,o 140 (.bin .gtr (.t 138) (.t 139))]
def aeB:=[m 141 19,m 142 3,o 143 (.bin .sub (.t 141) (.t 142)),m 20 143]
def aeC:=[m 144 18,m 21 144]
def aeD:=[m 145 1,m 20 145]
def aeE:=[m 146 2,m 21 146]
def Ir:=[m 147 19,o 148 (.bin .sub (.t 147) (ai 1)),m 22 148]
def Is:=[m 149 20,m 150 21,lt 151 149 150]
def aeF:=[m 152 20,m 153 21,o 154 (.bin .add (.t 152) (.t 153)),o 155 (.conv .u64 (.t 154)),o 156 (.bin .shr (.t 155) (.c (.int .u64 1))),o 157 (.conv .i64 (.t 156)),m 23 157]
def aeG:=[m 158 4,m 159 0,m 160 22,m 161 23,o 162 (.bin .sub (.t 160) (.t 161)),o 163 (.is 1 (.t 159) (.t 162)),l 164 163,m 165 0,m 166 23,o 167 (.is 1 (.t 165) (.t 166)),l 168 167,o 169 (.eF (.t 158) [.t 164,.t 168]),o 170 (.bin .lss (.t 169) (ai 0)),no 171 170]
def Zg:=some [[],[],[],[],[2,3],[1,4],[5],[],[],[7,8],[9],[0,6,10],[11],[12]]
def aeH:=[m 172 23,ad 173 172 1,m 20 173]
def aeI:=[m 174 23,m 21 174]
def It:=[m 175 19,m 176 20,o 177 (.bin .sub (.t 175) (.t 176)),m 24 177]
def aeJ:=[m 178 20,m 179 2,lt 180 178 179,m 181 180,cY 182 2 181,cY 183 24 181,bR 184 (.bin .lss (.t 182) (.t 183)) 181,and 185 181 184]
def aeL:=[m 186 0,m 187 20,m 188 2,m 189 24,m 190 4,o 191 (.call 213 [.t 186,.t 187,.t 188,.t 189,.t 190])]
def aeM:=[m 192 1,m 193 20,lt 194 192 193,m 195 194,cY 196 20 195,cY 197 18 195,bR 198 (.bin .lss (.t 196) (.t 197)) 195,and 199 195 198]
def aeN:=[m 200 0,m 201 1,m 202 20,m 203 18,m 204 4,o 205 (.call 204 [.t 200,.t 201,.t 202,.t 203,.t 204])]
def aeO:=[m 206 18,m 207 24,lt 208 206 207,m 209 208,cY 210 24 209,cY 211 3 209,bR 212 (.bin .lss (.t 210) (.t 211)) 209,and 213 209 212]
def aeP:=[m 214 0,m 215 18,m 216 24,m 217 3,m 218 4,o 219 (.call 204 [.t 214,.t 215,.t 216,.t 217,.t 218])]
def sO:aO:=(s (s (r th) (.cond (.t 28) (s (r Ig) (s (r Ik) (s (.block 0 (.loop (s (s (r Iq) (.cond (.t 33) .skip (.exit 0))) (.block 1 (s (r aeK) (s (.bV Zh aeQ) (.cond (.t 50) (r aeR) (r aeS)))))))) (s (s (r Iu) (.block 2 (.loop (s (s (r aeT) (.cond (.t 58) .skip (.exit 2))) (s (.block 3 (.bV Zd aer)) (r aes)))))) .ret)))) .skip)) (s (s (r xf) (.cond (.t 80) (s (r Ih) (s (r Ii) (s (.block 4 (.loop (s (s (r Ij) (.cond (.t 85) .skip (.exit 4))) (.block 5 (s (r aet) (s (.bV Ze aeu) (.cond (.t 103) (r aev) (r aew)))))))) (s (s (r Il) (.block 6 (.loop (s (s (r aex) (.cond (.t 110) .skip (.exit 6))) (s (.block 7 (.bV Zf aey)) (r aez)))))) .ret)))) .skip)) (s (r Im) (s (r Io) (s (r Ip) (s (s (r aeA) (.cond (.t 140) (s (r aeB) (r aeC)) (s (r aeD) (r aeE)))) (s (r Ir) (s (.block 8 (.loop (s (s (r Is) (.cond (.t 151) .skip (.exit 8))) (.block 9 (s (r aeF) (s (.bV Zg aeG) (.cond (.t 171) (r aeH) (r aeI)))))))) (s (r It) (s (s (r aeJ) (.cond (.t 185) (r aeL) .skip)) (s (s (r aeM) (.cond (.t 199) (r aeN) .skip)) (s (r aeO) (.cond (.t 213) (r aeP) .skip)))))))))))))
def um:List a7:=[]
theorem vI:bG Tryz.prog Tryz.f204 sO:=e (by kernel_rfl)
theorem vR:bH Tryz.prog Tryz.f204 um:=e (by kernel_rfl)
theorem vF:bE Tryz.prog 204:=e (by kernel_rfl)
def IF:=[o 2 (.mv bp)]
def IG:=[m 3 0,o 4 (.bin .eql (.t 3) (ai 0)),m 5 4,fy 6 0 5,on 7 (.call 160 [.t 6]) 5,on 8 (.un .not (.t 7)) 5,or 9 5 8,m 2 9]
def Cl:aO:=(s (r IF) (s (r IG) .ret))
def NZ:List a7:=[.tmp 2]
theorem VM:bG Tryz.prog Tryz.f211 Cl:=e (by kernel_rfl)
theorem XY:bH Tryz.prog Tryz.f211 NZ:=e (by kernel_rfl)
theorem TP:bE Tryz.prog 211:=e (by kernel_rfl)
def IH:=[o 6 (.mv bp)]
def II:=[l 7 1,az 8 5 2,az 9 6 3,m 10 0,o 11 (.call 199 [.t 8,.t 9,.t 10]),m 12 0,o 13 (.ia 6 1 (.t 4) (.t 12)),l 14 13,o 15 (.eF (.t 7) [.t 11,.t 14]),m 6 15]
def Zj:=some [[],[],[],[],[1,2,3],[],[5],[6],[0,4,7,4],[8,8,0,1,2,3,4,5,6,7,8]]
def Cm:aO:=(s (r IH) (s (.bV Zj II) .ret))
def N0:List a7:=[.tmp 6]
theorem VN:bG Tryz.prog Tryz.f212 Cm:=e (by kernel_rfl)
theorem XZ:bH Tryz.prog Tryz.f212 N0:=e (by kernel_rfl)
theorem TQ:bE Tryz.prog 212:=e (by kernel_rfl)
def IJ:=[m 12 2,m 13 1,o 14 (.bin .sub (.t 12) (.t 13)),m 10 14]
def IK:=[m 15 3,m 16 2,o 17 (.bin .sub (.t 15) (.t 16)),m 11 17]
def IL:=[m 18 10,m 19 11,o 20 (.bin .neq (.t 18) (.t 19))]
def IM:=[m 21 10,m 22 11,o 23 (.bin .gtr (.t 21) (.t 22))]
def IN:=[m 24 0,m 25 2,m 26 10,o 27 (.bin .sub (.t 25) (.t 26)),m 28 2,m 29 11,m 30 4,o 31 (.call 216 [.t 24,.t 27,.t 28,.t 29,.t 30])]
def IP:=[m 32 10,m 33 11,o 34 (.bin .sub (.t 32) (.t 33)),m 10 34]
def IQ:=[m 35 0,m 36 2,m 37 10,o 38 (.bin .sub (.t 36) (.t 37)),m 39 2,m 40 11,o 41 (.bin .add (.t 39) (.t 40)),m 42 10,o 43 (.bin .sub (.t 41) (.t 42)),m 44 10,m 45 4,o 46 (.call 216 [.t 35,.t 38,.t 43,.t 44,.t 45])]
def IS:=[m 47 11,m 48 10,o 49 (.bin .sub (.t 47) (.t 48)),m 11 49]
def IT:=[m 50 0,m 51 2,m 52 10,o 53 (.bin .sub (.t 51) (.t 52)),m 54 2,m 55 10,m 56 4,o 57 (.call 216 [.t 50,.t 53,.t 54,.t 55,.t 56])]
def Cn:aO:=(s (r IJ) (s (r IK) (s (.block 0 (.loop (s (s (r IL) (.cond (.t 20) .skip (.exit 0))) (.block 1 (s (r IM) (.cond (.t 23) (s (r IN) (r IP)) (s (r IQ) (r IS)))))))) (r IT))))
def N1:List a7:=[]
theorem VO:bG Tryz.prog Tryz.f213 Cn:=e (by kernel_rfl)
theorem X0:bH Tryz.prog Tryz.f213 N1:=e (by kernel_rfl)
theorem TR:bE Tryz.prog 213:=e (by kernel_rfl)
def IU:=[a8 10 0]
def aeU:=[m 11 10,m 12 3,lt 13 11 12]
def aeV:=[m 16 0,m 17 1,m 18 10,o 19 (.bin .add (.t 17) (.t 18)),m 20 0,m 21 2,m 22 10,o 23 (.bin .add (.t 21) (.t 22)),m 24 0,m 25 2,m 26 10,o 27 (.bin .add (.t 25) (.t 26)),o 28 (.is 1 (.t 24) (.t 27)),l 29 28,m 30 0,m 31 1,m 32 10,o 33 (.bin .add (.t 31) (.t 32)),o 34 (.is 1 (.t 30) (.t 33)),l 35 34,o 36 (.is 1 (.t 16) (.t 19)),p (.br none (.t 36) (.t 29)),o 37 (.is 1 (.t 20) (.t 23)),p (.br none (.t 37) (.t 35))]
def Zk:=some [[],[],[],[1,2],[],[],[],[5,6],[],[],[],[9,10],[8,11],[12],[],[],[],[15,16],[14,17],[18],[0,3,0,1,2,3,8,9,10,11,12,13,19],[20,13,0,1,2,3,8,9,10,11,12,13,19],[4,7,0,1,2,3,4,5,6,7,8,9,10,11,12,13,14,15,16,17,18,19,20,21],[22,19,21,0,1,2,3,4,5,6,7,8,9,10,11,12,13,14,15,16,17,18,19,20,21]]
def aeW:=[m 14 10,ad 15 14 1,m 10 15]
def Co:aO:=(s (r IU) (.block 0 (.loop (s (s (r aeU) (.cond (.t 13) .skip (.exit 0))) (s (.block 1 (.bV Zk aeV)) (r aeW))))))
def N2:List a7:=[]
theorem VP:bG Tryz.prog Tryz.f216 Co:=e (by kernel_rfl)
theorem X1:bH Tryz.prog Tryz.f216 N2:=e (by kernel_rfl)
theorem TS:bE Tryz.prog 216:=e (by kernel_rfl)
end Go.Proofs.YtcldiigclhgafaaGreat
namespace Go.Proofs.YtcldiigclhgafaaGreat
open Go Go.Abs
open Go.Abs.Enc (enc)
theorem Ay(n lo hi:Int):ay Tryz.prog 94 [enc n,enc lo,enc hi] (enc (decide (lo≤n)&&decide (n≤hi))):=by
 refine ay.bn Tryz.func94 Ut Wo YA (t7 rfl) (fun hwf W0 D0 E1 =>?_);simp only[CW,OF,bg,zz4,Nat.reduceAdd];refine .ao (by decide +kernel) fun K hK =>?_;simp only[Kj,U,simprocAttr];refine .done (hK _ ?_);clear hK K;refine .ao (by decide +kernel) fun K hK =>?_;simp only[Kk,U,simprocAttr];refine .guard (fun h =>?_) (fun h =>?_)
 ·simp only[U,simprocAttr,h];refine .done (hK _ ?_);clear hK K;refine J.ret ?_;simp only[U,simprocAttr]
  simp_all
 ·simp only[U,simprocAttr,h];refine .done (hK _ ?_);clear hK K;refine J.ret ?_;simp only[U,simprocAttr];simp at h;simp;omega
theorem anH(l:List Int)(n:Int):ay Tryz.prog 36 [enc l,enc n] (enc (decide (n∈l))):=by
 refine ay.bn Tryz.func36 T4 VZ Yb (t7 rfl) (fun hwf W0 D0 E1 =>?_);simp only[Cy,Oc,bg,zz4];have hlen:l.length≤maxLen:=((lC l).1 hwf.1).1;simp only[maxLen] at hlen;refine .ao (by decide +kernel) fun K hK =>?_;simp only[Jm,U,simprocAttr];refine .done (hK _ ?_);clear hK K;refine J.seq ?_;refine .ao (by decide +kernel) fun K hK =>?_;simp only[Jn,U,simprocAttr];refine .done (hK _ ?_);clear hK K;refine J.block (J.loop (fun i:Nat=>au [(0,enc l),(1,.int .i64 n),(4,.bool false),(5,.int .i64 i)] []) (fun i=>i≤l.length∧n∉l.take i) (fun i=>l.length-i) 0 ⟨zw7 _,by simp⟩ ?_ (fun i hi =>?_))
 ·refine aC.bI ?_ ?_ ?_ ?_ <;>simp[aT,bC,bB,a6,aV,I.only,bh]
 ·refine J.seq (J.seq ?_);refine .bx (by decide +kernel) fun K hK =>?_;simp only[Jo,U,simprocAttr]
  try simp only[bd,U,simprocAttr]
  refine .done (hK _ ?_);clear hK K;try simp only[ar]
  refine J.bM ?_;simp only[ak,U,simprocAttr];refine ⟨fun h =>?_,fun h =>?_⟩
  ·have hlt:i<l.length:=by simpa using h
   refine J.skip ?_;try simp only[ar,simprocAttr]
   refine J.seq (J.block ?_);refine .ao (by decide +kernel) fun K hK =>?_;simp only[Jp,U,simprocAttr]
   try simp only[ft 1 hlt rfl,U,simprocAttr]
   refine .done (hK _ ?_);clear hK K;refine J.bM ?_;simp only[ak,U,simprocAttr];refine ⟨fun h =>?_,fun h =>?_⟩
   ·refine .ao (by decide +kernel) fun K hK =>?_;simp only[Jq,U,simprocAttr];refine .done (hK _ ?_);clear hK K;refine J.ret ?_;simp only[bO,ar,U,simprocAttr];simp at h;simp[←h]
   ·refine J.skip ?_;try simp only[ar,bO,simprocAttr]
    refine .bx (by decide +kernel) fun K hK =>?_;simp only[Jr,U,simprocAttr];refine .done (hK _ ?_);clear hK K;try simp only[ar]
    refine ⟨i+1,⟨by omega,fun hm =>?_⟩,by omega,?_⟩
    ·rw[zy1 hlt] at hm;rcases zy4.1 hm with hm | hm
     ·exact hi.2 hm
     ·simp at h hm;exact h hm.symm
    ·rw[cF _ (by omega) (by omega)];refine aC.bI ?_ ?_ ?_ ?_ <;>simp[aT,bC,bB,a6,aV,I.only,bh]
  ·have hge:i=l.length:=by simp at h;omega
   refine J.exit ?_;try simp only[ar,bO,simprocAttr]
   refine .ao (by decide +kernel) fun K hK =>?_;simp only[Js,U,simprocAttr];refine .done (hK _ ?_);clear hK K;refine J.ret ?_;simp only[U,simprocAttr];simp[hge] at hi;simp[hi]
theorem zL(n d:Int)(h0:0<d)(h1:d≤4611686018427387904):IntKind.i64.wrap (n.tmod d+d)=n.tmod d+d∧(n.tmod d+d).tmod d=n%d:=by
 have a1:n.tmod d<d:=Int.tmod_lt_of_pos n h0;have a2:-d<n.tmod d:=by
  have:=Int.tmod_lt_of_pos (-n) h0;rw[Int.neg_tmod] at this;omega
 refine ⟨cF _ (by omega) (by omega),?_⟩;rw[Int.tmod_eq_emod_of_nonneg (by omega),Int.add_emod_right];rw[Int.tmod_def,Int.sub_mul_emod_self_left]
theorem gN(n d:Int)(h0:0<d)(h1:d≤4611686018427387904):ay Tryz.prog 25 [enc n,enc d] (enc (n%d)):=by
 refine ay.bn Tryz.func25 TW VT X5 (t7 rfl) (fun hwf W0 D0 E1 =>?_);simp only[Cs,N6,bg,zz4];have hd:¬ d=0:=by omega
 refine .ao (by decide +kernel) fun K hK =>?_;simp only[I4,U,simprocAttr];refine .done (hK _ ?_);clear hK K;refine .ao (by decide +kernel) fun K hK =>?_;simp only[I5,U,simprocAttr]
 try simp only[hd,U,simprocAttr]
 refine .done (hK _ ?_);clear hK K;refine J.ret ?_;simp only[U,simprocAttr];rw[(zL n d h0 h1).1,(zL n d h0 h1).2]
def bF(c:List Int)(i:Int):Int:=if c=[] then 0 else c.getD (i%c.length).toNat 0
theorem mH(c:List Int)(i:Int)(hc:c.length≤4611686018427387904):ay Tryz.prog 34 [enc c,enc i] (enc (bF c i)):=by
 refine ay.bn Tryz.func34 T0 VX X9 (t7 rfl) (fun hwf W0 D0 E1 =>?_);simp only[Cw,Oa,bg,zz4];refine .ao (by decide +kernel) fun K hK =>?_;simp only[I6,U,simprocAttr];refine .done (hK _ ?_);clear hK K;refine J.seq (J.seq ?_);refine .bx (by decide +kernel) fun K hK =>?_;simp only[I7,U,simprocAttr]
 try simp only[bd,U,simprocAttr]
 refine .done (hK _ ?_);clear hK K;try simp only[ar]
 refine J.bM ?_;simp only[ak,U,simprocAttr];refine ⟨fun h =>?_,fun h =>?_⟩
 ·refine .ao (by decide +kernel) fun K hK =>?_;simp only[I8,U,simprocAttr];refine .done (hK _ ?_);clear hK K;refine J.ret ?_;simp only[ar,U,simprocAttr];simp at h;simp[bF,h]
 ·simp at h;have hpos:0<c.length:=List.length_pos_iff.2 h;have k1:0≤i%(c.length:Int):=zw8 _ (by omega);have k2:i%(c.length:Int)<c.length:=zv7 _ (by omega);have k3:(i%(c.length:Int)).toNat<c.length:=by omega
  refine J.skip ?_;try simp only[ar,simprocAttr]
  refine .ao (by decide +kernel) fun K hK =>?_;simp only[I9,U,simprocAttr]
  try simp only[bd,zz8,zx1,U,simprocAttr]
  refine .flat _ (gN i c.length (by omega) (by omega)) rfl ?_
  try simp only[U,simprocAttr]
  try simp only[K4 1 ⟨k1,k3⟩ rfl,U,simprocAttr]
  refine .done (hK _ ?_);clear hK K;refine J.ret ?_;simp only[U,simprocAttr];simp[bF,h,zz0,k3]
def cj(lo hi n:Int):Bool:=decide (lo≤n)&&decide (n≤hi)
def oD(a b:Int):Int:=IntKind.i64.wrap ((BitVec.ofInt IntKind.i64.bits a &&& BitVec.ofInt IntKind.i64.bits b).toNat:Int)
def shl(a:Int)(k:Nat):Int:=IntKind.i64.wrap (a*2^min k IntKind.i64.bits)
theorem P6(m:aW 6 Int):ay Tryz.prog 100 [enc m] (enc (if (List.range 6).all (fun i=>cj 0 4 (m.g i)) then (0:Int) else 10)):=by
 refine ay.bn Tryz.func100 SG UB WL (t7 rfl) (fun hwf W0 D0 E1 =>?_);simp only[A8,MJ,bg];refine .ao (by decide +kernel) fun K hK =>?_;simp only[EM,U,simprocAttr];refine .done (hK _ ?_);clear hK K;refine J.seq ?_;refine .ao (by decide +kernel) fun K hK =>?_;simp only[EN,U,simprocAttr];refine .done (hK _ ?_);clear hK K;refine J.block (J.loop (fun i:Nat=>au [(1,.ptr 1 []),(2,.int .i64 0),(3,.int .i64 i)] [(1,.box (enc m))]) (fun j=>j≤6∧∀ i,i<j→cj 0 4 (m.g i)=true) (fun i=>6-i) 0 ⟨by omega,fun k h=>by omega⟩ ?_ (fun i hi =>?_))
 ·refine aC.bI ?_ ?_ ?_ ?_ <;>simp[aT,bC,bB,a6,al,aV,cg,I.only,ah.only,bh]
 ·refine J.seq (J.seq ?_);refine .bx (by decide +kernel) fun K hK =>?_;simp only[EO,U,simprocAttr];refine .done (hK _ ?_);clear hK K;try simp only[ar]
  refine J.bM ?_;simp only[ak,U,simprocAttr];refine ⟨fun h =>?_,fun h =>?_⟩
  ·have hlt:i<6:=by simp at h;omega
   refine J.skip ?_;try simp only[ar,simprocAttr]
   refine J.seq (J.block ?_);refine .ao (by decide +kernel) fun K hK =>?_;simp only[EP,U,simprocAttr]
   try simp only[bd,jH 1 m hlt rfl,eW m hlt,U,simprocAttr]
   refine .flat _ (Ay _ 0 4) rfl ?_
   try simp only[U,simprocAttr]
   refine .done (hK _ ?_);clear hK K;refine J.bM ?_;simp only[ak,U,simprocAttr];refine ⟨fun h =>?_,fun h =>?_⟩
   ·refine .ao (by decide +kernel) fun K hK =>?_;simp only[ER,U,simprocAttr];refine .done (hK _ ?_);clear hK K;refine J.ret ?_;simp only[bO,ar,U,simprocAttr];rw[oB i hlt]
    ·simp
    ·simp at h;simp[cj];omega
   ·refine J.skip ?_;try simp only[ar,bO,simprocAttr]
    refine .bx (by decide +kernel) fun K hK =>?_;simp only[ES,U,simprocAttr];refine .done (hK _ ?_);clear hK K;try simp only[ar]
    refine ⟨i+1,⟨by omega,fun k hk =>?_⟩,by omega,?_⟩
    ·by_cases hk':k=i
     ·subst hk';simpa[cj] using h
     ·exact hi.2 k (by omega)
    ·rw[cF _ (by omega) (by omega)];refine aC.bI ?_ ?_ ?_ ?_ <;>simp[aT,bC,bB,a6,al,aV,cg,I.only,ah.only,bh]
  ·have hge:i=6:=by simp at h;omega
   subst hge;refine J.exit ?_;try simp only[ar,bO,simprocAttr]
   refine .ao (by decide +kernel) fun K hK =>?_;simp only[ET,U,simprocAttr];refine .done (hK _ ?_);clear hK K;refine J.ret ?_;simp only[U,simprocAttr];rw[qN hi.2];simp
end Go.Proofs.YtcldiigclhgafaaGreat
