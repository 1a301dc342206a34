/-
  A part of the proof that the law HerdLines returns true for every input; conditions: none beyond the statement's own. (part 3 of 7)
-/
import Derived.RangeFuncIn
import Derived.Laws.Externs
import Derived.ProofKit
import Derived.SizedLaws
import Derived.Test.YtcldiigclhgafaaGreatChecked
import Derived.KernelRfl
import Derived.Test.YtcldiigclhgafaaGreatNjb
set_option linter.unusedSimpArgs false
set_option linter.unusedVariables false
set_option maxHeartbeats 16000000
set_option maxRecDepth 100000
namespace Go.Abs
open Go Go.RowKit
open Enc (enc)
mutual
theorem jd{p q:Nat→Bool}(h:∀ n,p n=true→q n=true):∀ x:I,x.only p=true→x.only q=true
 | .agg fs,hx | .tuple fs,hx=>by simp only[I.only] at *;exact iG h fs hx
 | .slice _ es,hx=>by simp only[I.only] at *;exact iG h es hx
 | .ref x,hx=>by simp only[I.only] at *;exact jd h x hx
 | .func _ caps,hx=>by simp only[I.only] at *;exact iG h caps hx
 | .iface _ v,hx=>by simp only[I.only] at *;exact jd h v hx
 | .ptr _ _,hx | .own _ _,hx | .view _ _ _ _ _,hx | .mref _,hx | .dv _,hx=>by simp only[I.only] at *;exact h _ hx
 | .cI ks vs,hx=>by simp only[I.only,zz2] at *;exact ⟨iG h ks hx.1,iG h vs hx.2⟩
 | .bool _,_ | .int _ _,_ | .cY _,_ | .nilp,_ | .df,_ | .dY,_ | .raw _,_ | .nils _,_ | .c0 _,_ | .undef,_ | .dp,_=>by simp[I.only]
theorem iG{p q:Nat→Bool}(h:∀ n,p n=true→q n=true):∀ xs:List I,I.bU p xs=true→I.bU q xs=true
 | [],_=>rfl
 |x::xs,hx=>by
  simp only[I.bU,zz2] at *;exact ⟨jd h x hx.1,iG h xs hx.2⟩
end
theorem ai.jd{p q:Nat→Bool}(h:∀ n,p n=true→q n=true)(x:ai)(hx:x.only p=true):x.only q=true:=by
 cases x with
 |box y=>simp only[ai.only] at *;exact Abs.jd h y hx
 |bX T sz es=>simp only[ai.only] at *;exact iG h es hx
 |dQ o=>rfl
 |cV T xs=>rfl
 |cv ks vs=>simp only[ai.only,zz2] at *;exact ⟨iG h ks hx.1,iG h vs hx.2⟩
 |it ks vs left cur=>simp only[ai.only,zz2] at *;exact ⟨iG h ks hx.1,iG h vs hx.2⟩
theorem JL{x:I}(h:x.bn=true):x.b8=true:=by
 cases x <;>first | rfl | simp[I.bn] at h
theorem uY{aA:Bool}{A0:ae}{ρ:List (Nat×Nat)}{os:List (Nat×ai)} : ∀ xs:List I,I.bW xs=true→jr aA A0 ρ os xs xs
 | [],_=>trivial
 |x::xs,h=>by
  simp only[I.bW,zz2] at h;exact ⟨.inl ⟨(mO _ x h.1).symm,mJ _ x h.1,JL h.1⟩,uY xs h.2⟩
structure fp (os os':List (Nat×ai)):Prop where
 same:∀ m,al os' m=al os m
 ok:∀ m x,ak os' m=some x→x.only (al os')=true∧x.eG=true
 oj:∀ m,al os m=true→1000000≤m
def uP(P:Program)(g:FuncId)(caps:List I)(N:Nat)(item:Nat→List I):Prop :=
 ∀ (Y:Value→List I→List (Nat×ai)→cT→Prop) (v:Value) (aj:Nat→List (Nat×ai)→Prop) (Ix:List (Nat×ai)→Prop) (os:List (Nat×ai)),v.oneCell'=true →
  (∀ k os' post,k<N→aj k os'→(∀ r os2,(r=.bool true∧aj (k+1) os2)∨(r=.bool false∧Ix os2)→post r os2)→Y v (item k) os' post) →
  (∀ k os',aj k os'→fp os os')→(∀ os',Ix os'→fp os os')→aj 0 os→kE P g Y (.raw v::caps) os (fun r os'=>r=.tuple []∧(aj N os'∨Ix os'))
def dn(o:Obj)(os:List (Nat×ai)):List (Nat×ai):=(1999999,.dQ o)::os
theorem lO(o:Obj)(os:List (Nat×ai))(m:Nat):al (dn o os) m=(decide (m=1999999)||al os m):=by
 simp only[dn,al,ak];by_cases h:m=1999999 <;>simp[h]
theorem pQ(o:Obj)(os:List (Nat×ai))(m:Nat):ak (dn o os) m=if m=1999999 then some (.dQ o) else ak os m:=rfl
theorem fp.dn{os os':List (Nat×ai)}(h:fp os os')(o o':Obj):fp (dn o os) (dn o' os'):=by
 refine ⟨fun m=>by rw[lO,lO,h.same],fun m x hx =>?_,fun m hm =>?_⟩
 ·rw[pQ] at hx;split at hx
  ·cases hx;exact ⟨rfl,rfl⟩
  ·obtain ⟨h1,h2⟩:=h.ok m x hx;exact ⟨x.jd (fun n hn=>by rw[lO,hn];simp) h1,h2⟩
 ·rw[lO] at hm;simp only[Bool.or_eq_true,decide_eq_true_eq] at hm;rcases hm with rfl | hm
  ·decide
  ·exact h.oj m hm
def qc:List Nat→List I→List (Nat×I)→List (Nat×I)
 |p::ps,v::vs,ts=>qc ps vs ((p,v)::ts)
 |_,_,ts=>ts
def l5(ρ:List (Nat×Nat))(p:Nat→Bool)(ts:List (Nat×I)):List (Nat×I)→Prop
 | []=>True
 |(k,v)::r=>cn ts k=v.aK (bx ρ)∧v.only p=true∧l5 ρ p ts r
theorem NR{ρ:List (Nat×Nat)}{p:Nat→Bool}{ts:List (Nat×I)} : ∀ {tsR:List (Nat×I)},l5 ρ p ts tsR→∀ k,cn tsR k=.dp∨(cn ts k=(cn tsR k).aK (bx ρ)∧(cn tsR k).only p=true)
 | [],_,k=>.inl rfl
 |(j,v)::r,h,k=>by
  simp only[l5] at h;simp only[cn];split
  ·rename_i hk;subst hk;exact .inr ⟨h.1,h.2.1⟩
  ·exact NR h.2.2 k
section
variable {c:cS} {a:Act} {w:World} {D:aM} {E:aW}
theorem aS.yQ{A:ae}(h:aS c A a w D E){n b:Nat}{o o':Obj}(hn:A.o n=some (.dQ o))(aw:E n=some (.op b))(ho:pL o'=true):aS c (A.aL n (.dQ o')) a (w.putObj b o') D E:=by
 have hob:=h.bT n;rw[hn] at hob;obtain ⟨b',k1,k2,k3,k4,k5⟩:=hob;rw[aw] at k1;cases k1;have hnc:o.isCells=false:=by cases o <;>first | rfl | cases k4
 have hlt:b<w.heap.size:=fW k3;have hl:dS w D E (w.putObj b o') D E:=⟨fun _ _ h=>h,fun b1 o1 v _ hv=>vi k3 hnc hv,fun _ _ _ h=>h,fun _ aE l h=>⟨aE,l,h,zz7 _,fun _=>rfl⟩,fun _ _ h=>h,fun _ _ h=>h,fun b1 es ck hd hm=>(World.putObj_heap_other (fun e1=>k5 0 (by rw[←e1];exact hd))).trans hm⟩
 refine ⟨h.sz,h.eU.mono fun B _ hB=>(World.putObj_heap_other (fun e=>by rw[e,k3] at hB;cases hB;cases k4)).trans hB,fun t=>aV.bI hl (h.eB t),h.dZ.trans ⟨rfl,rfl,rfl,by simp,fun k hk=>World.putObj_heap_other (fun e=>hk (e▸k2))⟩,h.da,
  fun b1 o1 hd=>by have:=h.dq b1 o1 hd;simpa using this,fun m =>?_,h.cU,h.ed,h.fb,h.cO,h.fg,h.lg hl⟩
 simp only[ae.aL];by_cases hm:m=n
 ·subst hm;simp only[if_true,dg];exact ⟨b,aw,k2,World.putObj_heap_same hlt,ho,k5⟩
 ·simp only[if_neg hm];exact (h.bT m).bI hl rfl fun e b1 he hb=>⟨World.putObj_heap_other (fun e1=>hm (h.cU m n e _ b1 he aw hb (by rw[e1];rfl))),fun _ ho=>ho⟩
theorem aS.X3{A:ae}(h:aS c A a w D E){n b:Nat}(aw:E n=some (.op b)):aS c ⟨A.t,fun m=>if m=n then none else A.o m⟩ a w D (fun m=>if m=n then none else E m):=by
 have hne:∀ {m:Nat} {e:bR},E m=some e→(∀ b,e≠.op b)→m≠n:=fun he h2 e'=>by
  subst e';rw[aw] at he;cases he;exact h2 _ rfl
 have hl:dS w D E w D (fun m=>if m=n then none else E m):=by
  refine ⟨fun _ _ h=>h,fun _ _ _ _ h=>h,fun m b aO he =>?_,fun m aE l he=>⟨aE,l,?_,zz7 _,fun _=>rfl⟩,fun m b he =>?_,fun m b he =>?_,fun _ _ _ _ h=>h⟩
  ·simp only[if_neg (hne he (fun b=>by simp))];exact he
  ·simp only[if_neg (hne he (fun b=>by simp))];exact he
  ·simp only[if_neg (hne he (fun b=>by simp))];exact he
  ·simp only[if_neg (hne he (fun b=>by simp))];exact he
 refine ⟨h.sz,h.eU,fun t=>aV.bI hl (h.eB t),h.dZ,h.da,h.dq,fun m =>?_,fun m m' e e' b h1 h2 h3 h4 =>?_,fun m e hm =>?_,h.fb,h.cO,h.fg,h.fJ⟩
 ·by_cases hm:m=n
  ·simp only[hm,if_true,dg]
  ·simp only[if_neg hm];exact (h.bT m).bI hl (by simp only[if_neg hm]) fun _ _ _ _=>⟨rfl,fun _ ho=>ho⟩
 ·split at h1
  ·cases h1
  ·split at h2
   ·cases h2
   ·exact h.cU m m' e e' b h1 h2 h3 h4
 ·by_cases hmn:m=n
  ·left;simp only[hmn,if_true]
  ·simp only[if_neg hmn];exact h.ed m e hm
theorem aS.enter{ts:List (Nat×I)}{os0:List (Nat×ai)}(h:aS c (au ts os0) a w D E)(hfree:ak os0 999999=none)(hE0:c.dM 999999=none){o:Obj}(ho:pL o=true) :
  ∃ E1,aS c (au ts ((999999,.dQ o)::os0)) { a with defers := { target:=.collected w.heap.size,args := #[] } :: a.defers } ((w.alloc (.deferred (some []))).alloc o) D E1∧E1 999999=some (.op (w.heap.size+1))∧∀ xs vs,aG w D E xs vs→aG ((w.alloc (.deferred (some []))).alloc o) D E1 xs vs:=by
 have hb:Below w.heap.size w ((w.alloc (.deferred (some []))).alloc o):=((Below.refl _ w).alloc (zz7 _) _).alloc (by simp) _;have h1:=h.grow (D':=D) hb (fun _ _ h=>h) (fun _ _ h _=>h) (fun b o' hd=>by have:=h.dq b o' hd;simp;omega);obtain ⟨W,hW⟩:∃ W,W=(w.alloc (.deferred (some []))).alloc o:=⟨_,rfl⟩
 have hL:W.heap[w.heap.size+1]?=some o:=by
  rw[hW];have:=World.alloc_heap_new (w.alloc (.deferred (some []))) o;rwa [World.size_alloc] at this
 have hK:W.heap[w.heap.size]?=some (.deferred (some [])):=by
  rw[hW];exact (Below.heap_alloc _ _ _ (by simp)).trans (World.alloc_heap_new w _)
 rw[←hW] at h1 hb ⊢;have hEn:E 999999=none:=by have:=h.bT 999999;simp only[au,hfree] at this;exact this
 have hl:dS W D E W D (fun m=>if m=999999 then some (.op (w.heap.size+1)) else E m):=by
  refine ⟨fun _ _ h=>h,fun _ _ _ _ h=>h,fun m b aO he =>?_,fun m aE l he=>⟨aE,l,?_,zz7 _,fun _=>rfl⟩,fun m b he =>?_,fun m b he =>?_,fun _ _ _ _ h=>h⟩
  all_goals
   have:m≠999999:=fun e=>by rw[e,hEn] at he;cases he
   simp only[if_neg this];exact he
 have hsz:c.ff.heap.size≤w.heap.size:=h.dZ.size;have nb:∀ {m:Nat} {e:bR} {b:Nat},E m=some e→e.aE=some b→b<w.heap.size:=fun he hb'=>h.fV he hb';refine ⟨fun m=>if m=999999 then some (.op (w.heap.size+1)) else E m,⟨h1.sz,?_,fun t=>aV.bI hl (h1.eB t),h1.dZ,h1.da,h1.dq,fun m =>?_,fun m m' e e' b g1 g2 g3 g4 =>?_,fun m e hm =>?_,h1.fb,h1.cO,h1.fg,h1.fJ⟩,by simp,fun xs vs hx=>aG.bI hl xs vs (aG.bI (dS.grow hb fun _ _ h=>h) xs vs hx)⟩
 ·obtain ⟨Bs,k1,k2,k3⟩:=h1.eU;refine ⟨w.heap.size::Bs,by simp only[zz9];rw[←k1],List.nodup_cons.2 ⟨fun hin =>?_,k2⟩,fun B hB =>?_⟩
  ·obtain ⟨Bs',j1,_,j3⟩:=h.eU;have e1:Bs=Bs':=by
    have:Bs.map (fun B=>({ target:=.collected B,args := #[] } : Deferred))=Bs'.map (fun B => { target:=.collected B,args := #[] }):=by rw[←k1,←j1]
    exact (List.map_inj_right (fun x y hxy=>by simpa using hxy)).1 this
   rw[e1] at hin;have:=fW (j3 _ hin).2;omega
  ·rcases zw4.1 hB with rfl | hB
   ·exact ⟨hsz,hK⟩
   ·exact k3 B hB
 ·simp only[au,ak];by_cases hm:m=999999
  ·subst hm;simp only[if_true,dg];exact ⟨_,rfl,.inl (by omega),hL,ho,fun o' hd=>by have:=h.dq _ o' hd;omega⟩
  ·simp only[if_neg hm];exact (h1.bT m).bI hl (by simp only[if_neg hm]) fun _ _ _ _=>⟨rfl,fun _ ho=>ho⟩
 ·by_cases hm:m=999999 <;>by_cases hm':m'=999999
  ·rw[hm,hm']
  ·simp only[if_pos hm,u8] at g1;simp only[if_neg hm'] at g2;subst g1;simp only[bR.aE,u8] at g3;have:=nb g2 g4;omega
  ·simp only[if_neg hm] at g1;simp only[if_pos hm',u8] at g2;subst g2;simp only[bR.aE,u8] at g4;have:=nb g1 g3;omega
  ·simp only[if_neg hm] at g1;simp only[if_neg hm'] at g2;exact h.cU m m' e e' b g1 g2 g3 g4
 ·have hmn:m≠999999:=fun e=>by rw[e,hE0] at hm;cases hm
  simp only[if_neg hmn];exact h.ed m e hm
theorem dg.mF{M M':Nat→Prop}{n:Nat}{x:Option ai}(h:dg M w D E n x)(hM:∀ e b,E n=some e→e.aE=some b→M' b):dg M' w D E n x:=by
 unfold dg at *;split
 ·exact h
 ·obtain ⟨b,cs,T,h1,_,h3⟩:=h;exact ⟨b,cs,T,h1,hM _ b h1 rfl,h3⟩
 ·obtain ⟨aE,h1,h2,h3⟩:=h;refine ⟨aE,h1,h2,?_⟩;split
  ·exact h3
  ·obtain ⟨cs,pre,rest,_,h4⟩:=h3;exact ⟨cs,pre,rest,hM _ _ h1 rfl,h4⟩
 ·obtain ⟨b,h1,_,h3⟩:=h;exact ⟨b,h1,hM _ b h1 rfl,h3⟩
 ·obtain ⟨b,es,ck,h1,_,h3⟩:=h;exact ⟨b,es,ck,h1,hM _ b h1 rfl,h3⟩
 ·obtain ⟨r,b,es,ck,si,se,la,h1,_,h3⟩:=h;exact ⟨r,b,es,ck,si,se,la,h1,hM _ r h1 rfl,h3⟩
 ·obtain ⟨aE,h1,h2,h3⟩:=h;refine ⟨aE,h1,h2,?_⟩;split
  ·exact h3
  ·obtain ⟨cs,m,_,h4⟩:=h3;exact ⟨cs,m,hM _ _ h1 rfl,h4⟩
theorem aS.Ll{os:List (Nat×ai)} : ∀ (ps:List Nat) (vs:List Value) (xs:List I) (ts:List (Nat×I)) (a:Act),aS c (au ts os) a w D E→(∀ p∈ps,p<c.n)→aG w D E xs vs→ps.length=vs.length →
  aS c (au (qc ps xs ts) os) { a with tmps:=(ps.zip vs).foldl (fun t q=>t.setIfInBounds q.1 q.2) a.tmps } w D E
 | [],[],xs,ts,a,h,_,hv,_=>by
  cases xs with
  |nil=>exact h
  |cons x xs=>simp[aG] at hv
 | [],_::_,_,_,_,_,_,_,hl=>by simp at hl
 |_::_,[],_,_,_,_,_,_,hl=>by simp at hl
 |p::ps,v::vs,xs,ts,a,h,hp,hv,hl=>by
  cases xs with
  |nil=>simp[aG] at hv
  |cons x xs =>
   simp only[aG] at hv;obtain ⟨v',rest,cs,e,h1,h2,h3⟩:=hv;simp only[List.cons.injEq] at e;obtain ⟨rfl,rfl⟩:=e;have h4:=h.put (hp p (by simp)) (mG h1 h2);rw[tp] at h4;have:=aS.Ll ps vs xs ((p,x)::ts) (a.put (some p) v) h4 (fun q hq=>hp q (by simp[hq])) h3 (by simpa using hl);exact this
end
end Go.Abs
namespace Go.Abs
open Go Go.RowKit
def jl:b9→Bool
 | .mv _ | .pick .. | .bin .. | .eqv .. | .conv .. | .un .. | .fl .. | .ix .. | .lenT _ | .bld .. | .ext .. | .mk .. | .nilC _ | .ptrE .. =>true
 | .ld .. | .fa .. | .ia .. | .is .. | .len _ | .va .. | .bs .. | .sl .. | .cap _ | .bs0 _ | .lk .. =>true
 |_=>false
def tI:b9→Bool
 | .alloc _ | .box _ | .bl .. | .call .. | .eF .. | .dN .. =>true
 |op=>jl op
def pM(hs:List FuncId):b9→Bool
 | .alloc _ | .box _=>true
 | .call f _ => !hs.contains f
 |op=>jl op
abbrev eZ:=List (Nat×List Nat)
def jy(aC:eZ)(s:Nat):Option (List Nat):=(aC.find? fun q=>q.1==s).map (·.2)
def fh(aC:eZ)(A:ae):Prop:=∀ s ns,jy aC s=some ns→(A.t s).only (fun n=>ns.contains n)=true
def rh(aC:eZ):aJ→Option (List Nat)
 | .t s=>jy aC s
 | .c x=>if x.bn then some [] else none
def ux(a:Option (List Nat))(ns:List Nat):Bool:=match a with
 |some ms=>ms.all fun m=>ns.contains m
 |none=>false
def jD(aC:eZ)(g:az):Bool:=match g.dst with
 |none=>true
 |some d=>match jy aC d with
  |none=>true
  |some ns=>match g.op with
   | .mv x | .nilC x | .fa _ _ x | .ia _ _ x _=>ux (rh aC x) ns
   | .bin .. | .len _ | .bs .. | .bs0 _ | .conv .. | .lenT _=>true
   | .box _ | .alloc _=>ns.contains d
   |_=>false
def nB:b9→Option (List Nat)
 | .ld _ (.t x) | .fa _ _ (.t x) | .ia _ _ (.t x) _ | .is _ (.t x) _ | .len (.t x) | .va _ _ (.t x) | .sl _ (.t x) _ _ _ | .cap (.t x) | .lk _ _ _ (.t x) _=>some [x]
 | .bs _ _ ps=>if (ps.all fun x=>match x with | .t _=>true | .c _=>false)=true then some (j6 ps) else none
 | .bs0 _=>some []
 |op=>if op.gD=0∧jl op=true then some [] else none
def sg(aC:eZ)(g:az)(p:Nat→Bool):Bool:=match nB g.op with
 |some xs=>xs.all fun s=>match jy aC s with | some ns=>ns.all p | none=>false
 |none=>false
def oH(hs:List FuncId)(aC:eZ)(g h:az):Bool:=pM hs h.op||match h.op with
 | .bl _ (.t y) _=>match nB g.op with
  |some []=>true
  |_=>match jy aC y with
   |some ms=>sg aC g fun n => !ms.contains n
   |none=>false
 | .bl .. =>match nB g.op with
  |some []=>true
  |_=>false
 | .dN _ _ _ _ s _=>sg aC g (fun _=>false)||ux (rh aC s) []
 |_=>false
def ot(hs:List FuncId)(aC:eZ)(g h:az):Bool:=jl g.op&&(oH hs aC g h&&((match g.dst with
  |some d => !h.c7.contains d&&h.dst != some d
  |none=>true)&&(match h.dst with
  |some d => !g.c7.contains d
  |none=>true)))
theorem wR{op:b9}(h:jl op=true)(A:ae)(dst:Option Nat)(rest:List az)(k:ae→cK):bd A dst op rest k=cR (br A op) fun v=>k (A.aN dst v):=by
 cases op <;>first | rfl | cases h
inductive cF (P:Program) (hs:List FuncId) (K:ae→Prop):cK→Prop where
 |done {A:ae} : K A→cF P hs K (.done A)
 |flat {f:FuncId} {avs cargs:List I} {a2:Option (List I)} {dst:Option Nat} {rest:List az} {A:ae} (r:I):aD P f cargs r→r.flat=true→cF P hs K (ay rest (A.aN dst r))→cF P hs K (.call f avs (some cargs) a2 dst rest A)
 |lead {f:FuncId} {avs cargs:List I} {a1:Option (List I)} {dst:Option Nat} {rest:List az} {A:ae} (r:I):aD P f cargs r→cF P hs K (ay rest (A.aN dst r))→cF P hs K (.call f avs a1 (some cargs) dst rest A)
 |bT {f:FuncId} {avs:List I} {a1 a2:Option (List I)} {dst:Option Nat} {rest:List az} {ts:List (Nat×I)} {os0:List (Nat×ai)} (ρ:List (Nat×Nat)) (cargs:List I) (post:cT):cD P f cargs [] post →
   fZ ρ [] os0→jr false (au ts os0) ρ [] avs cargs→(∀ r os',post r os'→eK false ρ [] os0 r os') →
   (∀ r os',post r os'→cF P hs K (ay rest ((au ts (dH ρ os'++os0)).aN dst (r.aK (bx ρ)))))→cF P hs K (.call f avs a1 a2 dst rest (au ts os0))
 |any {p:Nat→Prop} {k:Nat→cK} : (∀ m,p m→cF P hs K (k m))→cF P hs K (.any p k)
 |xY {f:FuncId} {avs:List I} {a1 a2:Option (List I)} {dst:Option Nat} {rest:List az} {ts:List (Nat×I)} {os0:List (Nat×ai)} (aA:Bool) (ρ:List (Nat×Nat)) (os:List (Nat×ai)) (cargs:List I) (post:cT):hs.contains f=true→cD P f cargs os post →
   fZ ρ os os0→jr aA (au ts (db (jW ρ os) os0)) ρ os avs cargs→(∀ r os',post r os'→eK aA ρ os os0 r os') →
   (∀ r os',post r os'→cF P hs K (ay rest ((au ts (dH ρ os'++os0)).aN dst (r.aK (bx ρ)))))→cF P hs K (.call f avs a1 a2 dst rest (au ts os0))
theorem X2(os:List (Nat×ai)):db [] os=os:=by simp[db]
section
variable {P:Program} {hs:List FuncId} {K:ae→Prop} {Y:Value→List I→List (Nat×ai)→cT→Prop}
theorem cF.zW{p:Nat→Prop}{k:Nat→cK}(h:cF P hs K (.any p k)):∀ m,p m→cF P hs K (k m):=by cases h;assumption
theorem fh.put{aC:eZ}{A B:ae}(h:fh aC A)(ht:∀ k,B.t k=A.t k){dst:Option Nat}{v:I}(hv:∀ d,dst=some d→∀ ns,jy aC d=some ns→v.only (fun n=>ns.contains n)=true):fh aC (B.aN dst v):=by
 intro s ns hs';cases dst with
 |none=>exact (ht s).symm▸h s ns hs'
 |some d =>
  simp only[ae.aN,ae.put];by_cases hd:s=d
  ·rw[if_pos hd];exact hv d rfl ns (hd▸hs')
  ·rw[if_neg hd,ht];exact h s ns hs'
theorem rP{aC:eZ}{A:ae}(h:fh aC A){x:aJ}{ns:List Nat}(hx:ux (rh aC x) ns=true):(af A x).only (fun n=>ns.contains n)=true:=by
 cases x with
 |c x =>
  simp only[rh] at hx;split at hx
  ·rename_i hc;exact mJ _ x hc
  ·cases hx
 |t s =>
  simp only[rh] at hx;cases hl:jy aC s with
  |none=>rw[hl] at hx;cases hx
  |some ms =>
   rw[hl] at hx;simp only[ux,zy8] at hx;exact jd (fun n hn=>hx n (by simpa using hn)) _ (h s ms hl)
theorem QJ{op:BinOp}{x y v:I}(p:Nat→Bool)(h:cH op x y=some v):v.only p=true:=by
 unfold cH at h
 (repeat' split at h) <;>first | (cases h;done) | (simp only[u8] at h;subst h;rfl)
theorem ye{p:Nat→Bool} : ∀ {xs:List I} {i:Nat} {x:I},I.bU p xs=true→xs[i]?=some x→x.only p=true
 | [],_,_,_,h=>by simp at h
 |a::xs,0,x,h,e=>by
  simp only[I.bU,zz2] at h;simp only[List.getElem?_cons_zero,u8] at e;exact e▸h.1
 |a::xs,i+1,x,h,e=>by
  simp only[I.bU,zz2] at h;exact ye (xs:=xs) h.2 (by simpa using e)
theorem KH{aC:eZ}{A:ae}{g:az}(h:fh aC A)(hg:jD aC g=true){v:I}(hv:br A g.op=some v):∀ d,g.dst=some d→∀ ns,jy aC d=some ns→v.only (fun n=>ns.contains n)=true:=by
 intro d hd ns hn;obtain ⟨dst,op,gd⟩:=g;simp only at hd hv;subst hd;simp only[jD,hn] at hg;cases op <;>simp only at hg <;>(try (cases hg;done)) <;>simp only[br] at hv <;>(try (cases hv;done))
 case mv x=>simp only[u8] at hv;exact hv▸rP h hg
 case nilC x =>
  have:=rP h hg;generalize af A x=u at hv this;cases u <;>simp only[mH] at hv <;>first | (cases hv;done) | (simp only[u8] at hv;exact hv▸this)
 case bin op x y=>exact QJ _ hv
 case conv k x=>split at hv <;>first | (cases hv;done) | (simp only[u8] at hv;subst hv;rfl)
 case lenT x=>split at hv <;>first | (cases hv;done) | (simp only[u8] at hv;subst hv;rfl)
 case len x=>(repeat' split at hv) <;>first | (cases hv;done) | (simp only[u8] at hv;subst hv;rfl)
 case bs0 e=>simp only[u8] at hv;subst hv;rfl
 case bs e ps =>
  split at hv
  ·split at hv
   ·rename_i hc;simp only[u8] at hv;subst hv;simp only[I.only];exact kr _ _ hc.2
   ·cases hv
  ·cases hv
 case fa f off x =>
  have hx:=rP h hg;split at hv
  ·rename_i fs he;rw[he] at hx;simp only[I.only] at hx;split at hv
   ·rename_i u hu;split at hv
    ·simp only[u8] at hv;subst hv;simp only[I.only];exact ye hx hu
    ·cases hv
   ·cases hv
  ·rename_i n q he;rw[he] at hx;simp only[I.only] at hx;split at hv
   ·split at hv
    ·simp only[u8] at hv;subst hv;simpa only[I.only] using hx
    ·cases hv
   ·cases hv
  ·cases hv
 case ia n esz x i =>
  have hx:=rP h hg;split at hv
  case h_2=>cases hv
  split at hv
  case isFalse=>cases hv
  split at hv
  ·rename_i fs he;rw[he] at hx;simp only[I.only] at hx;split at hv
   ·simp only[zz0] at hv;obtain ⟨u,hu,rfl⟩:=hv;simp only[I.only];exact ye hx hu
   ·cases hv
  ·rename_i m q he;rw[he] at hx;simp only[I.only] at hx;split at hv
   ·split at hv
    ·simp only[u8] at hv;subst hv;simpa only[I.only] using hx
    ·cases hv
   ·cases hv
  ·cases hv
def r7(A:ae)(dst:Option Nat)(s:I)(B:ae):Prop:=(∀ t,dst≠some t→B.t t=A.t t)∧(s.only (fun _=>false)=true→eC A B)
def nT(A:ae)(dst:Option Nat)(s:I)(R:(ae→cK)→cK):Prop :=
 (∀ k,R k=.fail)∨(∃ B,(∀ k,R k=k B)∧r7 A dst s B)∨∃ (p:Nat→Prop) (bh:Nat→ae),(∀ k,R k=.any p fun m=>k (bh m))∧∀ m,r7 A dst s (bh m)
theorem rC{A B:ae}{dst:Option Nat}{v:I}{t:Nat}(ht:∀ k,B.t k=A.t k)(h:dst≠some t):(B.aN dst v).t t=A.t t:=by
 cases dst with
 |none=>exact ht t
 |some d =>
  have:t≠d:=fun e=>h (by rw[e]);simp only[ae.aN,ae.put,if_neg this];exact ht t
theorem Qf(A:ae)(dst:Option Nat)(esz bytes:Nat)(z s:I)(es ys:List I):nT A dst s (gO A dst esz bytes z es ys):=by
 cases dst with
 |none=>exact .inl fun _=>rfl
 |some d =>
  cases ho:A.o d with
  |some y=>exact .inl fun k=>by simp only[gO,ho]
  |none =>
   by_cases hc:(es.length+ys.length)*bytes≤140737488355328∧es.length+ys.length≤maxLen
   ·refine .inr (.inr ⟨_,fun m=>(A.aL d (.box (.agg (es++(ys++List.replicate m z))))).aN (some d) (.view d [] esz 0 (es.length+ys.length)),fun k=>by simp only[gO,ho];rw[if_pos hc],fun m=>⟨fun t ht=>rC (A:=A) (B:=A.aL d _) (fun _=>rfl) ht,fun _ n y hy =>?_⟩⟩);have:n≠d:=fun e=>by rw[e,ho] at hy;cases hy
    rw[iI];simp only[ae.aL,if_neg this];exact hy
   ·exact .inl fun k=>by simp only[gO,ho];rw[if_neg hc]
theorem Qh(A:ae)(dst:Option Nat)(esz bytes:Nat)(z s:I)(es ys:Option (List I)):nT A dst s (fD A dst esz bytes z s es ys):=by
 cases es with
 |none=>exact .inl fun _=>rfl
 |some es =>
  cases ys with
  |none=>exact .inl fun _=>rfl
  |some ys =>
   by_cases h0:ys=[]
   ·exact .inr (.inl ⟨A.aN dst s,fun k=>by simp only[fD,if_pos h0],fun t ht=>rC (A:=A) (fun _=>rfl) ht,fun _ n y hy=>by rw[iI];exact hy⟩)
   ·have gg:=fun s'=>Qf A dst esz bytes z s' es ys;cases s
    case nils=>simp only[nT,fD,if_neg h0];exact gg _
    case c0=>simp only[nT,fD,if_neg h0];exact gg _
    case view n p sz lo l =>
     cases ho:A.o n with
     |none=>exact .inl fun k=>by simp only[fD,if_neg h0,ho]
     |some y =>
      cases y with
      |box b =>
       cases hb:b.at p with
       |none=>exact .inl fun k=>by simp only[fD,if_neg h0,ho,hb]
       |some c =>
        cases c
        case agg fs =>
         by_cases h1:lo+l+ys.length≤fs.length
         ·by_cases h2:sz=esz∧I.cX ys=I.cX ((fs.drop (lo+l)).take ys.length)
          ·exact .inr (.inl ⟨(A.aL n (.box (jj b p (lo+l) fs ys))).aN dst (.view n p esz lo (l+ys.length)),fun k=>by simp only[fD,if_neg h0,ho,hb,if_pos h1];rw[if_pos h2],fun t ht=>rC (A:=A) (B:=A.aL n _) (fun _=>rfl) ht,fun h=>by simp[I.only] at h⟩)
          ·exact .inl fun k=>by simp only[fD,if_neg h0,ho,hb,if_pos h1];rw[if_neg h2]
         ·simp only[nT,fD,if_neg h0,ho,hb,if_neg h1];exact gg _
        all_goals exact .inl fun k=>by simp only[fD,if_neg h0,ho,hb]
      |_=>exact .inl fun k=>by simp only[fD,if_neg h0,ho]
    all_goals exact .inl fun k=>by simp only[fD,if_neg h0]
theorem z6(A:ae)(dst:Option Nat)(e esz bytes:Nat)(z:I)(s x:aJ)(rest:List az):nT A dst (af A s) (bd A dst (.dN e esz bytes z s x) rest):=by
 generalize hs:af A s=yZ;cases yZ
 case own n l =>
  cases hx:af A x
  case slice sz ys =>
   cases ho:A.o n with
   |none=>exact .inl fun k=>by simp only[bd,hs,hx,ho]
   |some y =>
    cases y with
    |bX T sz' es =>
     by_cases hc:x4 e esz bytes l sz ys T sz' es
     ·exact .inr (.inl ⟨(A.aL n (.bX e esz (es++ys))).aN dst (.own n (es.length+ys.length)),fun k=>by simp only[bd,hs,hx,ho];rw[if_pos hc],fun t ht=>rC (A:=A) (B:=A.aL n _) (fun _=>rfl) ht,fun h=>by simp[I.only] at h⟩)
     ·exact .inl fun k=>by simp only[bd,hs,hx,ho];rw[if_neg hc]
    |cV T xs =>
     by_cases hc:x5 e esz bytes l ys T xs z
     ·exact .inr (.inl ⟨(A.aL n (.cV e (xs++qX ys))).aN dst (.own n (xs.length+ys.length)),fun k=>by simp only[bd,hs,hx,ho];rw[if_pos hc],fun t ht=>rC (A:=A) (B:=A.aL n _) (fun _=>rfl) ht,fun h=>by simp[I.only] at h⟩)
     ·exact .inl fun k=>by simp only[bd,hs,hx,ho];rw[if_neg hc]
    |_=>exact .inl fun k=>by simp only[bd,hs,hx,ho]
  all_goals exact .inl fun k=>by simp only[bd,hs,hx]
 all_goals (simp only[nT,bd,hs];exact Qh ..)
theorem ym{A:ae}{d:Nat}{v:I}{n:Nat}{y:ai}{dst:Option Nat}{u:I}(h:dst≠some d):((A.put d v).aL n y).aN dst u=((A.aL n y).aN dst u).put d v:=by
 cases dst with
 |none=>rfl
 |some e =>
  have:e≠d:=fun he=>h (by rw[he]);simp only[ae.aN,ae.put,ae.aL,ae.mk.injEq,and_true]
  funext k
  by_cases h1:k=e <;>by_cases h2:k=d <;>simp_all
theorem ajh{A:ae}{d:Nat}{v:I}{dst:Option Nat}{u:I}(h:dst≠some d):(A.put d v).aN dst u=(A.aN dst u).put d v:=by
 cases dst with
 |none=>rfl
 |some e =>
  have:e≠d:=fun he=>h (by rw[he]);simp only[ae.aN,ae.put,ae.mk.injEq,and_true]
  funext k
  by_cases h1:k=e <;>by_cases h2:k=d <;>simp_all
theorem Qg{A:ae}{d:Nat}{v:I}{dst:Option Nat}(h:dst≠some d)(esz bytes:Nat)(z:I)(es ys:List I)(k:ae→cK):gO (A.put d v) dst esz bytes z es ys k=gO A dst esz bytes z es ys fun B=>k (B.put d v):=by
 cases dst with
 |none=>rfl
 |some e =>
  simp only[gO];have:(A.put d v).o=A.o:=rfl;rw[this];cases A.o e with
  |some _=>rfl
  |none =>
   simp only;split
   ·simp only[ym h]
   ·rfl
theorem Qi{A:ae}{d:Nat}{v:I}{dst:Option Nat}(h:dst≠some d)(esz bytes:Nat)(z s:I)(es ys:Option (List I))(k:ae→cK):fD (A.put d v) dst esz bytes z s es ys k=fD A dst esz bytes z s es ys fun B=>k (B.put d v):=by
 have ho:(A.put d v).o=A.o:=rfl;cases es with
 |none=>rfl
 |some es =>
  cases ys with
  |none=>rfl
  |some ys =>
   simp only[fD];split
   ·rw[ajh h]
   ·cases s <;>simp only[Qg h,ho]
    rename_i n p sz lo l;cases A.o n with
    |none=>rfl
    |some y =>
     cases y with
     |box b =>
      simp only;cases b.at p with
      |none=>rfl
      |some c =>
       cases c <;>simp only[ym h]
     |_=>rfl
theorem Ql{A:ae}{d:Nat}{v:I}{dst:Option Nat}(h:dst≠some d){e esz bytes:Nat}{z:I}{s x:aJ}(hag:en A (A.put d v) (s.sl++x.sl))(rest rest':List az)(k:ae→cK) :
  bd (A.put d v) dst (.dN e esz bytes z s x) rest k=bd A dst (.dN e esz bytes z s x) rest' fun B=>k (B.put d v):=by
 have ho:(A.put d v).o=A.o:=rfl;have hsrc:∀ y,eI (A.put d v) esz y=eI A esz y:=fun y=>by cases y <;>rfl
 simp only[bd,dh hag.l,dh hag.r,hsrc];cases af A s <;>simp only[Qi h]
 rename_i n l;cases af A x <;>simp only[ho]
 cases A.o n with
 |none=>rfl
 |some y=>cases y <;>simp only[ym h]
theorem cF.Cj{aC:eZ}{f:FuncId}{avs:List I}{a1 a2:Option (List I)}{dst:Option Nat}{rest:List az}{A:ae}(hi:fh aC A)(hd:∀ d,dst=some d→jy aC d=none)(h:cF P hs K (.call f avs a1 a2 dst rest A)) :
  bj P Y false (fun B=>cF P hs K (ay rest B)∧fh aC B) (.call f avs a1 a2 dst [] A):=by
 have no:∀ {v:I},∀ d,dst=some d→∀ ns,jy aC d=some ns→v.only (fun n=>ns.contains n)=true:=fun d e ns hn=>by rw[hd d e] at hn;cases hn
 cases h with
 |flat r hc hf hw=>exact .flat r hc hf (.done ⟨hw,hi.put (fun _=>rfl) no⟩)
 |lead r hc hw=>exact .lead r hc (.done ⟨hw,hi.put (fun _=>rfl) no⟩)
 |bT ρ cargs post hc hg ha hb hw=>exact .bT false ρ [] cargs post rfl hc hg (by simp only[jW,zx1,X2];exact ha) hb fun r os' hp=>.done ⟨hw r os' hp,hi.put (B:=au _ (dH ρ os'++_)) (fun _=>rfl) no⟩
 |xY aA ρ os cargs post _ hc hg ha hb hw=>exact .bT aA ρ os cargs post rfl hc hg ha hb fun r os' hp=>.done ⟨hw r os' hp,hi.put (B:=au _ (dH ρ os'++_)) (fun _=>rfl) no⟩
theorem cF.one{aC:eZ}{A:ae}{g:az}{rest:List az}(hi:fh aC A)(ho:tI g.op=true)(hL:jD aC g=true)(h:cF P hs K (bd A g.dst g.op rest (ay rest))):bj P Y false (fun B=>cF P hs K (ay rest B)∧fh aC B) (bd A g.dst g.op [] (ay [])):=by
 have hval:=fun v (hv:br A g.op=some v)=>KH hi hL hv;obtain ⟨dst,op,gd⟩:=g;simp only at ho h hval ⊢;have pure:jl op=true→bj P Y false (fun B=>cF P hs K (ay rest B)∧fh aC B) (bd A dst op [] (ay [])):=by
  intro hsm;rw[wR hsm] at h ⊢;cases hv:br A op with
  |none=>rw[hv] at h;cases h
  |some v=>rw[hv] at h;exact .done ⟨h,hi.put (fun _=>rfl) (hval v hv)⟩
 have unl:(∀ ns d,dst=some d→jy aC d=some ns→jD aC ⟨dst,op,gd⟩=false)→∀ d,dst=some d→jy aC d=none:=fun h1 d hd=>by
  cases hn:jy aC d with
  |none=>rfl
  |some ns=>rw[h1 ns d hd hn] at hL;cases hL
 cases op with
 |alloc z =>
  cases dst with
  |none=>simp only[bd] at h;cases h
  |some d =>
   simp only[bd] at h ⊢;split at h
   case h_2=>cases h
   refine .done ⟨h,hi.put (B:=A.aL d _) (dst:=some d) (fun _=>rfl) fun d' e ns hn =>?_⟩;simp only[u8] at e;subst e;simpa only[jD,hn,I.only] using hL
 |box x =>
  cases dst with
  |none=>simp only[bd] at h;cases h
  |some d =>
   simp only[bd] at h ⊢;split at h
   case h_2=>cases h
   split at h
   case isFalse=>cases h
   rename_i hv;rw[if_pos hv];refine .done ⟨h,hi.put (B:=A.aL d _) (dst:=some d) (fun _=>rfl) fun d' e ns hn =>?_⟩;simp only[u8] at e;subst e;simpa only[jD,hn,I.only] using hL
 |bl s x v =>
  cases dst with
  |some d=>simp only[bd] at h;cases h
  |none =>
   simp only[bd] at h ⊢;split at h
   case h_2=>cases h
   rename_i n p hx;split at h
   case h_2=>cases h
   rename_i b hb;split at h
   case h_2=>cases h
   rename_i old hold;split at h
   case isFalse=>cases h
   rename_i hok;simp only[if_pos hok];exact .done ⟨h,fun s ns hn=>hi s ns hn⟩
 |call f args=>exact cF.Cj hi (unl fun ns d e hn=>by subst e;simp only[jD,hn]) h
 |eF x args =>
  have hu:=unl fun ns d e hn=>by subst e;simp only[jD,hn]
  simp only[bd] at h ⊢;split at h
  ·exact cF.Cj hi hu h
  ·cases h
  ·cases h
 |dN e esz bytes z s x =>
  have hu:=unl fun ns d e hn=>by subst e;simp only[jD,hn]
  have ta:∀ B,r7 A dst (af A s) B→fh aC B:=fun B hB t ns hn=>by
   rw[hB.1 t fun e=>by rw[hu t e] at hn;cases hn];exact hi t ns hn
  have hf:=z6 A dst e esz bytes z s x;rcases hf rest with h1 | ⟨B,h1,h2⟩ | ⟨p,bh,h1,h2⟩
  ·rw[h1] at h;cases h
  ·rw[h1] at h;have:bd A dst (.dN e esz bytes z s x) [] (ay [])=ay [] B:=(show bd A dst (.dN e esz bytes z s x) [] (ay [])=bd A dst (.dN e esz bytes z s x) rest (ay []) from rfl).trans (h1 _);rw[this];exact .done ⟨h,ta B h2⟩
  ·rw[h1] at h;have:bd A dst (.dN e esz bytes z s x) [] (ay [])=.any p fun m=>ay [] (bh m):=(show bd A dst (.dN e esz bytes z s x) [] (ay [])=bd A dst (.dN e esz bytes z s x) rest (ay []) from rfl).trans (h1 _);rw[this];exact .any rfl fun m hm=>.done ⟨h.zW m hm,ta _ (h2 m)⟩
 |_=>first | exact pure rfl | cases ho
def gl(g:az)(A:ae)(v:I):Prop:=(gw A g∧v=.undef)∨(pass A g∧br A g.op=some v)
theorem cF.yT{A:ae}{g:az}{rest:List az}(hs':jl g.op=true)(h:cF P hs K (ay (g::rest) A)):∃ v,gl g A v∧cF P hs K (ay rest (A.aN g.dst v)):=by
 have step:pass A g→cF P hs K (bd A g.dst g.op rest (ay rest))→∃ v,gl g A v∧cF P hs K (ay rest (A.aN g.dst v)):=by
  intro hp h;rw[wR hs'] at h;cases hv:br A g.op with
  |none=>rw[hv] at h;cases h
  |some v=>rw[hv] at h;exact ⟨v,.inr ⟨hp,hv⟩,h⟩
 simp only[ay] at h;split at h
 ·rename_i hg;exact step (by simp only[pass,hg]) h
 ·rename_i t b hg;split at h
  ·rename_i b' hb;split at h
   ·rename_i hbb;subst hbb;exact step (by simp only[pass,hg];exact hb) h
   ·rename_i hbb;exact ⟨_,.inl ⟨by simp only[gw,hg];exact .inl (by rw[hb,u2 hbb]),rfl⟩,h⟩
  ·rename_i hb;exact ⟨_,.inl ⟨by simp only[gw,hg];exact .inr hb,rfl⟩,h⟩
  ·cases h
theorem sf{A:ae}{g:az}{rest:List az}(hn:gw A g):ay (g::rest) A=ay rest (A.aN g.dst .undef):=by
 simp only[ay];cases hg:g.guard with
 |none=>simp only[gw,hg] at hn
 |some tb =>
  obtain ⟨t,b⟩:=tb;simp only[gw,hg] at hn;rcases hn with hn | hn
  ·simp only[hn];rw[if_neg (by cases b <;>simp)]
  ·simp only[hn]
theorem gl.to{A:ae}{g:az}{rest:List az}{v:I}(hs':jl g.op=true)(h:gl g A v):ay (g::rest) A=ay rest (A.aN g.dst v):=by
 rcases h with ⟨hn,rfl⟩ | ⟨hp,hv⟩
 ·exact sf hn
 ·rw[nX hp,wR hs',hv];rfl
theorem XK{A A':ae}{p:Nat→Bool}(ho:∀ n,p n=true→A'.o n=A.o n){x:I}(hx:x.only p=true):cB A' x=cB A x:=by
 cases x <;>simp only[cB]
 rename_i n q;rw[ho n (by simpa[I.only] using hx)]
mutual
theorem YE{A A':ae}{p:Nat→Bool}(ho:∀ n,p n=true→A'.o n=A.o n):∀ {x:I},x.only p=true→a7 false A' x=a7 false A x
 | .own n k,h=>by simp only[a7];rw[ho n (by simpa[I.only] using h)]
 | .func f caps,h=>by simp only[a7];rw[sM ho (xs:=caps) (by simpa[I.only] using h)]
 | .agg fs,h=>by simp only[a7];rw[sM ho (xs:=fs) (by simpa[I.only] using h)]
 | .undef,_ | .dp,_ | .bool _,_ | .int _ _,_ | .cY _,_ | .nilp,_ | .df,_ | .dY,_ | .raw _,_ | .nils _,_ | .c0 _,_ | .slice _ _,_ | .tuple _,_ | .ref _,_ | .iface _ _,_ | .ptr _ _,_ | .view _ _ _ _ _,_ | .mref _,_ | .dv _,_ | .cI _ _,_=>by simp[a7]
theorem sM{A A':ae}{p:Nat→Bool}(ho:∀ n,p n=true→A'.o n=A.o n):∀ {xs:List I},I.bU p xs=true→bZ false A' xs=bZ false A xs
 | [],_=>rfl
 |x::xs,h=>by
  simp only[I.bU,zz2] at h;simp only[bZ,YE ho h.1,sM ho h.2]
end
theorem K0{p:Nat→Bool}{f:aJ→I} : ∀ {xs:List aJ},(∀ x∈xs,(f x).only p=true)→I.bU p (xs.map f)=true
 | [],_=>rfl
 |x::xs,h=>by
  simp only[zz9,I.bU,zz2];exact ⟨h x (by simp),K0 fun y hy=>h y (by simp[hy])⟩
theorem ag7{A A':ae}{p:Nat→Bool}(ho:∀ n,p n=true→A'.o n=A.o n){x:I}(hx:x.only p=true):gu A' x=gu A x:=by
 cases x with
 |mref n=>simp only[gu];rw[ho n (by simpa[I.only] using hx)]
 |raw v=>cases v <;>first | rfl | (rename_i o;cases o <;>rfl)
 |_=>rfl
theorem ai6{A A':ae}{op:b9}{xs:List Nat}{p:Nat→Bool}(hm:nB op=some xs)(h:en A A' op.c7)(hx:∀ s∈xs,(A.t s).only p=true)(ho:∀ n,p n=true→A'.o n=A.o n):br A' op=br A op:=by
 have ib:op.gD=0→br A' op=br A op:=fun hc=>yl hc h;have dl:=fun {x:I} (hx:x.only p=true)=>XK ho hx;unfold nB at hm;split at hm
 ·rename_i s x;simp only[u8] at hm;subst hm;have e:=h x (by simp[b9.c7,aJ.sl]);simp only[br,af,e,dl (hx x (by simp))]
 ·rename_i f off x;simp only[u8] at hm;subst hm;have e:=h x (by simp[b9.c7,aJ.sl]);have k:=hx x (by simp);simp only[br,af,e];generalize A.t x=u at k ⊢;cases u with
  |ptr n q=>simp only[dl (x:=.ptr n q) k]
  |ref c=>cases c <;>rfl
  |_=>rfl
 ·rename_i n esz x i;simp only[u8] at hm;subst hm;have e:=h x (by simp[b9.c7,aJ.sl]);have ei:=dh (x:=i) (fun m hm=>h m (by simp[b9.c7,hm]));have k:=hx x (by simp);simp only[br,ei];generalize af A i=w;simp only[af,e];generalize A.t x=u at k ⊢;cases u with
  |ptr n q=>simp only[dl (x:=.ptr n q) k]
  |ref c=>cases c <;>rfl
  |_=>rfl
 ·rename_i esz x i;simp only[u8] at hm;subst hm;have e:=h x (by simp[b9.c7,aJ.sl]);have ei:=dh (x:=i) (fun m hm=>h m (by simp[b9.c7,hm]));have k:=hx x (by simp);simp only[br,ei];generalize af A i=w;simp only[af,e];generalize A.t x=u at k ⊢;cases u with
  |own n l=>simp only[ho n (by simpa[I.only] using k)]
  |view n q=>simp only[dl (x:=.ptr n q) (by simpa[I.only] using k)]
  |_=>rfl
 ·rename_i x;simp only[u8] at hm;subst hm;have e:=h x (by simp[b9.c7,aJ.sl]);have k:=hx x (by simp);simp only[br,af,e];generalize A.t x=u at k ⊢;cases u with
  |own n l=>simp only[ho n (by simpa[I.only] using k)]
  |_=>rfl
 ·rename_i n esz x;simp only[u8] at hm;subst hm;have e:=h x (by simp[b9.c7,aJ.sl]);have k:=hx x (by simp);simp only[br,af,e];generalize A.t x=u at k ⊢;cases u with
  |ptr n q=>simp only[dl (x:=.ptr n q) k]
  |ref c=>cases c <;>rfl
  |_=>rfl
 ·rename_i esz x lo hi mx;simp only[u8] at hm;subst hm;have e:=h x (by simp[b9.c7,aJ.sl]);have e1:=pC (x:=lo) (fun m hm=>h m (by simp[b9.c7,hm]));have e2:=pC (x:=hi) (fun m hm=>h m (by simp[b9.c7,hm]));have e3:=pC (x:=mx) (fun m hm=>h m (by simp[b9.c7,hm]));have k:=hx x (by simp);simp only[br,e1,e2,e3];generalize lo.map (af A)=w1;generalize hi.map (af A)=w2;generalize mx.map (af A)=w3;simp only[af,e];generalize A.t x=u at k ⊢;cases u with
  |view n q=>simp only[dl (x:=.ptr n q) (by simpa[I.only] using k)]
  |_=>rfl
 ·rename_i x;simp only[u8] at hm;subst hm;have e:=h x (by simp[b9.c7,aJ.sl]);have k:=hx x (by simp);simp only[br,af,e];generalize A.t x=u at k ⊢;cases u with
  |view n q=>simp only[dl (x:=.ptr n q) (by simpa[I.only] using k)]
  |_=>rfl
 ·rename_i ty z ok x kk;simp only[u8] at hm;subst hm;have e:=h x (by simp[b9.c7,aJ.sl]);have ek:=dh (x:=kk) (fun m hm=>h m (by simp[b9.c7,hm]));have k:=hx x (by simp);simp only[br,ek];generalize af A kk=w;simp only[af,e,ag7 ho k]
 ·rename_i esz ps;split at hm
  case isFalse=>cases hm
  rename_i hall;simp only[u8] at hm;subst hm;have hev:ps.map (af A')=ps.map (af A):=mu h;have hon:I.bU p (ps.map (af A))=true:=K0 fun x hx'=>by
   have h1:=zy8.1 hall x hx';cases x with
   |c _=>cases h1
   |t s=>exact hx s (by simp only[j6,List.mem_flatMap];exact ⟨_,hx',by simp[aJ.sl]⟩)
  simp only[br,hev,sM ho hon]
 ·rfl
 ·split at hm
  ·rename_i hc;exact ib hc.1
  ·cases hm
theorem zY{aC:eZ}{A:ae}{g:az}{p:Nat→Bool}(hi:fh aC A)(h:sg aC g p=true):∃ xs,nB g.op=some xs∧∀ s∈xs,(A.t s).only p=true:=by
 unfold sg at h;split at h
 case h_2=>cases h
 rename_i xs hm;refine ⟨xs,hm,fun s hs' =>?_⟩;have h1:=zy8.1 h s hs';split at h1
 case h_2=>cases h1
 rename_i ns hn;exact jd (fun n h2=>zy8.1 h1 n (by simpa using h2)) _ (hi s ns hn)
theorem gl.xB{A A':ae}{g:az}{v:I}{xs:List Nat}{p:Nat→Bool}(h:gl g A v)(hm:nB g.op=some xs)(ha:en A A' g.c7)(hx:∀ s∈xs,(A.t s).only p=true)(ho:∀ n,p n=true→A'.o n=A.o n):gl g A' v:=by
 rcases h with ⟨h,rfl⟩ | ⟨h,k⟩
 ·exact .inl ⟨pY ha h,rfl⟩
 ·exact .inr ⟨nI ha h,by rw[ai6 hm (az.ku ha) hx ho];exact k⟩
theorem gl.ta{aC:eZ}{A:ae}{g:az}{v:I}(hi:fh aC A)(hg:jD aC g=true)(h:gl g A v):fh aC (A.aN g.dst v):=by
 rcases h with ⟨_,rfl⟩ | ⟨_,k⟩
 ·exact hi.put (fun _=>rfl) fun _ _ _ _=>rfl
 ·exact hi.put (fun _=>rfl) (KH hi hg k)
theorem gl.cO{A A':ae}{g:az}{v:I}(h:gl g A v)(hu:eC A A')(ha:en A A' g.c7):gl g A' v:=by
 rcases h with ⟨h,rfl⟩ | ⟨h,k⟩
 ·exact .inl ⟨pY ha h,rfl⟩
 ·exact .inr ⟨nI ha h,Lk hu (az.ku ha) k⟩
theorem Jx{aC:eZ}{g h:az}(hi:ot hs aC g h=true):jl g.op=true∧oH hs aC g h=true∧(∀ d,g.dst=some d→d∉h.c7)∧(∀ d,g.dst=some d→h.dst≠some d)∧(∀ d,h.dst=some d→d∉g.c7):=by
 simp only[ot,zz2] at hi;obtain ⟨h1,h2,h3,h4⟩:=hi;refine ⟨h1,h2,fun d hd =>?_,fun d hd =>?_,fun d hd =>?_⟩
 ·rw[hd] at h3;simp at h3;exact h3.1
 ·rw[hd] at h3;simp at h3;exact h3.2
 ·rw[hd] at h4;simpa using h4
theorem Ab{aA:Bool}{A A':ae}{ρ:List (Nat×Nat)}{os:List (Nat×ai)}(hu:eC A A'):∀ {xs cs:List I},jr aA A ρ os xs cs→jr aA A' ρ os xs cs
 | [],[],_=>trivial
 |x::xs,c::cs,h=>⟨h.1.imp id fun h=>Dg hu h,Ab hu h.2⟩
 | [],_::_,h=>h.elim
 |_::_,[],h=>h.elim
theorem ahj{A:ae}{d:Option Nat}{v:I}{ts:List (Nat×I)}{os:List (Nat×ai)}(h:A.aN d v=au ts os):∃ ts2,A=au ts2 os∧∀ X:List (Nat×ai),(au ts2 X).aN d v=au ts X:=by
 cases d with
 |none=>exact ⟨ts,h,fun _=>rfl⟩
 |some d =>
  have ht:∀ k,(A.aN (some d) v).t k=cn ts k:=fun k=>by rw[h];rfl
  have ho:A.o=ak os:=by
   have:(A.aN (some d) v).o=ak os:=by rw[h];rfl
   rwa [iI] at this
  refine ⟨(d,A.t d)::ts,?_,fun X =>?_⟩
  ·cases A with
   |mk t o =>
    simp only[au,ae.mk.injEq];refine ⟨funext fun k =>?_,ho⟩;have:=ht k;simp only[ae.aN,ae.put] at this;simp only[cn];by_cases hk:k=d
    ·subst hk;simp
    ·rw[if_neg hk] at this;have hk':¬ d=k:=fun e=>hk e.symm;simp only[hk,if_false];exact this
  ·simp only[ae.aN,ae.put,au,ae.mk.injEq,and_true]
   funext k
   have:=ht k;simp only[ae.aN,ae.put] at this;by_cases hk:k=d
   ·subst hk;simp at this ⊢;exact this
   ·have hk':¬ d=k:=fun e=>hk e.symm;simp only[cn,hk,if_false]
theorem ai4{ρ:List (Nat×Nat)}{os0 os':List (Nat×ai)}{r:I}(hb:eK false ρ [] os0 r os'){n:Nat}{x:ai}(hx:ak os0 n=some x):ak (dH ρ os'++os0) n=some x:=by
 rw[rm];cases hp:pre ρ os' n with
 |none=>exact hx
 |some m =>
  obtain ⟨h1,h2⟩:=lW hp;have:=(hb.pV m h1 (by simp[al,ak])).1;rw[h2,hx] at this;cases this
theorem cF.SQ{A B:ae}{j:az}{v:I}{f:FuncId}{args:List aJ}{dst:Option Nat}{rest:List az}(hj:jl j.op=true)(hv:gl j A v)(hB:B=A.aN j.dst v)(hf:hs.contains f=false)(hag:en A B (j6 args))(hd:∀ d,j.dst=some d→dst≠some d)(hr:∀ d,dst=some d→d∉j.c7)
  (h:cF P hs K (.call f (args.map (af B)) (bZ true B (args.map (af B))) (bZ false B (args.map (af B))) dst rest B)):cF P hs K (.call f (args.map (af A)) (bZ true A (args.map (af A))) (bZ false A (args.map (af A))) dst (j::rest) A):=by
 have eo:B.o=A.o:=by rw[hB,iI]
 have cO:eC B A:=fun n x hx=>by rwa [←eo]
 have up':eC A B:=fun n x hx=>by rwa [eo]
 have eav:args.map (af B)=args.map (af A):=mu hag;rw[eav] at h;have cont:∀ r:I,cF P hs K (ay rest (B.aN dst r))→cF P hs K (ay (j::rest) (A.aN dst r)):=fun r hw=>by
  have h1:gl j (A.aN dst r) v:=hv.cO (fun n x hx=>by rwa [iI]) (mM hr);rw[h1.to hj,qb (fun d hd'=>fun e=>hd d e hd'),←hB];exact hw
 generalize e1:bZ true B (args.map (af A))=a1 at h;generalize e2:bZ false B (args.map (af A))=a2 at h;generalize hBm:B=B0 at h;cases h with
 |flat r hc hfl hw =>
  subst hBm;rw[lK cO e1];exact .flat r hc hfl (cont r hw)
 |lead r hc hw =>
  subst hBm;rw[lK cO e2];exact .lead r hc (cont r hw)
 |bT ρ cargs post hc hg ha hb hw =>
  rename_i ts os0;rw[hB] at hBm;obtain ⟨ts2,hA,hts⟩:=ahj hBm;have hA':=hA;clear cont;subst hA;refine .bT ρ cargs post hc hg (Ab (A:=au ts os0) (A':=au ts2 os0) (fun n x hx=>hx) ha) hb fun r os' hp =>?_;have h1:gl j ((au ts2 (dH ρ os'++os0)).aN dst (r.aK (bx ρ))) v:=hv.cO (fun n x hx=>by
   rw[iI];exact ai4 (hb r os' hp) hx) (fun k hk=>by
    have:=mM (A:=au ts2 (dH ρ os'++os0)) (v:=r.aK (bx ρ)) hr k hk;rw[this];rfl)
  rw[h1.to hj,qb (fun d hd'=>fun e=>hd d e hd'),hts];exact hw r os' hp
 |xY aA ρ os cargs post hfs =>
  rw[hf] at hfs;cases hfs
theorem cF.swap{aC:eZ}{A:ae}{j g:az}{rest:List az}(hinv:fh aC A)(hi:ot hs aC j g=true)(hw:cF P hs K (ay (j::g::rest) A)):cF P hs K (ay (g::j::rest) A):=by
 obtain ⟨hj,hl,i1,i2,i3⟩:=Jx hi;obtain ⟨v,hv,hw⟩:=cF.yT hj hw;have ag:en (A.aN j.dst v) A g.c7:=(mM i1).symm;have ag':en A (A.aN j.dst v) g.c7:=mM i1;have cO:eC (A.aN j.dst v) A:=fun n x hx=>by rwa [iI] at hx
 have up':∀ (d:Option Nat) (u:I),eC A (A.aN d u):=fun d u n x hx=>by rwa [iI]
 by_cases hsg:jl g.op=true
 ·obtain ⟨u,hu,hw⟩:=cF.yT hsg hw;rw[(hu.cO cO ag).to hsg,(hv.cO (up' _ _) (mM i3)).to hj,←qb i2];exact hw
 ·-- the guard
  have guard:(gw (A.aN j.dst v) g∧ay (g::rest) (A.aN j.dst v)=ay rest ((A.aN j.dst v).aN g.dst .undef))∨(pass (A.aN j.dst v) g∧ay (g::rest) (A.aN j.dst v)=bd (A.aN j.dst v) g.dst g.op rest (ay rest))∨ay (g::rest) (A.aN j.dst v)=.fail:=by
   cases hg:g.guard with
   |none=>exact .inr (.inl ⟨by simp only[pass,hg],by simp only[ay,hg]⟩)
   |some tb =>
    obtain ⟨t,b⟩:=tb;cases ht:(A.aN j.dst v).t t with
    |bool b' =>
     by_cases hbb:b'=b
     ·subst hbb;have hp:pass (A.aN j.dst v) g:=by simp only[pass,hg,ht]
      exact .inr (.inl ⟨hp,nX hp⟩)
     ·have hn:gw (A.aN j.dst v) g:=by simp only[gw,hg];exact .inl (by rw[ht,u2 hbb])
      exact .inl ⟨hn,sf hn⟩
    |undef =>
     have hn:gw (A.aN j.dst v) g:=by simp only[gw,hg];exact .inr ht
     exact .inl ⟨hn,sf hn⟩
    |_=>exact .inr (.inr (by simp only[ay,hg,ht]))
  rcases guard with ⟨hn,he⟩ | ⟨hp,he⟩ | he
  ·rw[he] at hw;rw[sf (pY ag hn),(hv.cO (up' _ _) (mM i3)).to hj,←qb i2];exact hw
  ·rw[he] at hw;rw[nX (nI ag hp)];obtain ⟨dst,op,gd⟩:=g;simp only at hw hsg i2 i3 ⊢;cases op with
   |alloc z =>
    cases dst with
    |none=>simp only[bd] at hw;cases hw
    |some d =>
    simp only[bd] at hw ⊢;split at hw
    case h_2=>cases hw
    rename_i ho;rw[iI] at ho;simp only[ho];have h1:gl j ((A.aL d (.box z)).put d (.ptr d [])) v:=hv.cO (fun n y hy=>by
     have:n≠d:=fun he=>by rw[he,ho] at hy;cases hy
     simp only[ae.put,ae.aL,this,if_false];exact hy) (fun k hk=>by
     have:k≠d:=fun he=>i3 d rfl (he▸hk);simp only[ae.put,ae.aL,this,if_false])
    rw[h1.to hj];have e:((A.aN j.dst v).aL d (.box z)).put d (.ptr d [])=((A.aL d (.box z)).put d (.ptr d [])).aN j.dst v:=by
     cases hgd:j.dst with
     |none=>rfl
     |some e =>
      have hne:e≠d:=fun he=>i2 e hgd (by rw[he]);simp only[ae.aN,ae.put,ae.aL,ae.mk.injEq,and_true]
      funext k
      by_cases h1:k=e <;>by_cases h2:k=d <;>simp_all
    rw[←e];exact hw
   |box x =>
    have ex:af (A.aN j.dst v) x=af A x:=dh (az.ku ag');cases dst with
    |none=>simp only[bd] at hw;cases hw
    |some d =>
    simp only[bd] at hw ⊢;split at hw
    case h_2=>cases hw
    rename_i ho;rw[iI] at ho;simp only[ho];rw[ex] at hw;split at hw
    case isFalse=>cases hw
    rename_i hval;rw[if_pos hval];have h1:gl j ((A.aL d (.box (af A x))).put d (.ptr d [])) v:=hv.cO (fun n y hy=>by
     have:n≠d:=fun he=>by rw[he,ho] at hy;cases hy
     simp only[ae.put,ae.aL,this,if_false];exact hy) (fun k hk=>by
     have:k≠d:=fun he=>i3 d rfl (he▸hk);simp only[ae.put,ae.aL,this,if_false])
    rw[h1.to hj];have e:((A.aN j.dst v).aL d (.box (af A x))).put d (.ptr d [])=((A.aL d (.box (af A x))).put d (.ptr d [])).aN j.dst v:=by
     cases hgd:j.dst with
     |none=>rfl
     |some e =>
      have hne:e≠d:=fun he=>i2 e hgd (by rw[he]);simp only[ae.aN,ae.put,ae.aL,ae.mk.injEq,and_true]
      funext k
      by_cases h1:k=e <;>by_cases h2:k=d <;>simp_all
    rw[←e];exact hw
   |call f args =>
    simp only[bd] at hw ⊢;refine cF.SQ hj hv rfl (by simpa[oH,pM] using hl) (az.ku ag') i2 i3 hw
   |bl s y u =>
    cases dst with
    |some d=>simp only[bd] at hw;cases hw
    |none =>
    have ey:af (A.aN j.dst v) y=af A y:=dh (az.ku ag').l;have eu:af (A.aN j.dst v) u=af A u:=dh (az.ku ag').r;simp only[bd] at hw ⊢;rw[ey,eu,iI] at hw;cases hx:af A y <;>simp only[hx] at hw ⊢ <;>try (cases hw;done)
    rename_i n q;cases ho:A.o n with
    |none=>rw[ho] at hw;cases hw
    |some ob =>
    rw[ho] at hw;cases ob <;>simp only at hw ⊢ <;>try (cases hw;done)
    rename_i b;cases hb:b.at q with
    |none=>rw[hb] at hw;cases hw
    |some old =>
    rw[hb] at hw;simp only at hw ⊢;split at hw
    case isFalse=>cases hw
    rename_i hok;rw[if_pos hok];have h1:gl j (A.aL n (.box (b.dI q (af A u)))) v:=by
     have none0:nB j.op=some []→gl j (A.aL n (.box (b.dI q (af A u)))) v:=fun hm=>hv.xB (p:=fun _=>false) hm (fun _ _=>rfl) (fun s hs'=>by cases hs') (fun m hm=>by cases hm);cases y with
     |c y =>
      simp only[oH,pM,jl,Bool.false_or] at hl;split at hl
      ·rename_i hm;exact none0 hm
      ·cases hl
     |t y =>
      simp only[oH,pM,jl,Bool.false_or] at hl;split at hl
      ·rename_i hm;exact none0 hm
      ·split at hl
       case h_2=>cases hl
       rename_i ms hms;obtain ⟨xs,hm,hx2⟩:=zY hinv hl;refine hv.xB hm (fun _ _=>rfl) hx2 fun m hm2 =>?_;have hn:=hinv y ms hms;simp only[af] at hx;rw[hx] at hn;have:m≠n:=fun e=>by subst e;simp[I.only] at hn hm2;exact hm2 hn
       simp only[ae.aL,if_neg this]
    rw[h1.to hj];have e:(A.aN j.dst v).aL n (.box (b.dI q (af A u)))=(A.aL n (.box (b.dI q (af A u)))).aN j.dst v:=by cases j.dst <;>rfl
    rw[←e];exact hw
   |dN e esz bytes z s x =>
    have hag:en A (A.aN j.dst v) (s.sl++x.sl):=az.ku ag';have he2:bd (A.aN j.dst v) dst (.dN e esz bytes z s x) rest (ay rest)=bd A dst (.dN e esz bytes z s x) (j::rest) fun B=>ay rest (B.aN j.dst v):=by
     cases hjd:j.dst with
     |none=>rfl
     |some d =>
      rw[hjd] at hag;exact Ql (fun e=>i2 d hjd e) hag rest (j::rest) (ay rest)
    rw[he2] at hw;have ki:∀ B,r7 A dst (af A s) B→ay (j::rest) B=ay rest (B.aN j.dst v):=fun B hB=>by
     have hagB:en A B j.c7:=fun k hk=>hB.1 k fun e=>i3 k e hk;have:gl j B v:=by
      simp only[oH,pM,jl,Bool.false_or,Bool.or_eq_true] at hl;rcases hl with hl | hl
      ·obtain ⟨xs,hm,hx2⟩:=zY hinv hl;exact hv.xB hm hagB hx2 fun m hm2=>by cases hm2
      ·have:=rP hinv hl;exact hv.cO (hB.2 (by simpa using this)) hagB
     rw[this.to hj]
    rcases z6 A dst e esz bytes z s x (j::rest) with h1 | ⟨B,h1,h2⟩ | ⟨p,bh,h1,h2⟩
    ·rw[h1] at hw;cases hw
    ·rw[h1] at hw ⊢;rw[ki B h2];exact hw
    ·rw[h1] at hw ⊢;exact .any fun m hm=>by rw[ki _ (h2 m)];exact hw.zW m hm
   |_=>first | exact absurd rfl hsg | (simp[oH,pM,jl] at hl)
  ·rw[he] at hw;cases hw
theorem cF.qC{aC:eZ}{g:az} : ∀ {l:List az} {r:List az} {A:ae},fh aC A→(∀ j∈l,ot hs aC j g=true∧jD aC j=true)→cF P hs K (ay (l++g::r) A)→cF P hs K (ay (g::(l++r)) A)
 | [],r,A,_,_,h=>h
 |j::l,r,A,hinv,hi,h=>by
  have hj:=(Jx (hi j (by simp)).1).1;obtain ⟨v,hv,h2⟩:=cF.yT (g:=j) (rest:=l++g::r) hj h;have h3:=cF.qC (l:=l) (r:=r) (hv.ta hinv (hi j (by simp)).2) (fun k hk=>hi k (by simp[hk])) h2;refine cF.swap hinv (hi j (by simp)).1 ?_;rw[hv.to hj];exact h3
end
def tA:List Nat→Bool
 | []=>true
 |a::l => !l.contains a&&tA l
def sd(hs:List FuncId)(aC:eZ)(gs:List az)(cl:List Nat):List Nat→List Nat→Bool
 |_,[]=>true
 |before,i::σ=>(before.all fun j=>(cl.getD i 0).testBit j||ot hs aC (gs.getD j default) (gs.getD i default))&&sd hs aC gs cl (i::before) σ
def tP(hs:List FuncId)(aC:eZ)(on:List (List Nat))(gs:List az)(cl:List Nat)(σ:List Nat):Bool :=
 (Nat.beq σ.length gs.length&&(tA σ&&(σ.all (fun i=>decide (i<gs.length))&&((List.range gs.length).all (fun i=>σ.contains i)&&gs.all fun g=>tI g.op&&jD aC g))))&&(sd hs aC gs cl [] σ&&(List.range gs.length).all fun i=>(on.getD i []).all (fun k=>decide (k<i))&&Nat.beq (cl.getD i 0) (oZ cl (on.getD i [])))
theorem Kr:∀ {l:List Nat},tA l=true→l.Nodup
 | [],_=>List.nodup_nil
 |a::l,h=>by
  simp only[tA,zz2,Bool.not_eq_true',List.contains_eq_mem,decide_eq_false_iff_not] at h;exact List.nodup_cons.2 ⟨h.1,Kr h.2⟩
theorem zU{hs:List FuncId}{aC:eZ}{gs:List az}{cl:List Nat} : ∀ {σ before:List Nat},sd hs aC gs cl before σ=true→∀ s1 i s2,σ=s1++i::s2→∀ j,j∈before∨j∈s1→(cl.getD i 0).testBit j=true∨ot hs aC (gs.getD j default) (gs.getD i default)=true
 | [],_,_,s1,i,s2,e,_,_=>by cases s1 <;>cases e
 |a::σ,before,h,s1,i,s2,e,j,hj=>by
  simp only[sd,zz2,zy8,Bool.or_eq_true] at h;cases s1 with
  |nil =>
   simp only[zy6,List.cons.injEq] at e;obtain ⟨rfl,rfl⟩:=e;rcases hj with hj | hj
   ·exact h.1 j hj
   ·cases hj
  |cons b s1 =>
   simp only[zy0,List.cons.injEq] at e;obtain ⟨rfl,rfl⟩:=e;refine zU h.2 s1 i s2 rfl j ?_;rcases hj with hj | hj
   ·exact .inl (List.mem_cons_of_mem _ hj)
   ·rcases zw4.1 hj with hj | hj
    ·exact .inl (by rw[hj];exact List.mem_cons_self)
    ·exact .inr hj
def jh(σ:List Nat)(listed:Array Bool):List Nat:=σ.filter fun i => !listed.getD i true
def oK(gs:List az)(σ:List Nat)(listed:Array Bool):List az:=(jh σ listed).map fun i=>gs.getD i default
theorem ajo{σ:List Nat}{listed:Array Bool}{i:Nat}(hn:σ.Nodup)(hi:i∈σ)(hl:i<listed.size)(hu:listed.getD i true=false):∃ s1 s2,σ=s1++i::s2∧jh σ listed=(s1.filter fun j => !listed.getD j true)++i::(s2.filter fun j => !listed.getD j true) ∧
  jh σ (listed.setIfInBounds i true)=(s1.filter fun j => !listed.getD j true)++(s2.filter fun j => !listed.getD j true):=by
 obtain ⟨s1,s2,rfl⟩:=List.append_of_mem hi;have same:∀ j,j≠i→(listed.setIfInBounds i true).getD j true=listed.getD j true:=fun j hj=>getD_set_ne true (Ne.symm hj);have hit:(listed.setIfInBounds i true).getD i true=true:=by simp[hl]
 have hnd:=List.nodup_append.1 hn;have h1:∀ j∈s1,j≠i:=fun j hj=>hnd.2.2 j hj i List.mem_cons_self;have h2:∀ j∈s2,j≠i:=fun j hj e=>(List.nodup_cons.1 hnd.2.1).1 (e▸hj);refine ⟨s1,s2,rfl,?_,?_⟩
 ·simp only[jh,List.filter_append,zw1,hu,Bool.not_false,if_true]
 ·simp only[jh,List.filter_append,zw1,hit,Bool.not_true,zz6,if_false]
  congr 1
  ·exact List.filter_congr fun j hj=>by rw[same j (h1 j hj)]
  ·exact List.filter_congr fun j hj=>by rw[same j (h2 j hj)]
structure zN (hs:List FuncId) (aC:eZ) (l:List Oper) (gs:List az) (σ:List Nat):Prop where
 ahB:σ.Nodup
 lt:∀ i∈σ,i<gs.length
 all:∀ i,i<gs.length→i∈σ
 ok:∀ g∈gs,tI g.op=true∧jD aC g=true
 len:σ.length=gs.length
 pk:∀ i o,l[i]?=some o→∀ k∈eH o,k<i
 xg:∀ (S:Nat→Prop),(∀ i o,l[i]?=some o→S i→∀ k∈eH o,S k)→∀ s1 i s2 o,σ=s1++i::s2→l[i]?=some o→(∀ k∈eH o,S k)→∀ j∈s1,¬ S j→ot hs aC (gs.getD j default) (gs.getD i default)=true
theorem ai0{hs:List FuncId}{aC:eZ}{l:List Oper}{gs:List az}{cl σ:List Nat}(hlen:gs.length=l.length)(h:tP hs aC (l.map eH) gs cl σ=true):zN hs aC l gs σ:=by
 simp only[tP,zz2,zy8,decide_eq_true_eq,zx5,List.contains_eq_mem] at h;obtain ⟨⟨h1,h2,h3,h4,h5⟩,h6,h7⟩:=h;have bN:∀ i o,l[i]?=some o→(∀ k∈eH o,k<i)∧(∀ j,(cl.getD i 0).testBit j=true→j∈eH o∨∃ k∈eH o,(cl.getD k 0).testBit j=true):=by
  intro i o ho;have hi:i<l.length:=(zy5.1 ho).1;have h8:=h7 i (by omega);have hon:(l.map eH).getD i []=eH o:=by simp[zz1,ho]
  rw[hon] at h8;have hb:=Nat.eq_of_beq_eq_true h8.2;exact ⟨h8.1,fun j hj=>y8 (by rw[←hb];exact hj)⟩
 refine ⟨Kr h2,h3,h4,h5,Nat.eq_of_beq_eq_true h1,fun i o ho=>(bN i o ho).1,?_⟩;intro S hS s1 i s2 o e ho hon j hj hnj;have key:∀ n i o,i≤n→l[i]?=some o→(∀ k∈eH o,S k)→∀ j,(cl.getD i 0).testBit j=true→S j:=by
  intro n
  induction n with
  |zero =>
   intro i o hi ho hon j hj;obtain ⟨h8,h9⟩:=bN i o ho;rcases h9 j hj with h | ⟨k,hk,_⟩
   ·exact hon j h
   ·have:=h8 k hk;omega
  |succ n ih =>
   intro i o hi ho hon j hj;obtain ⟨h8,h9⟩:=bN i o ho;rcases h9 j hj with h | ⟨k,hk,hjk⟩
   ·exact hon j h
   ·have hki:=h8 k hk;have hkl:k<l.length:=Nat.lt_trans hki (zy5.1 ho).1;obtain ⟨ok,hok⟩:∃ ok,l[k]?=some ok:=⟨l[k],zz8 hkl⟩
    exact ih k ok (by omega) hok (hS k ok hok (hon k hk)) j hjk
 rcases zU h6 s1 i s2 e j (.inr hj) with h | h
 ·exact absurd (key i i o (zz7 _) ho hon j h) hnj
 ·exact h
section
variable {c:cS}
theorem afr{K:ae→Prop}{hs:List FuncId}{aC:eZ}{bV:Array Oper}{Q:Exit→Act→World→Prop}{o:Oper}{g:az}{rest:List az}{A:ae}{a:Act}{w:World}{Kw:Act→World→Prop}(hg:pq c.P c.n bV o=some g)(hi:fh aC A)(ho:tI g.op=true∧jD aC g=true)(hwp:cF c.P hs K (ay (g::rest) A))(hs':cw c A a w)
  (hK:∀ B a' w',cF c.P hs K (ay rest B)→fh aC B→cw c B a' w'→Kw a' w'):if Region.wanted o (yielded bV a.tmps) then o.wpIn c.bh 9 c.P a w Kw Q else (∀ f,o.about c.P w a.eval=some f→c.bh.fn f)∧Kw (a.put o.dst undef) w:=by
 obtain ⟨h1,h2,h3,h4⟩:=u7 hg;have step:cF c.P hs K (bd A g.dst g.op rest (ay rest))→o.wpIn c.bh 9 c.P a w Kw Q:=fun h =>
  wS h1 h2.symm (by rw[h2];exact h3) (cF.one (Y:=c.Y) hi ho.1 ho.2 h) hs' (fun B a' w' hw hs2=>by
   cases hw with
   |done hk=>exact hK B a' w' hk.1 hk.2 hs2)
 simp only[ay] at hwp;rcases h4 with ⟨h5,h6⟩ | ⟨j,b,t,h5,h6,h7⟩
 ·rw[h6] at hwp;have hw:Region.wanted o (yielded bV a.tmps)=true:=by simp[Region.wanted,h5]
  rw[hw,if_pos rfl];exact step hwp
 ·rw[h7] at hwp;simp only at hwp;split at hwp
  ·rename_i b' hb';rw[xa hs' h5 h6 hb'];split at hwp
   ·rename_i hbb;subst hbb;simp only[BEq.rfl,if_true];exact step hwp
   ·rename_i hbb;have:(b'==b)=false:=by simpa using hbb
    rw[this];simp only[zz6,if_false];exact ⟨fun f _=>od c f,hK _ _ _ hwp (hi.put (fun _=>rfl) fun _ _ _ _=>rfl) (by rw[h2];exact hs'.qa h3)⟩
  ·rename_i hb';rw[xb hs' h5 h6 hb'];simp only[zz6,if_false];exact ⟨fun f _=>od c f,hK _ _ _ hwp (hi.put (fun _=>rfl) fun _ _ _ _=>rfl) (by rw[h2];exact hs'.qa h3)⟩
  ·cases hwp
theorem Qd{K:ae→Prop}{fs:List FuncId}{aC:eZ}{bV:Array Oper}{gs:List az}{σ:List Nat}{Q:Exit→Act→World→Prop}(hQ:∀ B a w,K B→cw c B a w→Q .normal a w)(hgs:kI c.P c.n bV bV.toList=some gs)(hd:zN fs aC bV.toList gs σ) :
  ∀ (fuel:Nat) (listed:Array Bool) (A:ae) (a:Act) (w:World),listed.size=bV.size→(∀ i o,bV.toList[i]?=some o→listed.getD i false=true→∀ k∈eH o,listed.getD k false=true)→(jh σ listed).length≤fuel →
   fh aC A→cF c.P fs K (ay (oK gs σ listed) A)→cw c A a w→wpAnyIn c.bh 9 c.P .any bV Q fuel listed a w:=by
 obtain ⟨hlen,hat⟩:=na hgs;have onOf_mem:∀ (o:Oper) (e:Edge),e∈o.after→Region.binds .any e=true→e.on∈eH o:=fun o e he hb=>by
  simp only[eH,zx4,zw9];exact ⟨e,⟨by simpa using he,hb⟩,rfl⟩
 have of_onOf:∀ (o:Oper) (k:Nat),k∈eH o→∃ e∈o.after,Region.binds .any e=true∧e.on=k:=fun o k hk=>by
  simp only[eH,zx4,zw9] at hk;obtain ⟨e,⟨h1,h2⟩,h3⟩:=hk;exact ⟨e,by simpa using h1,h2,h3⟩
 have hgl:gs.length=bV.size:=by rw[hlen,zv1]
 have last:∀ (listed:Array Bool) (A:ae) (a:Act) (w:World),listed.size=bV.size→Region.ready .any bV listed=[]→cF c.P fs K (ay (oK gs σ listed) A)→cw c A a w→Q .normal a w:=by
  intro listed A a w hsz hr hwp hs;have hnone:jh σ listed=[]:=by
   have all:∀ n,∀ i,i<n→i<bV.size→listed.getD i true=true:=by
    intro n
    induction n with
    |zero=>intro i hi;omega
    |succ n ih =>
     intro i hi his;cases hb:listed.getD i true with
     |true=>rfl
     |false =>
      exfalso
      have ho:bV[i]?=some bV[i]:=Array.getElem?_eq_getElem his;have:i∈Region.ready .any bV listed:=mem_ready.2 ⟨hb,bV[i],ho,fun e he hbd=>by
       have hlt:=hd.pk i bV[i] (by simp) e.on (onOf_mem _ e he hbd);have h1:=ih e.on (by omega) (by omega);have h2:e.on<listed.size:=by omega
       simpa[Array.getD_eq_getD_getElem?,h2] using h1⟩
      rw[hr] at this;cases this
   simp only[jh];refine List.filter_eq_nil_iff.2 fun i hi =>?_;have:=all (i+1) i (by omega) (by rw[←hgl];exact hd.lt i hi);simp only[this,Bool.not_true,zz6,not_false_eq_true]
  simp only[oK,hnone,zx1,ay] at hwp;cases hwp with
  |done hk=>exact hQ A a w hk hs
 intro fuel
 induction fuel with
 |zero =>
  intro listed A a w hsz hcl hcnt hinv hwp hs;have hnone:jh σ listed=[]:=zv2.1 (by omega);have hr:Region.ready .any bV listed=[]:=by
   refine List.eq_nil_iff_forall_not_mem.2 fun i hi =>?_;obtain ⟨h1,o,ho,_⟩:=mem_ready.1 hi;have:i∈jh σ listed:=by
    simp only[jh,zw9,h1,Bool.not_false,and_true];exact hd.all i (by rw[hgl];exact (zx9.1 ho).1)
   rw[hnone] at this;cases this
  exact ⟨hr,last listed A a w hsz hr hwp hs⟩
 |succ fuel ih =>
  intro listed A a w hsz hcl hcnt hinv hwp hs;refine ⟨fun hr=>last listed A a w hsz hr hwp hs,fun i hi =>?_⟩;obtain ⟨hun,o,ho,hall⟩:=mem_ready.1 hi;have hin:i<bV.size:=(zx9.1 ho).1;obtain ⟨s1,s2,hσ,e1,e2⟩:=ajo hd.ahB (hd.all i (by omega)) (by omega) hun;have hol:bV.toList[i]?=some o:=by simpa using ho
  obtain ⟨g,hgi,hcg⟩:=hat i o hol;have hon:∀ k∈eH o,listed.getD k false=true:=fun k hk=>by
   obtain ⟨e,h1,h2,h3⟩:=of_onOf o k hk;exact h3▸hall e h1 h2
  have hgd:gs.getD i default=g:=by simp[zz1,hgi]
  have hwp':cF c.P fs K (ay (g::oK gs σ (listed.setIfInBounds i true)) A):=by
   simp only[oK,e1,zx6,zz9,hgd] at hwp;simp only[oK,e2,zx6];refine cF.qC hinv (fun j hj =>?_) hwp;obtain ⟨k,hk,rfl⟩:=zx4.1 hj;obtain ⟨hk1,hk2⟩:=zw9.1 hk;have:=hd.xg (fun k=>listed.getD k false=true) hcl s1 i s2 o hσ hol hon k hk1 (by
    have hks:k<listed.size:=by
     have:=hd.lt k (by rw[hσ];exact List.mem_append_left _ hk1);omega
    simp[Array.getD_eq_getD_getElem?,hks] at hk2 ⊢;exact hk2)
   rw[hgd] at this;refine ⟨this,(hd.ok _ ?_).2⟩;have hkl:=hd.lt k (by rw[hσ];exact List.mem_append_left _ hk1);rw[zz1,zz8 hkl];exact zy9 _
  unfold wpOpIn;rw[ho];refine afr hcg hinv (hd.ok g (List.mem_of_getElem? hgi)) hwp' hs fun B a' w' hw hiB hs'=>ih _ B a' w' (by simpa using hsz) ?_ ?_ hiB hw hs'
  ·intro m om hom hm k hk;by_cases hmi:m=i
   ·subst hmi;rw[hol,u8] at hom;subst hom;exact getD_set_true (hon k hk)
   ·rw[getD_set_ne false (Ne.symm hmi)] at hm;exact getD_set_true (hcl m om hom hm k hk)
  ·have:(jh σ listed).length=(jh σ (listed.setIfInBounds i true)).length+1:=by
    rw[e1,e2];simp;omega
   omega
def p9(σ:List Nat)(gs:List az):List az:=σ.map fun i=>gs.getD i default
theorem J.ajl{Q:Exit→ae→Prop}{A:ae}{on:List (List Nat)}{gs:List az}(hs:List FuncId)(aC:eZ)(cl σ:List Nat)(hd:tP hs aC on gs cl σ=true)(hi:fh aC A)(h:∀ K:ae→Prop,(∀ B,Q .normal B→K B)→cF c.P hs K (ay (p9 σ gs) A)):J c (.cg (some on) gs) Q A:=by
 intro code hc a w hs';cases code <;>simp only[fk] at hc <;>try (first | (cases hc;done) | ((repeat' split at hc) <;>cases hc;done))
 rename_i id bV draw;split at hc
 ·rename_i gs' hgs;split at hc
  case isFalse=>cases hc
  rename_i hok;simp only[u8,aP.cg.injEq] at hc;obtain ⟨he,rfl⟩:=hc;cases draw with
  |false=>cases he
  |true =>
   simp only[cond_true,u8] at he;subst he;simp only[Bool.not_true,Bool.false_or] at hok;have hp:=ai0 (na hgs).1 hd;refine wpIn_region_any hok (Qd (K:=Q .normal) (fun B a w hk hs=>⟨B,hk,hs⟩) hgs hp bV.size (Array.replicate bV.size false) A a _ (by simp) ?_ ?_ hi ?_ ?_)
   ·intro i o _ h
    exfalso
    simp only[Array.getD_eq_getD_getElem?,Array.getElem?_replicate] at h;split at h <;>simp at h
   ·refine zv8 (zv4 _ _) ?_;rw[hp.len,(na hgs).1,zv1];exact zz7 _
   ·have hall:jh σ (Array.replicate bV.size false)=σ:=by
     simp only[jh];refine List.filter_eq_self.2 fun i hi =>?_;have h1:=hp.lt i hi;rw[(na hgs).1,zv1] at h1;simp[h1]
    simp only[oK,hall];exact h _ fun _ hb=>hb
   ·obtain ⟨D,E,hs'⟩:=hs';exact ⟨D,E,hs'.grow (w' := { w with drawn:=w.drawn+1 }) ⟨rfl,rfl,rfl,zz7 _,fun _ _=>rfl⟩ (fun _ _ h=>h) (fun _ _ h _=>h) (fun b o h=>hs'.dq b o h)⟩
 ·cases hc
def pJ(ts:List (Nat×I)):eZ→Prop
 | []=>True
 |(s,ns)::aC=>(cn ts s).only (fun n=>ns.contains n)=true∧pJ ts aC
theorem fh.of{ts:List (Nat×I)}{os:List (Nat×ai)}{aC:eZ}(h:pJ ts aC):fh aC (au ts os):=by
 intro s ns hn;simp only[au]
 induction aC with
 |nil=>cases hn
 |cons q aC ih =>
  obtain ⟨s',ns'⟩:=q;simp only[pJ] at h;simp only[jy,List.find?_cons] at hn;split at hn
  ·rename_i e;simp only[zy4,u8] at hn;simp only[beq_iff_eq] at e;subst e hn;exact h.1
  ·exact ih h.2 hn
end
end Go.Abs
namespace Go.Abs
open Go Go.RowKit
open Enc (enc)
section
variable {α:Type} [Enc α] {P:Program} {Y:Value→List I→List (Nat×ai)→cT→Prop} {K:ae→Prop} {A:ae} {rest:List az} {esz bytes:Nat}
theorem uq{n lo k:Nat}{xs:List α}(ho:A.o n=some (.box (.agg (xs.map enc))))(h:lo+k≤xs.length):eI A esz (.view n [] esz lo k)=some (((xs.drop lo).take k).map enc):=by
 have h1:cB A (.ptr n [])=some (.agg (xs.map enc)):=by simp only[cB,ho];rfl
 simp only[eI,h1,zy2];rw[if_pos ⟨h,trivial⟩,List.map_take,List.map_drop]
theorem ajR{xs ys:List α}(h:xs.length=ys.length):I.cX (xs.map enc)=I.cX (ys.map enc):=by
 rw[rN,rN,h]
end
theorem ajX{n:Nat}{p:List Nat}{sz k total i:Nat}(h:i≤k)(hk:k≤total):∃ y,hJ n p sz 0 k total (some (.int .i64 i)) none none=some y:=by
 simp only[hJ,iv];rw[if_pos ⟨by omega,by omega,by omega⟩];split <;>exact ⟨_,rfl⟩
theorem J6(k:Nat):cn [] k=.dp:=rfl
def gW(aC:List Nat):List (Nat×I)→List (Nat×I)
 | []=>[]
 |(s,v)::ts=>if aC.contains s=true then (s,v)::gW aC ts else gW aC ts
theorem agD(aC:List Nat):gW aC []=[]:=rfl
theorem agC(aC:List Nat)(s:Nat)(v:I)(ts:List (Nat×I)):gW aC ((s,v)::ts)=if aC.contains s=true then (s,v)::gW aC ts else gW aC ts:=rfl
theorem J5(aC:List Nat)(t:Nat):∀ ts,cn (gW aC ts) t=.dp∨cn (gW aC ts) t=cn ts t
 | []=>.inl rfl
 |(s,v)::ts=>by
  simp only[gW];have ih:=J5 aC t ts;by_cases hs:aC.contains s=true
  ·rw[if_pos hs];simp only[cn];split
   ·exact .inr rfl
   ·exact ih
  ·rw[if_neg hs];simp only[cn];split
   ·rename_i e;subst e
    left
    have:∀ ts,cn (gW aC ts) t=.dp:=by
     intro ts
     induction ts with
     |nil=>rfl
     |cons q ts ih2 =>
      obtain ⟨s',v'⟩:=q;simp only[gW];split
      ·rename_i h';simp only[cn];have:t≠s':=fun e=>hs (e▸h');rw[if_neg this];exact ih2
      ·exact ih2
    exact this ts
   ·exact ih
theorem J.fR(aC:List Nat){c:cS}{x:aP}{Q:Exit→ae→Prop}{ts:List (Nat×I)}{os:List (Nat×ai)}(h:J c x Q (au (gW aC ts) os)):J c x Q (au ts os):=by
 refine J.sub ?_ h;rintro cc a w ⟨D,E,hs⟩;refine ⟨D,E,hs.sz,hs.eU,fun t =>?_,hs.dZ,hs.da,hs.dq,hs.bT,hs.cU,hs.ed,hs.fb,hs.cO,hs.fg,hs.fJ⟩;simp only[au];rcases J5 aC t ts with e | e
 ·rw[e];simp[aV]
 ·rw[e];exact hs.eB t
theorem xt:(∀ aC,gW aC []=[])∧(∀ aC s v ts,gW aC ((s,v)::ts)=if aC.contains s=true then (s,v)::gW aC ts else gW aC ts)∧(∀ (a:Nat) l b,(a::l).contains b=(b==a||l.contains b))∧(∀ b:Nat,([]:List Nat).contains b=false)∧(∀ b,(false||b)=b)∧(∀ b,(true||b)=true)∧(∀ b,(b||true)=true)∧(∀ b,(b||false)=b)∧((false=true)=False) :=
 ⟨agD,agC,fun _ _ _=>List.contains_cons,fun _=>rfl,fun _=>rfl,fun _=>rfl,fun b=>by cases b <;>rfl,fun b=>by cases b <;>rfl,by simp⟩
end Go.Abs
namespace Go.Abs
open Go Go.RowKit
open Enc (enc)
def xJ:Option ai→Option (List I×List I)
 |some (.cv ks vs)=>some (ks,vs)
 |_=>none
noncomputable def xT(A:ae)(n:Nat)(rest:List az):Option (List I×List I)→cK
 |some (ks,vs)=>ay rest (A.aL n (.cv ks vs))
 |none=>.fail
noncomputable def xS(A:ae)(n:Nat)(ty:cP)(k v:I)(rest:List az):Option ai→cK
 |some (.cv ks vs)=>xT A n rest (gh ty k v ks vs)
 |_=>.fail
noncomputable def xR(A:ae)(ty:cP)(k v:I)(rest:List az):I→cK
 | .mref n=>xS A n ty k v rest (A.o n)
 |_=>.fail
noncomputable def xQ(A:ae)(d:Nat)(rest:List az):Option ai→cK
 |none=>ay rest ((A.aL d (.cv [] [])).put d (.mref d))
 |some _=>.fail
open Classical in
noncomputable def tu(A:ae)(d bytes:Nat)(z:I)(rest:List az):I→cK
 | .int _ n=>if 0≤n∧n.toNat*bytes≤281474976710656∧n.toNat≤maxLen then ay rest ((A.aL d (.box (.agg (List.replicate n.toNat z)))).put d (.view d [] 1 0 n.toNat)) else .fail
 |_=>.fail
noncomputable def tt(A:ae)(d bytes:Nat)(z n:I)(rest:List az):Option ai→cK
 |none=>tu A d bytes z rest n
 |some _=>.fail
noncomputable def yD(A:ae)(d:Nat)(rest:List az):I→cK
 | .cI ks vs=>ay rest ((A.aL d (.it ks vs (List.range ks.length) none)).put d (.dv d))
 |_=>.fail
noncomputable def ui(A:ae)(d:Nat)(x:I)(rest:List az):Option ai→cK
 |none=>yD A d rest x
 |some _=>.fail
def vE:Option ai→Option I
 |some (.it ks vs _ cur)=>ni ks vs cur
 |_=>none
def vD(A:ae):I→Option I
 | .dv n=>vE (A.o n)
 |_=>none
open Classical in
noncomputable def pZ(A:ae)(d:Option Nat)(n:Nat)(rest:List az):Option ai→cK
 |some (.it ks vs left _)=>if left=[] then ay rest (A.aN d (.tuple [.bool false])) else
   .any (fun i=>i∈left) fun i=>match ks[i]?,vs[i]? with
    |some kk,some x=>ay rest ((A.aL n (.it ks vs (left.filter (· != i)) (some i))).aN d (.tuple [.bool true,kk,x]))
    |_,_=>.fail
 |_=>.fail
noncomputable def xX(A:ae)(d:Option Nat)(rest:List az):I→cK
 | .dv n=>pZ A d n rest (A.o n)
 |_=>.fail
section
variable (d:Option Nat) (rest:List az) (A:ae)
theorem ah9(x:aJ):bO A d (.nilC x) rest=cR (mH (af A x)) (di d rest A):=rfl
theorem aid(neg:Bool)(x y:aJ):bO A d (.ptrE neg x y) rest=cR (mL neg (ja (af A x)) (ja (af A y))) (di d rest A):=rfl
theorem ah3(ty:cP)(z:I)(ok:Bool)(m k:aJ):bO A d (.lk ty z ok m k) rest=cR (rj ty z ok (af A k) (gu A (af A m))) (di d rest A):=rfl
theorem ag9(n:Nat):gu A (.mref n)=xJ (A.o n):=by
 simp only[gu];cases A.o n with
 |none=>rfl
 |some y=>cases y <;>rfl
theorem ah7(ty:cP)(m k v:aJ):bO A none (.gv ty m k v) rest=xR A ty (af A k) (af A v) rest (af A m):=by
 simp only[bO,bd];cases af A m <;>rfl
theorem ah5(d:Nat):bO A (some d) .jB rest=xQ A d rest (A.o d):=by
 simp only[bO,bd];cases A.o d <;>rfl
theorem ah6(d e bytes:Nat)(z:I)(n:aJ):bO A (some d) (.kp e bytes z n) rest=tt A d bytes z (af A n) rest (A.o d):=by
 simp only[bO,bd];cases A.o d with
 |some _=>rfl
 |none=>simp only[tt];cases af A n <;>rfl
theorem aie(d:Nat)(x:aJ):bO A (some d) (.j4 x) rest=ui A d (af A x) rest (A.o d):=by
 simp only[bO,bd];cases A.o d with
 |some _=>rfl
 |none=>simp only[ui];cases af A x <;>rfl
theorem ahS(x:aJ):bO A d (.ent x) rest=cR (vD A (af A x)) (di d rest A):=by
 simp only[bO,bd,br];cases af A x <;>rfl
theorem aib(x:aJ):bO A d (.iF x) rest=xX A d rest (af A x):=by
 simp only[bO,bd];cases af A x <;>rfl
end
theorem dT :
  (∀ d rest A x,bO A d (.nilC x) rest=cR (mH (af A x)) (di d rest A))∧(∀ n p,mH (.ptr n p)=some (.ptr n p))∧(∀ x,mH (.ref x)=some (.ref x)) ∧
  (∀ d rest A neg x y,bO A d (.ptrE neg x y) rest=cR (mL neg (ja (af A x)) (ja (af A y))) (di d rest A))∧(ja .nilp=some true)∧(∀ n p,ja (.ptr n p)=some false)∧(∀ x,ja (.ref x)=some false) ∧
  (mL false (some true) (some true)=some (.bool true))∧(mL false (some false) (some true)=some (.bool false))∧(mL true (some true) (some true)=some (.bool false))∧(mL true (some false) (some true)=some (.bool true)) ∧
  (∀ d rest A ty z ok m k,bO A d (.lk ty z ok m k) rest=cR (rj ty z ok (af A k) (gu A (af A m))) (di d rest A))∧(∀ A n,gu A (.mref n)=xJ (A.o n))∧(∀ A ks vs,gu A (.cI ks vs)=some (ks,vs))∧(∀ ks vs,xJ (some (.cv ks vs))=some (ks,vs)) ∧
  (∀ ty z ok k ks vs,rj ty z ok k (some (ks,vs))=rl ok (gq ty z k ks vs))∧(∀ v b,rl false (some (v,b))=some v)∧(∀ v b,rl true (some (v,b))=some (.tuple [v,.bool b])) ∧
  (∀ rest A ty m k v,bO A none (.gv ty m k v) rest=xR A ty (af A k) (af A v) rest (af A m))∧(∀ A ty k v rest n,xR A ty k v rest (.mref n)=xS A n ty k v rest (A.o n))∧(∀ A n ty k v rest ks vs,xS A n ty k v rest (some (.cv ks vs))=xT A n rest (gh ty k v ks vs)) ∧
  (∀ A n rest ks vs,xT A n rest (some (ks,vs))=ay rest (A.aL n (.cv ks vs))) ∧
  (∀ rest A d,bO A (some d) .jB rest=xQ A d rest (A.o d))∧(∀ A d rest,xQ A d rest none=ay rest ((A.aL d (.cv [] [])).put d (.mref d))) ∧
  (∀ rest A d e bytes z n,bO A (some d) (.kp e bytes z n) rest=tt A d bytes z (af A n) rest (A.o d))∧(∀ A d bytes z n rest,tt A d bytes z n rest none=tu A d bytes z rest n) ∧
  (∀ rest A d x,bO A (some d) (.j4 x) rest=ui A d (af A x) rest (A.o d))∧(∀ A d x rest,ui A d x rest none=yD A d rest x)∧(∀ A d rest ks vs,yD A d rest (.cI ks vs)=ay rest ((A.aL d (.it ks vs (List.range ks.length) none)).put d (.dv d))) ∧
  (∀ d rest A x,bO A d (.ent x) rest=cR (vD A (af A x)) (di d rest A))∧(∀ A n,vD A (.dv n)=vE (A.o n))∧(∀ ks vs l cur,vE (some (.it ks vs l cur))=ni ks vs cur) ∧
  (∀ d rest A x,bO A d (.iF x) rest=xX A d rest (af A x))∧(∀ A d rest n,xX A d rest (.dv n)=pZ A d n rest (A.o n)) :=
 ⟨ah9,fun _ _=>rfl,fun _=>rfl,aid,rfl,fun _ _=>rfl,fun _=>rfl,rfl,rfl,rfl,rfl,ah3,ag9,fun _ _ _=>rfl,fun _ _=>rfl,fun _ _ _ _ _ _=>rfl,fun _ _=>rfl,fun _ _=>rfl,
  fun rest A ty m k v=>ah7 rest A ty m k v,fun _ _ _ _ _ _=>rfl,fun _ _ _ _ _ _ _ _=>rfl,fun _ _ _ _ _=>rfl,fun rest A d=>ah5 rest A d,fun _ _ _=>rfl,fun rest A d e bytes z n=>ah6 rest A d e bytes z n,fun _ _ _ _ _ _=>rfl,
  fun rest A d x=>aie rest A d x,fun _ _ _ _=>rfl,fun _ _ _ _ _=>rfl,ahS,fun _ _=>rfl,fun _ _ _ _=>rfl,aib,fun _ _ _ _=>rfl⟩
theorem dW:(∀ n p z lo k,bY none (.view n p z lo k)=true)∧(∀ n,bY none (.mref n)=true)∧(∀ n p,bY none (.ptr n p)=true)∧(∀ x,bY none (.ref x)=true)∧bY none .nilp=true∧bY none .df=true∧bY none (.raw (.map none))=true∧(∀ ks vs,bY none (.cI ks vs)=true)∧(∀ {α:Type} [Enc α] (l:List α),bY none (enc l)=true) :=
 ⟨fun _ _ _ _ _=>rfl,fun _=>rfl,fun _ _=>rfl,fun _=>rfl,rfl,rfl,rfl,fun _ _=>rfl,fun l=>by simp[mq,nh]⟩
theorem aho{A:ae}{d bytes:Nat}{z:I}{rest:List az}{n:Nat}(h1:n*bytes≤281474976710656)(h2:n≤maxLen):tu A d bytes z rest (.int .i64 n)=ay rest ((A.aL d (.box (.agg (List.replicate n z)))).put d (.view d [] 1 0 n)):=by
 simp only[tu,Int.toNat_natCast];rw[if_pos ⟨Int.natCast_nonneg n,h1,h2⟩]
section
variable {α:Type} [Enc α] [DecidableEq α] {ty:cP}
theorem vO(aw:∀ x y:α,cq ty (enc x) (enc y)=some (decide (x=y)))(k:α):∀ (ks:List α) (i:Nat),e8 ty (enc k) (ks.map enc) i=some ((ks.findIdx? fun x=>decide (k=x)).map (· + i))
 | [],i=>rfl
 |x::ks,i=>by
  simp only[zz9,e8,aw,List.findIdx?_cons];by_cases h:k=x
  ·simp[h]
  ·simp only[h,decide_false,zz6,if_false];rw[vO aw k ks (i+1)];cases ks.findIdx? fun x=>decide (k=x) with
   |none=>rfl
   |some j=>simp;omega
theorem xz(aw:∀ x y:α,cq ty (enc x) (enc y)=some (decide (x=y)))(z:I)(k:α)(ks:List α)(vs:List I) :
  gq ty z (enc k) (ks.map enc) vs=match ks.findIdx? fun x=>decide (k=x) with
   |some i=>(vs[i]?).map fun v=>(v,true)
   |none=>some (z,false):=by
 simp only[gq,aw,Option.isSome_some,if_true,vO aw];cases ks.findIdx? fun x=>decide (k=x) <;>rfl
theorem Km(aw:∀ x y:α,cq ty (enc x) (enc y)=some (decide (x=y)))(k:α)(v:I)(hv:v.b8=true)(ks:List α)(vs:List I) :
  gh ty (enc k) v (ks.map enc) vs=match ks.findIdx? fun x=>decide (k=x) with
   |some i=>some (ks.map enc,vs.set i v)
   |none=>some ((ks++[k]).map enc,vs++[v]):=by
 simp only[gh,aw,Option.isSome_some,hv,JL (eb k),and_self,if_true,vO aw];cases ks.findIdx? fun x=>decide (k=x) with
 |none=>simp
 |some i=>rfl
omit [Enc α] in
theorem Dj{k:α}{ks:List α} : (ks.findIdx? fun x=>decide (k=x)).isSome=decide (k∈ks):=by
 induction ks with
 |nil=>rfl
 |cons x ks ih =>
  simp only[List.findIdx?_cons,zw4];by_cases h:k=x
  ·simp[h]
  ·simp only[h,decide_false,zz6,if_false,Option.isSome_map,ih,false_or]
theorem xA(aw:∀ x y:α,cq ty (enc x) (enc y)=some (decide (x=y)))(k:α)(ks:List α):gq ty (.bool false) (enc k) (ks.map enc) (List.replicate ks.length (.bool true))=some (.bool (decide (k∈ks)),decide (k∈ks)):=by
 rw[xz aw,←Dj];cases h:ks.findIdx? fun x=>decide (k=x) with
 |none=>rfl
 |some i =>
  have:=(List.findIdx?_eq_some_iff_getElem.1 h).1;simp[this]
def lu{α:Type}[DecidableEq α](ks:List α)(k:α):List α:=if k∈ks then ks else ks++[k]
omit [Enc α] in
theorem ahi{ks:List α}{k x:α} : x∈lu ks k↔x=k∨x∈ks:=by
 unfold lu;split
 ·rename_i h;exact ⟨.inr,fun h2=>h2.elim (fun e=>e▸h) id⟩
 ·simp[or_comm]
theorem Kn(aw:∀ x y:α,cq ty (enc x) (enc y)=some (decide (x=y)))(k:α)(ks:List α):gh ty (enc k) (.bool true) (ks.map enc) (List.replicate ks.length (.bool true))=some ((lu ks k).map enc,List.replicate (lu ks k).length (.bool true)):=by
 rw[Km aw k _ rfl];have hm:=Dj (k:=k) (ks:=ks);cases h:ks.findIdx? fun x=>decide (k=x) with
 |none =>
  rw[h] at hm;have:k∉ks:=by simpa using hm.symm
  simp only[lu,if_neg this]
  congr 2
  rw[zz5,List.length_singleton,List.replicate_succ']
 |some i =>
  rw[h] at hm;have:k∈ks:=by simpa using hm.symm
  simp only[lu,if_pos this]
  congr 2
  have:=(List.findIdx?_eq_some_iff_getElem.1 h).1;exact List.ext_getElem (by simp) fun j h1 h2=>by
   simp only[List.getElem_set,List.getElem_replicate];split <;>rfl
end
section
variable {α:Type} [Enc α]
theorem Ac{xs:List α}{i:Nat}(d:α)(h:i<xs.length):ga i [] (some (xs.map enc))=some (enc (xs.getD i d)):=by
 simp[ga,pj,h,I.at,zz1]
theorem N5{A:ae}{n i:Nat}{xs:List α}(v u:α){rest:List az}(hA:Enc.gf α=false)(h:i<xs.length):dC A none n [i] (.agg (xs.map enc)) (enc v) rest (some (enc u))=ay rest (A.aL n (.box (.agg ((xs.set i v).map enc)))):=by
 rw[eg (dO v) (by rw[mq,hA];rfl) ((eO v).trans (eO u).symm)];have h2:(xs.map (enc (α:=α)))[i]?=some (enc (xs[i])):=by simp[h]
 simp only[I.dI,h2,List.map_set]
end
theorem akd{A:ae}{n i:Nat}{xs:List Bool}(h:i<xs.length)(v u:Bool)(rest:List az):dC A none n [i] (.agg (xs.map enc)) (.bool v) rest (some (.bool u))=ay rest (A.aL n (.box (.agg ((xs.set i v).map enc)))):=N5 v u rfl h
theorem nQ{A:ae}{n i:Nat}{xs:List Int}(h:i<xs.length)(v u:Int)(rest:List az):dC A none n [i] (.agg (xs.map enc)) (.int .i64 v) rest (some (.int .i64 u))=ay rest (A.aL n (.box (.agg ((xs.set i v).map enc)))):=N5 v u rfl h
theorem Ad{xs:List Bool}{i:Nat}(h:i<xs.length):ga i [] (some (xs.map enc))=some (.bool (xs.getD i false)):=Ac false h
theorem gP{xs:List Int}{i:Nat}(h:i<xs.length):ga i [] (some (xs.map enc))=some (.int .i64 (xs.getD i 0)):=Ac 0 h
theorem JK{m sz lo l i:Nat}{fs:List I}(h:i<l):mC m [] sz lo l sz (i:Int) (some fs)=some (.ptr m [lo+i]):=by rw[xq h];rfl
theorem Yy{α:Type}[Enc α]{A:ae}{m n sz k:Nat}{xs:List α}(ho:A.o n=some (.box (.agg (xs.map enc))))(hs:Enc.sz α=sz)(hk:k=xs.length):dK A (m+1) (.view n [] sz 0 k)=some (enc xs):=by
 subst hk hs;have h1:cB A (.ptr n [])=some (.agg (xs.map enc)):=by simp only[cB,ho];rfl
 simp only[dK,I.bn,zz6,if_false,h1];have h2:((xs.map (enc (α:=α))).drop 0).take xs.length=xs.map enc:=by rw[List.drop_zero,zv5 (by simp)]
 rw[h2,if_pos (jP xs),gn]
theorem kJ:(∀ {α:Type} [Enc α] (x:α),(enc x).bn=true)∧(∀ n p z lo k,(I.view n p z lo k).bn=false)∧(∀ n,(I.mref n).bn=false)∧(∀ n p,(I.ptr n p).bn=false)∧(∀ n k,(I.own n k).bn=false) :=
 ⟨@eb,fun _ _ _ _ _=>rfl,fun _=>rfl,fun _ _=>rfl,fun _ _=>rfl⟩
end Go.Abs
namespace Go.Abs
open Go Go.RowKit
open Enc (enc)
theorem aF.P8{A:ae}{d n T z:Nat}(hd:A.t d=.nils z)(hn:A.o n=none)(hlt:n<1000000):aF A ((A.aL n (.cV T [])).put d (.own n 0)):=by
 rintro c a w ⟨D,E,h⟩;have aw:E n=none:=by have:=h.bT n;rw[hn] at this;exact this
 have hl:dS w D E w D (fun m=>if m=n then some (.rw none 0) else E m):=by
  have eE:∀ {m:Nat} {e:bR},E m=some e→(if m=n then some (.rw none 0) else E m)=some e:=fun {m e} he=>by
   have:m≠n:=fun e=>by rw[e,aw] at he;cases he
   rw[if_neg this];exact he
  refine ⟨fun _ _ h=>h,fun _ _ _ _ h=>h,fun m b aO he=>eE he,fun m aE l he =>?_,fun m b he=>eE he,fun m b he=>eE he,fun _ _ _ _ h=>h⟩
  ·have:m≠n:=fun e=>by rw[e,aw] at he;cases he
   exact ⟨aE,l,by simp only[if_neg this];exact he,zz7 _,fun _=>rfl⟩
 refine ⟨D,fun m=>if m=n then some (.rw none 0) else E m,h.sz,h.eU,fun t =>?_,h.dZ,h.da,h.dq,fun m =>?_,fun m m' e e' b h1 h2 h3 h4 =>?_,fun m e hm =>?_,h.fb,h.cO,h.fg,h.fJ⟩
 ·simp only[ae.put,ae.aL];by_cases ht:t=d
  ·subst ht;simp only[if_true];have hv:=h.eB t;rw[hd] at hv;obtain ⟨cs,q1,q2⟩:=hv;simp only[ah] at q2;subst q2;refine ⟨[.slice none 0 0],by simpa[bD,I.isAgg] using q1,?_⟩;simp only[ah,if_true];exact ⟨none,0,rfl,zz7 _,⟨_,_,_,rfl⟩,fun _=>trivial⟩
  ·simp only[if_neg ht];exact aV.bI hl (h.eB t)
 ·simp only[ae.put,ae.aL];by_cases hm:m=n
  ·subst hm;simp only[if_true,dg];exact ⟨none,by simp,by simp,trivial⟩
  ·simp only[if_neg hm];exact (h.bT m).bI hl (by simp only[if_neg hm]) fun _ _ _ _=>⟨rfl,fun _ ho=>ho⟩
 ·by_cases hm:m=n <;>by_cases hm':m'=n
  ·rw[hm,hm']
  ·simp only[if_pos hm,u8] at h1;subst h1;simp[bR.aE] at h3
  ·simp only[if_pos hm',u8] at h2;subst h2;simp[bR.aE] at h4
  ·simp only[if_neg hm] at h1;simp only[if_neg hm'] at h2;exact h.cU m m' e e' b h1 h2 h3 h4
 ·have hmn:m≠n:=fun e=>by rw[e,h.kh (.inr hlt)] at hm;cases hm
  simp only[if_neg hmn];exact h.ed m e hm
theorem aF.zT{ts:List (Nat×I)}{os:List (Nat×ai)}(d n T z:Nat)(hd:cn ts d=.nils z)(hn:ak os n=none){B:ae}(h:aF (au ((d,.own n 0)::ts) ((n,.cV T [])::os)) B)(hlt:n<1000000:=by decide):aF (au ts os) B :=
 ((aF.P8 (A:=au ts os) (T:=T) hd hn hlt).trans (by rw[oD,tp];exact aF.refl _)).trans h
theorem aF.P9{A:ae}{m n T z:Nat}{p:List Nat}{b:I}(hm:A.o m=some (.box b))(hp:b.at p=some (.nils z))(hn:A.o n=none)(hlt:n<1000000):aF A ((A.aL n (.cV T [])).aL m (.box (b.dI p (.own n 0)))):=by
 rintro c a w ⟨D,E,h⟩;have aw:E n=none:=by have:=h.bT n;rw[hn] at this;exact this
 have hmn:m≠n:=fun e=>by rw[e,hn] at hm;cases hm
 have hl:dS w D E w D (fun m=>if m=n then some (.rw none 0) else E m):=by
  have eE:∀ {m:Nat} {e:bR},E m=some e→(if m=n then some (.rw none 0) else E m)=some e:=fun {m e} he=>by
   have:m≠n:=fun e=>by rw[e,aw] at he;cases he
   rw[if_neg this];exact he
  refine ⟨fun _ _ h=>h,fun _ _ _ _ h=>h,fun m b aO he=>eE he,fun m aE l he =>?_,fun m b he=>eE he,fun m b he=>eE he,fun _ _ _ _ h=>h⟩
  ·have:m≠n:=fun e=>by rw[e,aw] at he;cases he
   exact ⟨aE,l,by simp only[if_neg this];exact he,zz7 _,fun _=>rfl⟩
 refine ⟨D,fun m=>if m=n then some (.rw none 0) else E m,h.sz,h.eU,fun t=>aV.bI hl (h.eB t),h.dZ,h.da,h.dq,fun k =>?_,fun m m' e e' b h1 h2 h3 h4 =>?_,fun m e hm =>?_,h.fb,h.cO,h.fg,h.fJ⟩
 ·simp only[ae.aL];by_cases hk:k=m
  ·subst hk;have ho:=h.bT k;rw[hm] at ho;obtain ⟨b',cs,T',h1,h2,h3,h4,h5⟩:=ho;obtain ⟨q1,q2⟩:=Nb (y:=.own n 0) (ah.bI hl _ _ h4) hp (fun ds hd=>by
    simp only[ah] at hd;subst hd;simp only[ah,if_true];exact ⟨none,0,rfl,zz7 _,⟨_,_,_,rfl⟩,fun _=>trivial⟩) rfl
   simp only[if_true,dg];exact ⟨b',cs,T',by rw[q2];simp only[if_neg hmn];exact h1,h2,h3,q1,h5⟩
  ·simp only[if_neg hk];by_cases hkn:k=n
   ·subst hkn;simp only[if_true,dg];exact ⟨none,by simp,by simp,trivial⟩
   ·simp only[if_neg hkn];exact (h.bT k).bI hl (by simp only[if_neg hkn]) fun _ _ _ _=>⟨rfl,fun _ ho=>ho⟩
 ·by_cases hm:m=n <;>by_cases hm':m'=n
  ·rw[hm,hm']
  ·simp only[if_pos hm,u8] at h1;subst h1;simp[bR.aE] at h3
  ·simp only[if_pos hm',u8] at h2;subst h2;simp[bR.aE] at h4
  ·simp only[if_neg hm] at h1;simp only[if_neg hm'] at h2;exact h.cU m m' e e' b h1 h2 h3 h4
 ·have hmn:m≠n:=fun e=>by rw[e,h.kh (.inr hlt)] at hm;cases hm
  simp only[if_neg hmn];exact h.ed m e hm
theorem aF.Qa{ts:List (Nat×I)}{os:List (Nat×ai)}(m n T z:Nat)(p:List Nat)(b:I)(hm:ak os m=some (.box b))(hp:b.at p=some (.nils z))(hn:ak os n=none){B:ae}(h:aF (au ts ((m,.box (b.dI p (.own n 0)))::(n,.cV T [])::os)) B)(hlt:n<1000000:=by decide):aF (au ts os) B :=
 ((aF.P9 (A:=au ts os) (T:=T) hm hp hn hlt).trans (by rw[oD,oD];exact aF.refl _)).trans h
theorem uV{A:ae}{d:Option Nat}{e bytes n l:Nat}{xs:List Int}{y:Int}{rest:List az}(hl:l=xs.length)(h1:xs.length+1≤maxLen)(h2:(xs.length+1)*bytes≤140737488355328) :
  pf A d e 1 bytes (.int .i64 0) n l e xs rest (enc [y])=ay rest ((A.aL n (.cV e (xs++[y]))).aN d (.own n (xs.length+1))):=by
 show pf A d e 1 bytes (.int .i64 0) n l e xs rest (.slice 1 [.int .i64 y])=_
 simp only[pf];rw[if_pos ⟨hl,rfl,rfl,rfl,rfl,by simp,h1,h2⟩];rfl
def fL(n k:Nat):I→I
 | .own n' k'=>if n'=n∧k'=k then .view n [] 1 0 k else .own n' k'
 |v=>v
def fK(n:Nat):I→I
 | .own n' k'=>if n'=n∧k'=0 then .nils 1 else .own n' k'
 |v=>v
def iL(f:I→I):ai→ai
 | .box v=>.box (f v)
 |y=>y
def nH(n k:Nat)(v:I):Prop:=v=.own n k∨v.only (fun j=>j != n)=true
def aiC(n k:Nat)(y:ai):Prop:=y=.box (.own n k)∨y.only (fun j=>j != n)=true
theorem rQ{n k:Nat}{v:I}(h:v.only (fun j=>j != n)=true):fL n k v=v:=by
 cases v <;>try rfl
 rename_i n' k';simp only[I.only,bne_iff_ne,ne_eq] at h;simp only[fL,h,false_and,if_false]
theorem y0{n:Nat}{v:I}(h:v.only (fun j=>j != n)=true):fK n v=v:=by
 cases v <;>try rfl
 rename_i n' k';simp only[I.only,bne_iff_ne,ne_eq] at h;simp only[fK,h,false_and,if_false]
theorem pR(f:I→I)(hf:f .dp=.dp)(ts:List (Nat×I))(t:Nat):cn (ts.map fun q=>(q.1,f q.2)) t=f (cn ts t):=by
 induction ts with
 |nil=>exact hf.symm
 |cons q ts ih =>
  obtain ⟨k,v⟩:=q;simp only[zz9,cn];split
  ·rfl
  ·exact ih
theorem th(f:ai→ai)(os:List (Nat×ai))(t:Nat):ak (os.map fun q=>(q.1,f q.2)) t=(ak os t).map f:=by
 induction os with
 |nil=>rfl
 |cons q os ih =>
  obtain ⟨k,v⟩:=q;simp only[zz9,ak];split
  ·rfl
  ·exact ih
theorem dg.dB{M:Nat→Prop}{w:World}{D:aM}{E E':aW}{p:Nat→Bool}(hp:∀ n,p n=true→E' n=E n){m:Nat}(aw:E' m=E m){y:ai}(hon:y.only p=true)(ho:dg M w D E m (some y)):dg M w D E' m (some y):=by
 cases y with
 |box x =>
  obtain ⟨b,cs,T,k1,k2,k3,k4,k5⟩:=ho;exact ⟨b,cs,T,aw.trans k1,k2,k3,ah.dB hp _ _ (by simpa[ai.only] using hon) k4,k5⟩
 |bX T sz es =>
  obtain ⟨aE,k1,k2,k3⟩:=ho;refine ⟨aE,aw.trans k1,k2,?_⟩;cases aE with
  |none=>exact k3
  |some bc =>
   obtain ⟨b,cap⟩:=bc;obtain ⟨cs,pre,rest,q1,q2,q3,q4,q5⟩:=k3;exact ⟨cs,pre,rest,q1,q2,q3,aI.dB hp _ _ (by simpa[ai.only] using hon) q4,q5⟩
 |cV T xs =>
  obtain ⟨aE,k1,k2,k3⟩:=ho;exact ⟨aE,aw.trans k1,k2,k3⟩
 |dQ x =>
  obtain ⟨b,k1,k2⟩:=ho;exact ⟨b,aw.trans k1,k2⟩
 |cv ks vs =>
  obtain ⟨b,es,ck,k1,k2,k3,k4,k5,k6,k7⟩:=ho;simp only[ai.only,zz2] at hon;exact ⟨b,es,ck,aw.trans k1,k2,k3,k4,aG.dB hp _ _ hon.1 k5,aG.dB hp _ _ hon.2 k6,k7⟩
 |it ks vs left cur =>
  obtain ⟨r,b,es,ck,si,se,la,k1,k2,k3,k4,k5,k6,k7⟩:=ho;simp only[ai.only,zz2] at hon;exact ⟨r,b,es,ck,si,se,la,aw.trans k1,k2,k3,k4,aG.dB hp _ _ hon.1 k5,aG.dB hp _ _ hon.2 k6,k7⟩
theorem rM(xs:List Int):(I.agg (xs.map enc)).aO=.ew (List.replicate xs.length .one):=by
 show cQ.ew (I.cX _)=_
 congr 1
 induction xs with
 |nil=>rfl
 |cons x xs ih=>simp only[zz9,I.cX,ih,List.length_cons,List.replicate_succ];rfl
theorem rD{w:World}{D:aM}{E:aW} : ∀ {xs:List Int},(∀ x∈xs,IntKind.i64.min≤x∧x≤IntKind.i64.max)→aI w D E (xs.map enc) (xs.map (Value.int .i64))
 | [],_=>rfl
 |x::xs,h=>⟨[.int .i64 x],xs.map (Value.int .i64),rfl,⟨rfl,h x (by simp)⟩,rD fun y hy=>h y (by simp[hy])⟩
theorem aF.Om{ts:List (Nat×I)}{os:List (Nat×ai)}{n T:Nat}{B:ae}(hn:ak os n=some (.cV T []))
  (h:aF (au (ts.map fun q=>(q.1,fK n q.2)) (os.map fun q=>(q.1,iL (fK n) q.2))) B):aF (au ts os) B:=by
 refine aF.trans ?_ h;rintro c a w ⟨D,E,hs⟩;obtain ⟨aE,aw,-,hblk⟩:=hs.rR (n:=n) (T:=T) (xs:=[]) hn;have hnone:aE=none:=by
  cases aE with
  |none=>rfl
  |some bc=>obtain ⟨b,cap⟩:=bc;obtain ⟨_,_,_,_,_,h,_⟩:=hblk;exact absurd rfl h
 subst hnone;have conv:∀ (v:I) (cs:List Value),ah w D E v cs→ah w D E (fK n v) cs:=fun v cs hr=>by
  cases v <;>try exact hr
  rename_i n' k';simp only[fK];split
  ·rename_i hh;obtain ⟨rfl,rfl⟩:=hh;obtain ⟨blk',l,q3,q4,q5,q6⟩:=hr;rw[aw] at q3;simp only[u8,bR.rw.injEq,List.length_nil] at q3;obtain ⟨rfl,rfl⟩:=q3;exact q6 rfl
  ·exact hr
 refine ⟨D,E,hs.sz,hs.eU,fun t =>?_,hs.dZ,hs.da,hs.dq,fun m =>?_,hs.cU,hs.ed,hs.fb,hs.cO,hs.fg,hs.fJ⟩
 ·show aV w D E (cn _ t) _
  rw[pR _ rfl];have:=hs.eB t;simp only[au] at this;revert this;generalize cn ts t=v;intro hv;cases v <;>try exact hv
  rename_i n' k';obtain ⟨cs,q1,q2⟩:=hv;have:=conv _ _ q2
  revert this;simp only[fK];split
  ·intro this;exact ⟨cs,q1,this⟩
  ·intro this;exact ⟨cs,q1,this⟩
 ·show dg _ w D E m (ak _ m)
  rw[th];have:=hs.bT m;simp only[au] at this;revert this;cases ak os m with
  |none=>exact id
  |some y =>
   cases y <;>try exact id
   rename_i x;rintro ⟨b,cs,T,k1,k2,k3,k4,k5⟩;refine ⟨b,cs,T,?_,k2,k3,conv _ _ k4,k5⟩;rw[k1];have:(fK n x).aO=x.aO:=by
    cases x <;>try rfl
    simp only[fK];split <;>rfl
   rw[this]
theorem J.Ol{c:cS}{x:aP}{Q:Exit→ae→Prop}{ts:List (Nat×I)}{os:List (Nat×ai)}{n T:Nat}{xs:List Int}(hn:ak os n=some (.cV T xs))(hne:xs≠[])(hlt:n<1000000)
  (ht:∀ t,nH n xs.length (cn ts t)) (ho:∀ m y,ak os m=some y→m≠n→aiC n xs.length y)
  (h:∀ q:Nat,J c x Q (au (ts.map fun p=>(p.1,fL n xs.length p.2)) ((n,.box (.agg ((xs++List.replicate q 0).map enc)))::os.map fun p=>(p.1,iL (fL n xs.length) p.2)))):J c x Q (au ts os):=by
 rintro code hc a w ⟨D,E,hs⟩;obtain ⟨aE,aw,hr,hblk⟩:=hs.rR (n:=n) hn;cases aE with
 |none=>exact absurd hblk hne
 |some bc =>
 obtain ⟨b,cap⟩:=bc;obtain ⟨cs,q,hM,hb,hcs,-,hcap,hmax,hD⟩:=hblk;have hp:∀ j,(fun j=>j != n) j=true→(fun j=>if j=n then some (bR.aA b (.ew (List.replicate (xs.length+q) .one))) else E j) j=E j:=fun j hj=>by
  have:j≠n:=by simpa using hj
  simp only[if_neg this]
 have conv:∀ cs0,ah w D E (.own n xs.length) cs0→ah w D (fun j=>if j=n then some (bR.aA b (.ew (List.replicate (xs.length+q) .one))) else E j) (.view n [] 1 0 xs.length) cs0:=fun cs0 hr=>by
  obtain ⟨blk',l,q3,q4,q5,q6⟩:=hr;rw[aw] at q3;simp only[u8,bR.rw.injEq] at q3;obtain ⟨rfl,rfl⟩:=q3;have:=q6 rfl;refine ⟨b,_,0,List.replicate (xs.length+q) .one,if_pos rfl,rfl,rfl,?_,by rw[List.length_replicate];omega,by rw[List.length_replicate];omega,fun s hs =>?_⟩
  ·rw[this,List.length_replicate];simp only[Nat.zero_mul,Nat.add_zero,Nat.sub_zero,hcap]
  ·rw[List.eq_of_mem_replicate hs];rfl
 refine h q code hc a w ⟨D,fun j=>if j=n then some (.aA b (.ew (List.replicate (xs.length+q) .one))) else E j,hs.sz,hs.eU,fun t =>?_,hs.dZ,hs.da,hs.dq,fun m =>?_,fun m m' e e' b1 h1 h2 h3 h4 =>?_,fun m e hm =>?_,hs.fb,hs.cO,hs.fg,hs.fJ⟩
 ·show aV w D _ (cn _ t) _
  rw[pR _ rfl];have hv:=hs.eB t;simp only[au] at hv;rcases ht t with h1 | h1
  ·rw[h1] at hv ⊢;simp only[fL,and_self,if_true];obtain ⟨cs0,q1,q2⟩:=hv;exact ⟨cs0,q1,conv _ q2⟩
  ·rw[rQ h1];exact aV.dB hp h1 hv
 ·show dg _ w D _ m (ak _ m)
  simp only[ak];by_cases hm:m=n
  ·subst hm;simp only[if_true];refine ⟨b,cs,T,?_,hM,hb,?_,hD⟩
   ·simp only[if_true];rw[rM,zz5,List.length_replicate]
   ·show aI w D _ _ _
    rw[hcs];refine rD fun y hy =>?_;rcases zy1.1 hy with hy | hy
    ·exact hr y hy
    ·rw[List.eq_of_mem_replicate hy];decide
  ·simp only[if_neg hm];rw[th];have hob:=hs.bT m;simp only[au] at hob;cases hy:ak os m with
   |none=>rw[hy] at hob;simp only[dg,Option.map_none] at hob ⊢;rw[if_neg hm];exact hob
   |some y =>
    rw[hy] at hob;rcases ho m y hy hm with rfl | h1
    ·obtain ⟨b1,cs1,T1,k1,k2,k3,k4,k5⟩:=hob;refine ⟨b1,cs1,T1,?_,k2,k3,?_,k5⟩
     ·simp only[if_neg hm];rw[k1];simp only[fL,and_self,if_true];rfl
     ·simp only[fL,and_self,if_true];exact conv _ k4
    ·have e:iL (fL n xs.length) y=y:=by
      cases y <;>try rfl
      simp only[ai.only] at h1;simp only[iL,rQ h1]
     simp only[zy4,e];exact hob.dB hp (if_neg hm) h1
 ·have cut:∀ m e,(if m=n then some (bR.aA b (.ew (List.replicate (xs.length+q) .one))) else E m)=some e→∃ e2,E m=some e2∧e2.aE=e.aE:=fun m e he=>by
   by_cases hm:m=n
   ·subst hm;rw[if_pos rfl] at he;cases he;exact ⟨_,aw,rfl⟩
   ·rw[if_neg hm] at he;exact ⟨e,he,rfl⟩
  obtain ⟨e2,k1,k2⟩:=cut m e h1;obtain ⟨e3,k3,k4⟩:=cut m' e' h2;exact hs.cU m m' e2 e3 b1 k1 k3 (k2.trans h3) (k4.trans h4)
 ·have hmn:m≠n:=fun e=>by rw[e,hs.kh (.inr hlt)] at hm;cases hm
  simp only[if_neg hmn];exact hs.ed m e hm
def xr:Option Nat→Code
 |none=>.ret
 |some id=>.exit id
def C5:Option Nat→Exit
 |none=>.ret
 |some id=>.exit id
def qq(o:Obj)(A:ae)(os:List (Nat×ai)):Prop:=∀ n x,ak (dn o os) n=some x→A.o n=some x∧x.only (al (dn o os))=true∧x.eG=true
def ajF(o:Obj)(In:List (Nat×ai)→Prop)(Ix:Option Nat→List (Nat×ai)→Prop):Exit→ae→Prop
 | .normal,A=>∃ os,qq o A os∧In os
 | .ret,A=>∃ os,qq o A os∧Ix none os
 | .exit id,A=>∃ os,qq o A os∧Ix (some id) os
 |_,_=>False
def PW(P:Program)(nn:Nat)(x y:aP)(ps:List Nat)(tsR:List (Nat×I))(N:Nat)(item:Nat→List I)(aj:Nat→List (Nat×ai)→Prop)(Ix:Option Nat→List (Nat×ai)→Prop):Prop :=
 ∀ k osb,k<N→aj k osb→∀ (w:World) (D:aM) (E:aW) (l:Nat) (o1 o2:Obj),
  J ⟨P,w,D,nn,dz E,E,iE,some l⟩ x (ar (fun B=>B.o 1999999=some (.dQ o1)∧J ⟨P,w,D,nn,dz E,E,iE,some l⟩ y (ajF o2 (aj (k+1)) Ix) (B.aL 1999999 (.dQ o2))) (fun _ _=>False)) (au (qc ps (item k) tsR) (dn o1 osb))
section
variable {c:cS} {Q:Exit→ae→Prop}
theorem agh{o:Obj}{A:ae}{os:List (Nat×ai)}(h:qq o A os)(o':Obj):∀ n x,ak (dn o' os) n=some x→(A.aL 1999999 (.dQ o')).o n=some x∧x.only (al (dn o' os))=true∧x.eG=true:=fun n x hx=>by
 have e:al (dn o' os)=al (dn o os):=by funext m;rw[lO,lO]
 rw[e];by_cases hn:n=1999999
 ·subst hn;rw[pQ,if_pos rfl,u8] at hx;subst hx;exact ⟨by simp[ae.aL],rfl,rfl⟩
 ·rw[pQ,if_neg hn] at hx;obtain ⟨h1,h2⟩:=h n x (by rw[pQ,if_neg hn];exact hx);exact ⟨by simp only[ae.aL,if_neg hn];exact h1,h2⟩
theorem J.j0{f:aJ}{ps:List Nat}{x y:aP}{ts tsR:List (Nat×I)}{os0 osb0:List (Nat×ai)}{ρ:List (Nat×Nat)}{g:FuncId}{caps:List I}{N:Nat}{item:Nat→List I}
  (aj:Nat→List (Nat×ai)→Prop) (Ix:Option Nat→List (Nat×ai)→Prop) (hr:c.mR=none) (hn6:c.n≤1000000)
  (hf:af (au ts os0) f=.func g caps) (hcl:I.bW caps=true) (hcb:gR c.P g=true) (hit:uP c.P g caps N item) (hlen:∀ k,(item k).length=ps.length)
  (hfree:ak os0 999999=none) (h19:al osb0 1999999=false) (hρ:bx ρ 1999999=999999)
  (hgv:∀ o,fZ ρ (dn o osb0) ((999999,.dQ o)::os0)) (hts:l5 ρ (al osb0) ts tsR)
  (hI:∀ k os,aj k os→fp osb0 os) (hIx:∀ e os,Ix e os→fp osb0 os) (h0:aj 0 osb0)
  (hround:PW c.P c.n x y ps tsR N item aj Ix)
  (hdone:∀ os,aj N os→Q .normal (au ts (dH ρ os++os0))) (hexit:∀ e os,Ix e os→Q (C5 e) (au ts (dH ρ os++os0))) :
  J c (.j0 f ps x y) Q (au ts os0):=by
 intro code hc a w hs;cases code <;>simp only[fk] at hc <;>try (first | (cases hc;done) | ((repeat' split at hc) <;>cases hc;done))
 rename_i cf cps cx cy;split at hc
 case h_2=>cases hc
 rename_i f' x' y' hcf hcx hcy;split at hc
 case isFalse=>cases hc
 rename_i hpn;simp only[u8,aP.j0.injEq] at hc;obtain ⟨rfl,rfl,rfl,rfl⟩:=hc;obtain ⟨D,E,hs⟩:=hs;have hF:c.bh=Fence.wide:=by unfold cS.bh;rw[hr]
 have hE0:c.dM 999999=none:=hs.kh (.inr (by decide));have hval:∃ vs:List Value,a.eval cf=.func (.func g) #[] vs.toArray∧aG w D E caps vs:=by
  have hv:=cj hs hcf;rw[hf] at hv;obtain ⟨cs,q1,q2⟩:=hv;simp only[ah] at q2;obtain ⟨vs,q3,q4⟩:=q2;exact ⟨vs,by simpa[bD,I.isAgg,q3] using q1.symm,q4⟩
 obtain ⟨vs,hval,hvs⟩:=hval;rw[hF];refine wpIn_rangeFunc fun fn hfn =>?_;obtain ⟨rec,hrec⟩:∃ rec:LoopState→Option Code→Loop,rec=fun bl pe => { state:=bl,pending:=pe,fn,tmps:=a.tmps,params:=cps,assign:=cx,body:=cy,defers:=w.heap.size } :=⟨_,rfl⟩
 obtain ⟨E1,hs1,hE1,hup⟩:=hs.enter hfree hE0 (o:=.loop (rec .ready none)) rfl;obtain ⟨W1,hW1⟩:∃ W1,(w.alloc (.deferred (some []))).alloc (.loop (rec .ready none))=W1:=⟨_,rfl⟩
 rw[hW1] at hs1 hup;obtain ⟨l,hl⟩:∃ l,l=w.heap.size+1:=⟨_,rfl⟩
 rw[←hl] at hE1;obtain ⟨yv,hyv⟩:∃ yv:Value,yv=.func (.yield l) #[] #[]:=⟨_,rfl⟩
 obtain ⟨a1,ha1⟩:∃ a1:Act,a1 = { a with defers := { target:=.collected w.heap.size,args := #[] } :: a.defers } :=⟨_,rfl⟩
 rw[←ha1] at hs1;refine ⟨l,[{ target:=.collected w.heap.size,args := #[] }],W1,{ target:=.fn (.func g) vs.toArray,args := #[yv] },W1,g,#[yv]++vs.toArray,W1,?_,?_,?_,?_,fun _=>by decide,?_⟩
 ·rw[←hW1,hrec,hl];exact run_enterLoop_outer _ _ _ _ _
 ·simp only[resolve,hval,hyv];simp[go_sem]
 ·intro f' _;trivial
 ·simp only[invoke,yG hcb]
 ·-- the iterator's own bargain
  have hG0:=hI 0 osb0 h0;obtain ⟨I',hI'⟩:∃ I':Nat→List (Nat×ai)→Prop,I'=fun k os=>∃ osb,os=dn (.loop (rec .ready none)) osb∧aj k osb:=⟨_,rfl⟩
  obtain ⟨Ix',hIx'⟩:∃ Ix':List (Nat×ai)→Prop,Ix'=fun os=>∃ e osb,os=dn (.loop (rec .done (some (xr e)))) osb∧Ix e osb:=⟨_,rfl⟩
  obtain ⟨os1,hos1⟩:∃ os1,os1=dn (.loop (rec .ready none)) osb0:=⟨_,rfl⟩
  obtain ⟨Y,hY⟩:∃ Y:Value→List I→List (Nat×ai)→cT→Prop,Y=fun v args os post=>v=yv∧∃ k,args=item k∧k<N∧I' k os∧∀ r os2,(r=.bool true∧I' (k+1) os2)∨(r=.bool false∧Ix' os2)→post r os2:=⟨_,rfl⟩
  have ki:∀ k os',I' k os'→fp os1 os':=fun k os' h=>by
   rw[hI'] at h;obtain ⟨osb,rfl,h⟩:=h;rw[hos1];exact (hI k osb h).dn _ _
  have goodx:∀ os',Ix' os'→fp os1 os':=fun os' h=>by
   rw[hIx'] at h;obtain ⟨e,osb,rfl,h⟩:=h;rw[hos1];exact (hIx e osb h).dn _ _
  have hctr:=hit Y yv I' Ix' os1 (by rw[hyv];rfl) (fun k os' post hk h1 h2=>by rw[hY];exact ⟨rfl,k,rfl,hk,h1,h2⟩) ki goodx (by rw[hI'];exact ⟨osb0,hos1,h0⟩);have hgv1:fZ ρ os1 ((999999,.dQ (.loop (rec .ready none)))::os0):=by rw[hos1];exact hgv _
  obtain ⟨A0,hA0⟩:∃ A0:ae,A0=au ts ((999999,.dQ (.loop (rec .ready none)))::os0):=⟨_,rfl⟩
  have hand:qt (Calls c.P g) (fun w D E=>∀ n,pc ⟨c.P,w,D,n,dz E,E,Y,none⟩) (.raw yv::caps) os1 (fun r os'=>r=.tuple []∧(I' N os'∨Ix' os')):=fun w D E vs hy hlive hheld hv=>by
   refine (hctr.2 w D E vs hy hlive hheld hv).mono fun e w' ⟨v,he,D',E',r,os',q⟩=>⟨v,D',E',r,os',he,q⟩
  have hshare:=hs1.oS;obtain ⟨Dh,hDh⟩:∃ Dh,Dh=oN (au ts ((999999,.dQ (.loop (rec .ready none)))::os0)) D E1:=⟨_,rfl⟩
  rw[←hDh] at hshare;have hsh:=hshare.1;obtain ⟨Eh,hEh⟩:∃ Eh,Eh=aw ρ os1 E1:=⟨_,rfl⟩
  have isrec:al os1 1999999=true:=by rw[hos1,lO];simp
  have hEl:Eh 1999999=some (.op l):=by rw[hEh];simp only[aw,isrec,if_true,hρ];exact hE1
  have EhIn:∀ n e,Eh n=some e→al os1 n=true:=fun n e h=>by
   rw[hEh] at h;simp only[aw] at h;split at h
   ·assumption
   ·cases h
  have hyok:∀ n,pc ⟨c.P,W1,Dh,n,dz Eh,Eh,Y,none⟩:=by
   intro n v' args os' post' hYv w2 D2 E2 vs2 hsince hlive hheld hrvs;rw[hY] at hYv;obtain ⟨rfl,k,rfl,hkN,hIk,hpost⟩:=hYv;have hIk0:=hIk;rw[hI'] at hIk;obtain ⟨osb,rfl,hIk⟩:=hIk;have gk:=ki k _ hIk0;have gkb:=hI k osb hIk;have in2:∀ m,al os1 m=true→E2 m≠none:=fun m hm=>by
    rw[←gk.same m] at hm;cases hx:ak (dn (.loop (rec .ready none)) osb) m with
    |none=>simp[al,hx] at hm
    |some x=>have:=hheld.bT m;rw[hx] at this;exact tD this
   have same2:∀ m e,Eh m=some e→e.eG=true→E2 m=some e:=fun m e he hfx=>by
    rcases hsince.ed m e he with h | ⟨e',h,hle⟩
    ·exact absurd h (in2 m (EhIn m e he))
    ·rw[hle.eq hfx] at h;exact h
   have hEl2:E2 1999999=some (.op l):=same2 _ _ hEl rfl;have hob:=hheld.bT 1999999;rw[pQ,if_pos rfl] at hob;obtain ⟨b,j1,_,j3,_,_⟩:=hob;rw[hEl2] at j1;cases j1;have hsz:vs2.toArray.size=cps.size:=by have:=yN hrvs;rw[hlen] at this;simpa using this
   have hyr:=run_yield (P:=c.P) (args:=vs2.toArray) j3 (by rw[hrec];exact hsz);rw[hrec] at hyr;refine ⟨l,hyv,fn,_,cx,cy,hyr,roundIn_of_wpIn trivial ?_⟩;clear hyr
   -- the round's own frame
   obtain ⟨cr,hcr⟩:∃ cr:cS,cr=⟨c.P,w2,D2,c.n,dz E2,E2,iE,some l⟩:=⟨_,rfl⟩
   have hFr:cr.bh=Fence.wide.inRound l:=by rw[hcr];rfl
   have hlat:dS W1 Dh Eh w2 D2 E2:=by
    refine ⟨hsince.cO,hsince.fJ.cell,fun m b aO he=>same2 m _ he rfl,fun m aE l he =>?_,fun m b he=>same2 m _ he rfl,fun m b he=>same2 m _ he rfl,hsince.fJ.jA⟩;rcases hsince.ed m _ he with h | ⟨e',h,hle⟩
    ·exact absurd h (in2 m (EhIn m _ he))
    ·rcases hle with rfl | ⟨_,_,blk',l',e,rfl,k1,k2⟩
     ·exact ⟨aE,l,h,zz7 _,fun _=>rfl⟩
     ·cases e;exact ⟨blk',l',h,k1,k2⟩
   have hslots:l5 ρ (al os1) ts tsR:=by
    have:∀ tsR:List (Nat×I),l5 ρ (al osb0) ts tsR→l5 ρ (al os1) ts tsR:=by
     intro tsR
     induction tsR with
     |nil=>exact fun h=>h
     |cons q r ih =>
      intro h;obtain ⟨h1,h2,h3⟩:=h;exact ⟨h1,jd (fun n hn=>by rw[hos1,lO,hn];simp) _ h2,ih h3⟩
    exact this tsR hts
   have hsr:aS cr (au tsR (dn (.loop (rec .ready none)) osb)) { tmps:=a.tmps,defers:=[] } w2 D2 E2:=by
    rw[hcr];refine ⟨hs.sz,⟨[],rfl,.nil,fun _ h=>by simp at h⟩,fun t =>?_,fO.refl _ _,fun _ _ h _=>h,hlive,fun m=>(hheld.bT m).mF fun e b he hb=>.inr ⟨m,e,he,hb⟩,hheld.cU,fun _ e h=>.inr ⟨e,h,.refl e⟩,fun m hm =>?_,fun _ _ h=>h,(fun _ _ _ _ h=>h.elim),.refl _ _⟩
    ·rcases NR hslots t with h | ⟨h1,h2⟩
     ·simp only[au];rw[h];simp[aV]
     ·have h3:=hsh.eB t;rw[ha1] at h3;simp only[au] at h3 ⊢;rw[h1] at h3;have h4:=(aV.aK (w:=W1) (D:=Dh) (p:=al os1) (ρ:=bx ρ) (E:=Eh) (E':=E1) (fun n hn=>by rw[hEh];simp only[aw,hn,if_true]) h2).1 h3;exact aV.bI hlat h4
    ·have hmi:al os1 m=true:=by
      rw[←gk.same m];have:=hheld.bT m;cases hx:ak (dn (.loop (rec .ready none)) osb) m with
      |none=>rw[hx] at this;exact absurd this hm
      |some x=>simp[al,hx]
     have:=gk.oj m hmi;exact ⟨zv8 hn6 this,this⟩
   have hsp:=aS.Ll cps.toList vs2 (item k) tsR _ hsr (fun p hp=>by rw[hcr];have:=zy8.1 hpn p hp;simpa using this) hrvs (by have:=hsz;simpa using this.symm);have htm:(cps.zip vs2.toArray).foldl (fun t (q:Tmp×Value)=>t.setIfInBounds q.1 q.2) a.tmps=(cps.toList.zip vs2).foldl (fun t q=>t.setIfInBounds q.1 q.2) a.tmps:=by
    rw[←Array.foldl_toList];simp
   have hx:=hround k osb hkN hIk w2 D2 E2 l (.loop (rec .ready none)) (.loop { rec .ready none with state:=.busy });rw[←hcr] at hx;have hx1:=hx cx (by rw[hcr];exact hcx) _ w2 ⟨D2,E2,hsp⟩;rw[hFr] at hx1;simp only[←htm] at hx1;rw[hcr] at hx1;refine wpIn_mono hx1 ?_;rintro e ax wx ⟨B,hq,hsx⟩;rw[←hcr] at hq hsx;cases e <;>simp only[ar] at hq <;>try exact hq.elim
   simp only[Exit.then];obtain ⟨hB1,hB2⟩:=hq;obtain ⟨Dx,Ex,hsx⟩:=hsx;have hElx:Ex 1999999=some (.op l):=by
    have ho:=hsx.bT 1999999;rw[hB1] at ho;rcases hsx.Dm (n:=1999999) (by rw[hcr];exact hEl2) rfl with h | h
    ·exact absurd h (tD ho)
    ·exact h
   have hLx:wx.heap[l]?=some (.loop (rec .ready none)):=by
    have ho:=hsx.bT 1999999;rw[hB1] at ho;obtain ⟨b,k1,_,k3,_⟩:=ho;rw[hElx] at k1;cases k1;exact k3
   refine ⟨_,run_beginRound hLx (by rw[hrec]),?_⟩;have hsb:=hsx.yQ (o':=.loop { rec .ready none with state:=.busy }) hB1 hElx rfl;have hy1:=hB2 cy (by rw[hcr];exact hcy) _ _ ⟨Dx,Ex,hsb⟩;rw[hFr] at hy1;rw[hcr] at hy1;refine wpIn_mono hy1 ?_;rintro e a3 w3 ⟨A3,hq3,D3,E3,hs3⟩;rw[←hcr] at hs3
   -- the end of the round
   have a7:∀ (os:List (Nat×ai)) (jump:Option Code),qq (.loop { rec .ready none with state:=.busy }) A3 os→(post' (.bool jump.isNone) (dn (.loop (rec (if jump.isNone then .ready else .done) jump)) os)) →
     ∃ v w',(Instr.endRound l jump).run c.P w3=.ok v w'∧(fun e w'=>∃ v D' E' r os',e=Ending.returned v∧post' r os'∧aV w' D' E' r v∧lp (fun b=>w2.heap.size≤b∨dz E2 b) w' D' E' (ak os') ∧
      fO (fun b=>w2.heap.size≤b∨dz E2 b) w2 w'∧(∀ b o,D2 b o→D' b o)∧(∀ b o,D' b o→b<w'.heap.size)∧(∀ b o,D' b o→b<w2.heap.size→¬ dz E2 b→D2 b o) ∧
      (∀ n e,E2 n=some e→al os' n=true→∃ e',E' n=some e'∧e.le e')∧iq w2 D2 w') (.returned v) w':=fun os jump hbk hp=>by
    have hA3:A3.o 1999999=some (.dQ (.loop { rec .ready none with state:=.busy })):=(hbk 1999999 _ (by rw[pQ,if_pos rfl])).1;have hEl3:E3 1999999=some (.op l):=by
     have ho:=hs3.bT 1999999;rw[hA3] at ho;rcases hs3.Dm (n:=1999999) (by rw[hcr];exact hEl2) rfl with h | h
     ·exact absurd h (tD ho)
     ·exact h
    have hL3:w3.heap[l]?=some (.loop { rec .ready none with state:=.busy }):=by
     have ho:=hs3.bT 1999999;rw[hA3] at ho;obtain ⟨b,k1,_,k3,_⟩:=ho;rw[hEl3] at k1;cases k1;exact k3
    have hend:=run_endRound (P:=c.P) jump hL3;have erec:({ rec .ready none with state:=if jump.isNone then LoopState.ready else .done,pending:=jump } : Loop)=rec (if jump.isNone then .ready else .done) jump:=by rw[hrec]
    have hend':(Instr.endRound l jump).run c.P w3=.ok (.bool jump.isNone) (w3.putObj l (.loop (rec (if jump.isNone then .ready else .done) jump))):=by
     rw[hend];rw[hrec]
    have hs4:=hs3.yQ (o':=.loop (rec (if jump.isNone then .ready else .done) jump)) hA3 hEl3 rfl;rw[hcr] at hs4;obtain ⟨D',E',_,_,_,q1,q2,q3,q4,q5,q6⟩:=hs4.JS (agh hbk _);exact ⟨_,_,hend',_,D',E',.bool jump.isNone,_,rfl,hp,⟨[.bool jump.isNone],by simp[bD,I.isAgg],by simp[ah]⟩,q1,q2,q3,q4,q5,q6⟩
   cases e with
   |normal =>
    obtain ⟨os,hbk,hin⟩:=hq3;exact a7 os none hbk (hpost _ _ (.inl ⟨rfl,by rw[hI'];exact ⟨os,rfl,hin⟩⟩))
   |ret =>
    obtain ⟨os,hbk,hin⟩:=hq3;exact a7 os (some .ret) hbk (hpost _ _ (.inr ⟨rfl,by rw[hIx'];exact ⟨none,os,rfl,hin⟩⟩))
   |exit id =>
    obtain ⟨os,hbk,hin⟩:=hq3;exact a7 os (some (.exit id)) hbk (hpost _ _ (.inr ⟨rfl,by rw[hIx'];exact ⟨some id,os,rfl,hin⟩⟩))
   |goto t=>exact hq3.elim
   |panic ch=>exact hq3.elim
   |outgrown=>exact hq3.elim
  -- the call
  have hargs:fU (aV W1 D E1) (.raw yv::caps) (yv::vs):=by
   exact .cons ⟨[yv],by simp[bD,I.isAgg],by rw[hyv];exact ⟨rfl,rfl⟩⟩ (yK (hup caps vs hvs))
  have hus:=hand.use (ρ:=ρ) hs1 false (fun h=>h.mono) ⟨(fun h=>by cases h),fun _=>by rw[←hDh,←hEh];exact hyok⟩ hgv1 (uY _ (by simp[I.bW,I.bn,hcl]))
   (fun r os' hp=>by
    have gg:fp os1 os':=by
     rcases hp.2 with h | h
     ·exact ki _ _ h
     ·exact goodx _ h
    refine ⟨fun m x hx=>⟨(gg.ok m x hx).1,(gg.ok m x hx).2,fun h=>by cases h⟩,fun m m' h1 h2=>hgv1.inj m m' (by rw[←gg.same];exact h1) (by rw[←gg.same];exact h2),fun m hm=>by rw[gg.same];exact hm,fun m h1 h2=>(by rw[gg.same,h2] at h1;cases h1),(by rw[hp.1];simp[I.only,I.bU]),fun h=>by cases h⟩) hargs
  have ecl : #[yv]++vs.toArray=(yv::vs).toArray:=by simp
  rw[ecl];refine CallsIn.mono (callsIn_wide.2 hus) ?_;rintro e w3 ⟨v,r,os',D2,E2,rfl,hp,hs2,_,hE2⟩;have key:∀ (o3:Obj) (osb:List (Nat×ai)),os'=dn o3 osb→pL o3=true→E2 999999=some (.op l)∧w3.heap[l]?=some o3∧∀ o4,pL o4=true→cw c (au ts (dH ρ osb++os0)) a1 (w3.putObj l o4):=fun o3 osb he h3=>by
   subst he;have hn2:E2 999999=some (.op l):=by
    obtain ⟨e',h1,h2⟩:=hE2 1999999 (.op l) (by rw[←hEh];exact hEl) (by rw[lO];simp);rw[hρ] at h1;rw[h1,h2.eq rfl]
   have eos:dH ρ (dn o3 osb)=(999999,.dQ o3)::dH ρ osb:=by simp only[dn,dH,zz9,hρ,ai.aK]
   rw[eos] at hs2;have ha:(au ts ((999999,ai.dQ o3)::dH ρ osb++(999999,.dQ (.loop (rec .ready none)))::os0)).o 999999=some (.dQ o3):=by simp[au,ak]
   have hgb:∀ m,al osb m=true→bx ρ m≠999999:=fun m hm e=>by
    have h5:al (dn o3 osb) m=true:=by rw[lO,hm];simp
    have g5:fp os1 (dn o3 osb):=by
     rcases hp.2 with h | h
     ·exact ki _ _ h
     ·exact goodx _ h
    have h6:=hgv1.inj m 1999999 (by rw[←g5.same];exact h5) isrec (by rw[hρ];exact e);subst h6;have h7:fp osb0 osb:=by
     rcases hp.2 with h | h
     ·rw[hI'] at h;obtain ⟨osb',h8,h9⟩:=h;simp only[dn,List.cons.injEq] at h8;rw[h8.2];exact hI _ _ h9
     ·rw[hIx'] at h;obtain ⟨e,osb',h8,h9⟩:=h;simp only[dn,List.cons.injEq] at h8;rw[h8.2];exact hIx _ _ h9
    rw[h7.same,h19] at hm;cases hm
   refine ⟨hn2,?_,fun o4 h4 =>?_⟩
   ·have ho:=hs2.bT 999999;rw[ha] at ho;obtain ⟨b,k1,_,k3,_⟩:=ho;rw[hn2] at k1;cases k1;exact k3
   ·have h5:=(hs2.yQ (o':=o4) ha hn2 h4).X3 hn2;have hst:(⟨((au ts ((999999,ai.dQ o3)::dH ρ osb++(999999,.dQ (.loop (rec .ready none)))::os0)).aL 999999 (.dQ o4)).t,fun m=>if m=999999 then none else
      ((au ts ((999999,ai.dQ o3)::dH ρ osb++(999999,.dQ (.loop (rec .ready none)))::os0)).aL 999999 (.dQ o4)).o m⟩:ae)=au ts (dH ρ osb++os0):=by
     simp only[au,ae.aL]
     congr 1
     funext m
     by_cases hm:m=999999
     ·subst hm;simp only[if_true,rm];cases hq:pre ρ osb 999999 with
      |none=>exact hfree.symm
      |some k=>exact absurd (lW hq).2 (hgb k (lW hq).1)
     ·simp only[if_neg hm,zy0,ak,rm]
    rw[hst] at h5;exact ⟨D2,_,h5⟩
  rcases hp.2 with h | h
  ·rw[hI'] at h;obtain ⟨osb,he,hin⟩:=h;obtain ⟨k1,k2,k3⟩:=key _ osb he rfl;refine ⟨none,_,(by have:=run_endLoop (P:=c.P) k2 (by rw[hrec];simp);rw[hrec] at this;exact this),_,hdone osb hin,?_⟩;have:=k3 (.loop { rec .ready none with state:=.exhausted }) rfl;rw[ha1] at this;rw[hrec] at this;exact this
  ·rw[hIx'] at h;obtain ⟨e,osb,he,hin⟩:=h;obtain ⟨k1,k2,k3⟩:=key _ osb he rfl;refine ⟨some (xr e),_,(by have:=run_endLoop (P:=c.P) k2 (by rw[hrec];simp);rw[hrec] at this;exact this),?_⟩;have:=k3 (.loop { rec .done (some (xr e)) with state:=.exhausted }) rfl;rw[ha1] at this;rw[hrec] at this;have hq:JX c Q (C5 e) { a with defers := { target:=.collected w.heap.size,args := #[] } :: a.defers } _:=⟨_,hexit e osb hin,this⟩
   cases e with
   |none=>exact wpIn_ret hq
   |some id=>exact wpIn_exit hq
end
mutual
theorem lX{ρ:Nat→Nat}(h:∀ n,ρ n=n):∀ x:I,x.aK ρ=x
 | .agg fs | .tuple fs=>by simp only[I.aK];rw[mP h fs]
 | .slice _ es=>by simp only[I.aK];rw[mP h es]
 | .ref x=>by simp only[I.aK];rw[lX h x]
 | .func _ caps=>by simp only[I.aK];rw[mP h caps]
 | .iface _ v=>by simp only[I.aK];rw[lX h v]
 | .ptr _ _ | .own _ _ | .view _ _ _ _ _ | .mref _ | .dv _=>by simp only[I.aK,h]
 | .cI ks vs=>by simp only[I.aK];rw[mP h ks,mP h vs]
 | .bool _ | .int _ _ | .cY _ | .nilp | .df | .dY | .raw _ | .nils _ | .c0 _ | .undef | .dp=>by simp only[I.aK]
theorem mP{ρ:Nat→Nat}(h:∀ n,ρ n=n):∀ xs:List I,I.cJ ρ xs=xs
 | []=>rfl
 |x::xs=>by simp only[I.cJ];rw[lX h x,mP h xs]
end
theorem ai.lX{ρ:Nat→Nat}(h:∀ n,ρ n=n):∀ x:ai,x.aK ρ=x
 | .box x=>by simp only[ai.aK,Abs.lX h]
 | .bX _ _ es=>by simp only[ai.aK,mP h]
 | .dQ _=>rfl
 | .cV _ _=>rfl
 | .cv _ _=>by simp only[ai.aK,mP h]
 | .it _ _ _ _=>by simp only[ai.aK,mP h]
theorem ub(os:List (Nat×ai)):dH [] os=os:=by
 simp only[dH];have:(fun q:Nat×ai=>(bx [] q.1,q.2.aK (bx [])))=id:=by
  funext q
  rw[ai.lX (ρ:=bx []) (fun n=>rfl)];rfl
 rw[this,List.map_id]
theorem km(a b:List (Nat×ai))(n:Nat):ak (a++b) n=match ak a n with
  |some x=>some x
  |none=>ak b n:=by
 induction a with
 |nil=>rfl
 |cons q a ih =>
  obtain ⟨k,v⟩:=q;simp only[zy0,ak];split
  ·rfl
  ·exact ih
theorem fp.none{os os':List (Nat×ai)}(h:fp os os'){n:Nat}(hn:n<1000000):ak os' n=none:=by
 cases hx:ak os' n with
 |none=>rfl
 |some x =>
  have h1:al os' n=true:=by simp[al,hx]
  rw[h.same] at h1;exact absurd (h.oj n h1) (by omega)
theorem aF.c8{ts ts':List (Nat×I)}{os os':List (Nat×ai)}(h1:aX ts ts')(h2:∀ n,ak os n=ak os' n):aF (au ts os) (au ts' os'):=by
 have e:au ts os=au ts os':=by
  simp only[au];congr 1;funext n;exact h2 n
 rw[e];rintro c a w ⟨D,E,hs⟩;refine ⟨D,E,hs.sz,hs.eU,fun t =>?_,hs.dZ,hs.da,hs.dq,hs.bT,hs.cU,hs.ed,hs.fb,hs.cO,hs.fg,hs.fJ⟩;rcases yX h1 t with h | h
 ·simp only[au];rw[h];simp[aV]
 ·have:=hs.eB t;simp only[au] at *;rw[h];exact this
theorem Ae{os osk os2 ow:List (Nat×ai)}{ts:List (Nat×I)}(h1:fp os osk)(h2:fp os os2)(how:∀ m,al ow m=true→m<1000000):au ts (dH [] os2++(ow++osk))=au ts (ow++os2):=by
 simp only[au,ub]
 congr 1
 funext n
 simp only[km];cases hw:ak ow n with
 |none =>
  simp only;cases h3:ak os2 n with
  |some x=>rfl
  |none =>
   simp only;cases h4:ak osk n with
   |none=>rfl
   |some x =>
    have h5:al osk n=true:=by simp[al,h4]
    rw[h1.same,←h2.same] at h5;simp[al,h3] at h5
 |some x =>
  simp only;rw[h2.none (how n (by simp[al,hw]))]
theorem fZ.ki{os osk ow:List (Nat×ai)}(h1:fp os osk)(how:∀ m,al ow m=true→m<1000000):fZ [] osk (ow++osk):=by
 refine ⟨fun m x hx =>?_,fun m m' _ _ h=>h⟩;have hm:al osk m=true:=by simp[al,hx]
 have hg:=h1.oj m (by rw[←h1.same];exact hm);obtain ⟨k1,k2⟩:=h1.ok m x hx;refine ⟨?_,k1,k2⟩;rw[ai.lX (ρ:=bx []) (fun n=>rfl)];simp only[bx,km];cases hw:ak ow m with
 |none=>exact hx
 |some y=>have:=how m (by simp[al,hw]);omega
theorem eK.ki{os osk os2 os0:List (Nat×ai)}{r:I}(h1:fp os osk)(h2:fp os os2)(hr:r.bn=true):eK false [] osk os0 r os2:=by
 refine ⟨fun m x hx=>⟨(h2.ok m x hx).1,(h2.ok m x hx).2,fun h=>by cases h⟩,fun m m' _ _ h=>h,fun m hm=>by rw[h2.same,←h1.same];exact hm,fun m h3 h4 =>?_,mJ _ r hr,fun h=>by cases h⟩;rw[h2.same,←h1.same,h4] at h3;cases h3
theorem bj.OA{P:Program}{Y:Value→List I→List (Nat×ai)→cT→Prop}{K:ae→Prop}{v:Value}{vs:List I}{dst:Option Nat}{rest:List az}{ts:List (Nat×I)}{os osk ow:List (Nat×ai)}{In Ix:List (Nat×ai)→Prop}
  (hY:Y v vs osk (fun r os2=>(r=.bool true∧In os2)∨(r=.bool false∧Ix os2))) (hk:fp os osk) (hi:∀ os',In os'→fp os os') (hx:∀ os',Ix os'→fp os os') (hcl:I.bW vs=true) (how:∀ m,al ow m=true→m<1000000)
  (h1:∀ os2,In os2→bj P Y false K (ay rest ((au ts (ow++os2)).aN dst (.bool true)))) (h2:∀ os2,Ix os2→bj P Y false K (ay rest ((au ts (ow++os2)).aN dst (.bool false)))) :
  bj P Y false K (.pt v vs dst rest (au ts (ow++osk))):=by
 refine .zb osk vs _ rfl hY (fZ.ki hk how) (uY vs hcl) ?_ ?_
 ·rintro r os' (⟨rfl,h⟩ | ⟨rfl,h⟩)
  ·exact eK.ki hk (hi _ h) rfl
  ·exact eK.ki hk (hx _ h) rfl
 ·rintro r os' (⟨rfl,h⟩ | ⟨rfl,h⟩)
  ·rw[Ae hk (hi _ h) how];exact h1 os' h
  ·rw[Ae hk (hx _ h) how];exact h2 os' h
theorem Cl(A:ae)(d:Option Nat)(args:List I)(rest:List az)(v:Value):sw A d args rest (.raw v)=.pt v args d rest A:=rfl
def mc(w:World):aM:=fun b _=>b<w.heap.size
structure jM (P:Program) (t:TypeId) (α:Type) [Enc α]:Prop where
 cells:P.cellsOf t=Enc.sz α
 Lh:0<Enc.sz α
 tN:∀ {H:Type} {enc0:TypeId×Value→H} {w:World} {fuel:Nat} {cs:List Value} {x:DataW H×List MemPlace},DataW.trod enc0 P w 0 (fun _=>true) true fuel t cs=some x→∃ a:α,ah w (mc w) dM (enc a) cs
theorem aiQ{P:Program}{t:TypeId}(ht:P.underlying t=some (.int .i64))(hc:P.cellsOf t=1):jM P t Int :=
 ⟨hc,by decide,fun h=>by
  obtain ⟨n,rfl,_,hw⟩:=DataW.trod_int ht h;refine ⟨n,?_⟩;rw[gT,ah];simp only[Lit.wf,zz2,decide_eq_true_eq] at hw;exact ⟨rfl,hw.1,hw.2⟩⟩
theorem Ct{α:Type}[Enc α]{w:World}{D:aM}(c:Nat):∀ (n:Nat) (cs:List Value),cs.length=n*c→(∀ i,i<n→∃ a:α,ah w D dM (enc a) ((cs.drop (i*c)).take c))→∃ l:List α,l.length=n∧aI w D dM (l.map enc) cs
 |0,cs,hl,_=>⟨[],rfl,by simp only[Nat.zero_mul,zv2] at hl;subst hl;simp[aI]⟩
 |n+1,cs,hl,h=>by
  obtain ⟨a,ha⟩:=h 0 (by omega);simp only[Nat.zero_mul,List.drop_zero] at ha;obtain ⟨l,h1,h2⟩:=Ct c n (cs.drop c) (by rw[zx0,hl,Nat.succ_mul];omega) (fun i hi=>by
   obtain ⟨b,hb⟩:=h (i+1) (by omega);refine ⟨b,?_⟩;rw[List.drop_drop]
   rwa [Nat.succ_mul,Nat.add_comm] at hb)
  refine ⟨a::l,by simp[h1],?_⟩;simp only[zz9,aI];exact ⟨cs.take c,cs.drop c,(zx2 c cs).symm,ha,h2⟩
theorem aks{H:Type}{enc0:TypeId×Value→H}{P:Program}{w:World}{base:Nat}{spare:Nat→Bool}{held:Bool}{fuel n:Nat}{t e:TypeId}{cs:List Value}{x:DataW H×List MemPlace}(ht:P.underlying t=some (.array n e))(h:DataW.trod enc0 P w base spare held fuel t cs=some x) :
  ∃ (xs:List (DataW H×List MemPlace)) (m:Nat),cs.length=P.cellsOf t∧xs.length=n∧∀ (i:Nat),i<n→DataW.trod enc0 P w base spare held m e ((cs.drop (i*P.cellsOf e)).take (P.cellsOf e))=xs[i]?:=by
 cases fuel with
 |zero=>simp[DataW.trod] at h
 |succ m =>
  unfold DataW.trod at h;rw[ht] at h;split at h <;>simp_all
  obtain ⟨hl,xs,hp,hd⟩:=h;exact ⟨xs,by simpa using mapM_some_length hp,m,fun i hi=>mapM_some_get hp i i (by simp[hi])⟩
theorem K2{P:Program}{t e:TypeId}{n:Nat}{α:Type}[Enc α](ht:P.underlying t=some (.array n e))(he:jM P e α)(hc:P.cellsOf t=n*Enc.sz α)(hn:0<n):jM P t (aR n α) :=
 ⟨hc,Nat.mul_pos hn he.Lh,fun {H enc0 w fuel cs x} h=>by
  obtain ⟨xs,m,hl,hx,hp⟩:=aks ht h;obtain ⟨l,h1,h2⟩:=Ct (α:=α) (w:=w) (D:=mc w) (Enc.sz α) n cs (by rw[hl,hc]) (fun i hi=>by
   have h3:=hp i hi;rw[he.cells,zz8 (by omega)] at h3;exact he.tN h3)
  refine ⟨⟨l,h1⟩,?_⟩
  show ah w (mc w) dM (.agg (l.map enc)) cs
  simp only[ah];exact h2⟩
theorem P5(a:Addr)(i j:Nat):(a.add i).add j=a.add (i+j):=by
 unfold Addr.add;by_cases hi:i=0 <;>by_cases hj:j=0 <;>simp[hi,hj,Nat.add_assoc]
theorem K3{P:Program}{t e:TypeId}{α:Type}[Enc α](ht:P.underlying t=some (.slice e))(he:jM P e α)(hc:P.cellsOf t=1):jM P t (List α) :=
 ⟨hc,by rw[vC];exact Nat.one_pos,fun {H enc0 w fuel cs x} h=>by
  rcases DataW.trod_slice ht h with ⟨rfl,_⟩ | ⟨a,len,cap,elems,rest,n,_,rfl,_,hb,hl,hm,hlen,hel,_⟩
  ·refine ⟨[],?_⟩;simp only[gn,zx1];rw[ah];exact ⟨none,0,rfl,zz7 _,by decide,.inl rfl,by simp⟩
  ·have key:∀ k,k≤len→∃ (l:List α) (cs':List Value),l.length=k∧aI w (mc w) dM (l.map enc) cs'∧cs'.length=k*Enc.sz α∧∀ j v,cs'[j]?=some v→w.cell? (a.add j)=some v:=by
    intro k
    induction k with
    |zero=>exact fun _=>⟨[],[],rfl,by simp[aI],by simp,by simp⟩
    |succ k ih =>
     intro hk;obtain ⟨l,cs',h1,h2,h3,h4⟩:=ih (by omega);have h5:=hel k (by omega);have h6:k<elems.length:=by omega
     rw[zz8 h6] at h5;obtain ⟨ce,h7,h8⟩:=Option.bind_eq_some_iff.1 h5;obtain ⟨y,hy⟩:=he.tN h8;rw[he.cells] at h7;obtain ⟨_,h9,h10⟩:=World.cells?_some h7;refine ⟨l++[y],cs'++ce,by simp[h1],?_,by rw[zz5,h3,h9,Nat.succ_mul],fun j v hj =>?_⟩
     ·rw[zx6];refine ky _ _ _ _ h2 ?_;simp only[zz9,zx1,aI];exact ⟨ce,[],by simp,hy,rfl⟩
     ·rcases Nat.lt_or_ge j cs'.length with hlt | hge
      ·rw[zy7 hlt] at hj;exact h4 j v hj
      ·rw[zx7 hge] at hj;have hlt:j-cs'.length<Enc.sz α:=by
        have:=(zy5.1 hj).1;omega
       have:=h10 (j-cs'.length) hlt;rw[P5,←h3,Nat.add_sub_cancel' hge] at this;rw[this];exact hj
   obtain ⟨l,cs',h1,h2,h3,h4⟩:=key len (zz7 _);refine ⟨l,?_⟩;simp only[gn,ah,zy2];refine ⟨some a,cap,by rw[h1],by omega,hm,?_,Qb l⟩;by_cases hz:len=0
   ·left;have:l=[]:=zv2.1 (by omega);rw[this];rfl
   right
   have hpos:0<cs'.length:=by rw[h3];exact Nat.mul_pos (Nat.pos_of_ne_zero hz) he.Lh
   have h0:=h4 0 cs'[0] (zz8 hpos);have hsp:a.spot=none:=by
    simp only[Addr.add,if_true] at h0;unfold World.cell? at h0;split at h0
    ·split at h0
     ·cases h0
     ·rename_i hs;cases hh:a.spot <;>simp_all
    ·cases h0
   have ha:∀ j,a.add j=⟨a.block,a.off+j,none⟩:=fun j=>by
    unfold Addr.add;split
    ·rename_i hj;subst hj;cases a;simp_all
    ·rfl
   refine ⟨a.block,a.off,cs',by cases a;simp_all,fun j v hj =>?_,h2⟩;have h5:=h4 j v hj;rw[ha] at h5;refine ⟨h5,?_⟩
   show (⟨a.block,a.off+j,none⟩:Addr).block<_
   exact World.block_lt_of_cell? w _ h5⟩
end Go.Abs
namespace Go.Abs
open Go Go.RowKit Go.ChangeShapes
open Enc (enc)
def akW(P:Program)(t:TypeId)(l:List (TypeId×Nat)):Bool:=match P.underlying t with
 |some (.struct fs)=>fs.toList.map (fun f=>(f.type,f.offset))==l
 |_=>false
def JE(P:Program)(t:TypeId)(n:Nat)(e:TypeId):Bool:=match P.underlying t with
 |some (.array n' e')=>n'==n&&e'==e
 |_=>false
theorem JF{P:Program}{t:TypeId}{n:Nat}{e:TypeId}(h:JE P t n e=true):P.underlying t=some (.array n e):=by
 unfold JE at h;split at h
 ·rename_i n' e' ht;simp only[zz2,beq_iff_eq] at h;rw[ht,h.1,h.2]
 ·cases h
section
variable {P:Program} {t:TypeId} {α β γ:Type} [Enc α] [Enc β] [Enc γ] {H:Type} {enc0:TypeId×Value→H} {w:World} {fuel:Nat} {cs:List Value} {x:DataW H×List MemPlace}
theorem aiP{base:Nat}{v:Value}{d:DataW H}{p:List MemPlace}(ho:jM P t α)(hA:Enc.gf α=true)(hst:(match P.underlying t with | some (.struct _) | some (.array _ _)=>true | _=>false)=true)(hv:Value.okWide P w .any base t v)
  (h:DataW.Trod enc0 P w 0 (fun _=>true) true t v d p):∃ (a:α) (cs:List Value),bD (enc a) v cs∧ah w (mc w) dM (enc a) cs:=by
 obtain ⟨fuel,h⟩:=h;have hagg:∃ cs,v=.agg cs:=by
  unfold Value.okWide at hv;split at hst
  ·rename_i fs ht;rw[ht] at hv;obtain ⟨cs,h1,_⟩:=hv;exact ⟨cs,h1⟩
  ·rename_i n e ht;rw[ht] at hv;obtain ⟨cs,h1,_⟩:=hv;exact ⟨cs,h1⟩
  ·cases hst
 obtain ⟨cs,rfl⟩:=hagg;have e:(Value.agg cs).cells.toList=cs.toList:=rfl;rw[e] at h;obtain ⟨a,ha⟩:=ho.tN h;exact ⟨a,cs.toList,by simp[bD,Enc.agg,hA],ha⟩
theorem tM{base:Nat}{v:Value}{d:DataW H}{p:List MemPlace}(ho:jM P t α)(hA:Enc.gf α=false)(hst:(match P.underlying t with | some (.slice _) | some (.int _) | some .bool=>true | _=>false)=true)(hv:Value.okWide P w .any base t v)
  (h:DataW.Trod enc0 P w 0 (fun _=>true) true t v d p):∃ (a:α) (cs:List Value),bD (enc a) v cs∧ah w (mc w) dM (enc a) cs:=by
 obtain ⟨fuel,h⟩:=h;have hone:v.cells.toList=[v]:=by
  unfold Value.okWide at hv;split at hst
  ·rename_i e ht;rw[ht] at hv;simp only[Cell.okWide,ht] at hv;cases v <;>simp_all[Cell.ok,Value.cells]
  ·rename_i e ht;rw[ht] at hv;simp only[Cell.okWide,ht] at hv;cases v <;>simp_all[Cell.ok,Value.cells]
  ·rename_i ht;rw[ht] at hv;simp only[Cell.okWide,ht] at hv;cases v <;>simp_all[Cell.ok,Value.cells]
  ·cases hst
 rw[hone] at h;obtain ⟨a,ha⟩:=ho.tN h;exact ⟨a,[v],by simp[bD,Enc.agg,hA],ha⟩
end
theorem ai3{H:Type}{enc0:TypeId×Value→H}{P:Program}{f:Func}{s:ChangeSpec}{apart kh handsOn again:Bool}{W W':World}{args:Array Value}{v:Value}{ds gs:List (DataW H)}{before pa pv:List MemPlace}
  (hW:DataW.Whole enc0 P f.params.toList s.vars apart W args.toList ds gs before)
  (hres:∀ (b:Nat) (sp:Nat→Bool) (hd:Bool),DataW.TrodAll enc0 P W' b sp hd f.resultTypes.toList (v.resultList f.resultTypes.size) (s.fn H (ds++gs)).results [])
  (hargs:∀ sp:Nat→Bool,(∀ p∈before,sp p.block=true)→DataW.TrodAll enc0 P W' 0 sp true f.params.toList args.toList (s.fn H (ds++gs)).args pa)
  (hvars:∀ sp:Nat→Bool,(∀ p∈before,sp p.block=true)→DataW.TrodVars enc0 P W' sp s.vars (s.fn H (ds++gs)).vars pv)
  (hps:before=pa++pv) (hb:Below W.heap.size W W')
  (hok:∀ (j:Nat) (t:TypeId) (r:Value),f.resultTypes[j]?=some t→(v.resultList f.resultTypes.size)[j]?=some r→Value.okWide P W' .any 0 t r) :
  s.post enc0 P f apart kh handsOn again W args v W':=by
 have hlt:∀ p∈before,p.block<W.heap.size:=fun p hp=>by simpa using hW.lt p hp
 have hold:∀ p∈before,(fun b=>decide (b<W.heap.size)) p.block=true:=fun p hp=>by simpa using hlt p hp
 refine ⟨ds,gs,before,[],pa,pv,hW,hres _ _ _,hargs _ hold,hvars _ hold,World.keptBut_mono (fun p hp=>⟨hp,?_⟩) (hb.frame (· ∈ before)),fun _ =>?_⟩
 ·rw[hps,zy1] at hp;exact Or.inr hp
 ·obtain ⟨_,_,_,_,_,hz,hn⟩:=hW;refine ⟨hok,_,_,([]++pa)++pv,⟨[]++pa,pv,trodAll_append (hargs _ (fun _ _=>rfl)) (hres _ _ _),hvars _ (fun _ _=>rfl),rfl,?_,?_⟩,?_⟩
  ·intro b off hp;have hp':MemPlace.cell b off∈before:=by rw[hps];simpa using hp
   rw[hb.frozen (p:=⟨b,off,none⟩) (hlt _ hp')];exact hz b off hp'
  ·intro ha;have:=hn ha;rw[hps] at this;simpa using this
  ·intro p hp _;rw[hps];simpa using hp
theorem JO{P:Program}{f:FuncId}{fn:Func}{s:ChangeSpec}{H:Type}{enc0:TypeId×Value→H}{W:World}{ds gs:List (DataW H)}{before:List MemPlace}{xs:List I}{tb:TypeId}{v0 v1 v2:Value}{t0 t1 t2:TypeId}{d0 d1 d2:DataW H}{p0 p1 p2:List MemPlace}{again handsOn kh:Bool}
  (hl:laidOutB P=true) (hpar:fn.params.toList=[t0,t1,t2]) (hds:ds=[d0,d1,d2]) (hgs:gs=[]) (hbef:before=p0++p1++p2)
  (hvars:s.vars=[]) (hfn:s.fn H [d0,d1,d2] = { results:=[.lit (.bool true)],args:=[d0,d1,d2] }) (hres:fn.resultTypes = #[tb]) (htb:P.underlying tb=some .bool)
  (hW:DataW.Whole enc0 P fn.params.toList s.vars false W #[v0,v1,v2].toList ds gs before)
  (h0:DataW.Trod enc0 P W 0 (fun _=>true) true t0 v0 d0 p0) (h1:DataW.Trod enc0 P W 0 (fun _=>true) true t1 v1 d1 p1) (h2:DataW.Trod enc0 P W 0 (fun _=>true) true t2 v2 d2 p2)
  (hr:∀ t∈[t0,t1,t2],P.readableRec t=true∧t<P.types.size)
  (hctr:aD P f xs (enc true)) (hv:aG W (mc W) dM xs [v0,v1,v2]) :
  Calls P f #[v0,v1,v2] W fun e W'=>∃ v,e=.returned v∧s.post enc0 P fn false kh handsOn again W #[v0,v1,v2] v W':=by
 subst hds hgs;refine (hctr.2 W (mc W) [v0,v1,v2] (fun _ _ h=>h) hv).mono fun e W' ⟨v,D',he,hrv,hb,_,_⟩=>⟨v,he,?_⟩
 have hvb:v=.bool true:=lZ hrv;subst hvb;have hlt:∀ x∈before,x.block<W.heap.size:=fun x hx=>by simpa using hW.lt x hx
 rw[hbef] at hlt;refine ai3 (pa:=p0++(p1++p2)) (pv:=[]) hW (fun _ _ _ =>?_) (fun sp hsp =>?_) (fun _ _ =>?_) (by rw[hbef];simp) hb ?_
 ·simp only[zx8,hfn,hres];exact trodAll_mk1 (shut_bool htb true)
 ·simp only[zx8,hfn,hpar];rw[hbef] at hsp;have bl:∀ {t:TypeId} {v:Value} {d:DataW H} {p:List MemPlace},t∈[t0,t1,t2]→DataW.Trod enc0 P W 0 (fun _=>true) true t v d p→(∀ x∈p,x∈p0++p1++p2)→DataW.Trod enc0 P W' 0 sp true t v d p:=fun ht h hp =>
   WideElems.Trod_stays hl (hr _ ht).1 (hr _ ht).2 h (fun x hx=>hb.same (hlt x (hp x hx))) (fun x hx=>hsp x (hp x hx))
  exact trodAll_mk3 (bl (by simp) h0 fun x hx=>by simp[hx]) (bl (by simp) h1 fun x hx=>by simp[hx]) (bl (by simp) h2 fun x hx=>by simp[hx])
 ·simp only[zx8,hfn,hvars];rfl
 ·intro j t r hj hv';rw[hres] at hj hv'
  match j,hj,hv' with
  |0,hj,hv' =>
   simp[Value.resultList] at hj hv';subst hj;subst hv';simp[Value.okWide,htb,Cell.okWide,Cell.ok]
theorem K1{P:Program}{t e:TypeId}{α:Type}[Enc α]{H:Type}{enc0:TypeId×Value→H}{w:World}{base:Nat}{v:Value}{d:DataW H}{p:List MemPlace}(ho:jM P t (List α))(hu:P.underlying t=some (.slice e))(hv:Value.okWide P w .any base t v)
  (h:DataW.Trod enc0 P w 0 (fun _=>true) true t v d p):∃ l:List α,(∃ cs:List Value,bD (enc l) v cs∧ah w (mc w) dM (enc l) cs)∧(l.length=0∨∃ elems spare,d=.slice elems spare∧elems.length=l.length):=by
 obtain ⟨l,cs,h1,h2⟩:=tM ho rfl (by rw[hu]) hv h;refine ⟨l,⟨cs,h1,h2⟩,?_⟩;have hcs:cs=[v]:=by simpa[bD,gn,I.isAgg] using h1
 subst hcs;simp only[gn,ah] at h2;obtain ⟨a,cap,h3,_⟩:=h2;simp only[List.cons.injEq,and_true,zy2] at h3;subst h3;obtain ⟨fuel,h⟩:=h;have hc:(Value.slice a l.length cap).cells.toList=[Value.slice a l.length cap]:=rfl;rw[hc] at h;rcases DataW.trod_slice hu h with ⟨h4,_⟩ | ⟨a',len,cap',elems,rest,n,_,h4,h5,_,_,_,hlen,_⟩
 ·simp only[List.cons.injEq,Value.slice.injEq,and_true] at h4;exact .inl h4.2.1
 ·simp only[List.cons.injEq,Value.slice.injEq,and_true] at h4;simp only[Prod.mk.injEq] at h5;exact .inr ⟨_,_,h5.1,by rw[zy2,hlen,h4.2.1]⟩
end Go.Abs
namespace Go.Abs.C
open Go Go.Abs
abbrev o(a:Nat)(x:b9):az:=⟨some a,x,none⟩
abbrev bQ(a:Nat)(x:b9)(k:Nat):az:=⟨some a,x,some (k,true)⟩
abbrev on(a:Nat)(x:b9)(k:Nat):az:=⟨some a,x,some (k,false)⟩
abbrev p(x:b9):az:=⟨none,x,none⟩
abbrev aj(n:Int):aJ:=.c (.int .i64 n)
abbrev T:aJ:=.c (.bool true)
abbrev bh:aJ:=.c (.bool false)
abbrev m(a b:Nat):az:=⟨some a,.mv (.t b),none⟩
abbrev dj(a b k:Nat):az:=⟨some a,.mv (.t b),some (k,true)⟩
abbrev fo(a b k:Nat):az:=⟨some a,.mv (.t b),some (k,false)⟩
abbrev bg(a:Nat)(n:Int):az:=⟨some a,.mv (.c (.int .i64 n)),none⟩
abbrev l(a b:Nat):az:=⟨some a,.ld none (.t b),none⟩
abbrev ee(a b k:Nat):az:=⟨some a,.ld none (.t b),some (k,true)⟩
abbrev jz(a b k:Nat):az:=⟨some a,.ld none (.t b),some (k,false)⟩
abbrev aC(a s b:Nat):az:=⟨some a,.ld (some s) (.t b),none⟩
abbrev f(a b c d:Nat):az:=⟨some a,.fa b c (.t d),none⟩
abbrev dx(a b c d k:Nat):az:=⟨some a,.fa b c (.t d),some (k,true)⟩
abbrev fn(a b c d k:Nat):az:=⟨some a,.fa b c (.t d),some (k,false)⟩
abbrev ad(a b:Nat)(n:Int):az:=⟨some a,.bin .add (.t b) (.c (.int .i64 n)),none⟩
abbrev lt(a b c:Nat):az:=⟨some a,.bin .lss (.t b) (.t c),none⟩
abbrev and(a b c:Nat):az:=⟨some a,.pick (.t b) (.t c) (.c (.bool false)),none⟩
abbrev or(a b c:Nat):az:=⟨some a,.pick (.t b) (.c (.bool true)) (.t c),none⟩
abbrev no(a b:Nat):az:=⟨some a,.un .not (.t b),none⟩
abbrev b(a c:Nat):az:=⟨some a,.box (.t c),none⟩
abbrev s(x y:aP):aP:=.seq x y
abbrev r(g:List az):aP:=.cg none g
abbrev bE(P:Program)(f:Func)(c:aP):Prop:=f.body.bind (fk P f.ntmps)=some c
abbrev bF(P:Program)(f:Func)(r:List a6):Prop:=iT P f.results.toList=some r
abbrev bC(P:Program)(n:FuncId):Prop:=gR P n=true
theorem e{α:Type}{a b:α}(h:a=b):a=b:=h
end Go.Abs.C
namespace Go.Proofs.YtcldiigclhgafaaGreat
open Go Go.Abs Go.Abs.C
def adb:=[b 5 2,o 6 (.mv bh)]
def ade:=[m 21 0,o 22 (.call 24 [.t 21]),m 23 1,m 24 0,o 25 (.call 23 [.t 22,.t 23,.t 24]),m 7 25]
def adp:=[o 26 (.ia 2 1 (.t 5) (aj 0)),l 27 26,o 28 (.call 25 [.t 27,(aj 32)]),m 8 28]
def ady:=[o 29 (.ia 2 1 (.t 5) (aj 1)),l 30 29,o 31 (.call 25 [.t 30,(aj 45)]),m 9 31]
def adz:=[m 33 7,m 34 8,m 35 9,o 36 (.call 26 [.t 33,.t 34,.t 35]),m 32 36,o 37 (.ext (.t 32) 0),o 38 (.ext (.t 32) 1),m 10 37,m 11 38]
def adA:=[m 39 11,o 40 (.bin .neq (.t 39) (aj 0))]
def adB:=[o 6 (.mv bh)]
def adC:=[bg 12 0]
def adD:=[bg 13 0]
def adE:=[m 41 13,m 42 10,o 43 (.len (.t 42)),lt 44 41 43]
def adf:=[m 48 7,m 49 10,m 50 13,o 51 (.is 1 (.t 49) (.t 50)),l 52 51,m 53 8,m 54 9,o 55 (.call 27 [.t 48,.t 52,.t 53,.t 54]),m 47 55,o 56 (.ext (.t 47) 0),o 57 (.ext (.t 47) 1),m 14 56,m 15 57]
def adg:=[m 58 15,o 59 (.bin .neq (.t 58) (aj 0))]
def adh:=[o 6 (.mv bh)]
def adi:=[m 60 14,o 61 (.bin .neq (.t 60) (aj 0))]
def adj:=[m 62 12,ad 63 62 1,m 12 63]
def adk:=[m 45 13,ad 46 45 1,m 13 46]
def adl:=[bg 16 0]
def adm:=[bg 17 1]
def adn:=[m 64 17,o 65 (.bin .leq (.t 64) (aj 12))]
def ado:=[bg 18 1]
def adq:=[m 68 18,o 69 (.bin .leq (.t 68) (aj 2))]
def adr:=[m 73 7,m 74 17,m 75 18,m 76 8,m 77 9,o 78 (.call 28 [.t 73,.t 74,.t 75,.t 76,.t 77]),m 72 78,o 79 (.ext (.t 72) 0),o 80 (.ext (.t 72) 1),m 19 79,m 20 80]
def ads:=[m 81 20,o 82 (.bin .neq (.t 81) (aj 0))]
def adt:=[o 6 (.mv bh)]
def adu:=[m 83 16,m 84 19,o 85 (.bin .add (.t 83) (.t 84)),m 16 85]
def adv:=[m 70 18,ad 71 70 1,m 18 71]
def adw:=[m 66 17,ad 67 66 1,m 17 67]
def adx:=[m 86 16,m 87 12,o 88 (.bin .eql (.t 86) (.t 87)),m 89 88,bQ 90 (.call 22 []) 89,and 91 89 90,m 6 91]
def iR:aP:=(s (r adb) (s (r ade) (s (r adp) (s (r ady) (s (r adz) (s (s (r adA) (.cond (.t 40) (s (r adB) .ret) .skip)) (s (r adC) (s (s (r adD) (.block 0 (.loop (s (s (r adE) (.cond (.t 44) .skip (.exit 0))) (s (.block 1 (s (r adf) (s (s (r adg) (.cond (.t 59) (s (r adh) .ret) .skip)) (s (r adi) (.cond (.t 61) (r adj) .skip))))) (r adk)))))) (s (r adl) (s (s (r adm) (.block 2 (.loop (s (s (r adn) (.cond (.t 65) .skip (.exit 2))) (s (.block 3 (s (r ado) (.block 4 (.loop (s (s (r adq) (.cond (.t 69) .skip (.exit 4))) (s (.block 5 (s (r adr) (s (s (r ads) (.cond (.t 82) (s (r adt) .ret) .skip)) (r adu)))) (r adv))))))) (r adw)))))) (s (r adx) .ret)))))))))))
def MH:List a6:=[.tmp 6]
theorem Uh:bE Tryz.prog Tryz.f4 iR:=e (by kernel_rfl)
theorem Wl:bF Tryz.prog Tryz.f4 MH:=e (by kernel_rfl)
theorem Sp:bC Tryz.prog 4:=e (by kernel_rfl)
def aej:=[o 6 (.mv bh)]
def aek:=[m 19 0,o 20 (.call 24 [.t 19]),m 21 1,m 22 0,o 23 (.call 23 [.t 20,.t 21,.t 22]),m 7 23]
def aev:=[m 24 2,o 25 (.call 25 [.t 24,(aj 45)]),m 2 25]
def aeC:=[bg 8 1]
def aeD:=[m 26 8,o 27 (.bin .leq (.t 26) (aj 6))]
def aeE:=[m 31 7,m 32 8,m 33 2,o 34 (.call 32 [.t 31,.t 32,.t 33]),m 30 34,o 35 (.ext (.t 30) 0),o 36 (.ext (.t 30) 1),m 9 35,m 10 36]
def aeF:=[m 38 7,m 39 8,m 40 2,o 41 (.call 39 [.t 38,.t 39,.t 40]),m 37 41,o 42 (.ext (.t 37) 0),o 43 (.ext (.t 37) 1),o 11 (.alloc (.agg [.int .i64 0,.int .i64 0,.int .i64 0,.int .i64 0,.int .i64 0,.int .i64 0,.int .i64 0,.bool false,.nils 6])),p (.bl (some 9) (.t 11) (.t 42)),m 12 43]
def aeG:=[m 44 10,m 45 12,o 46 (.bin .neq (.t 44) (.t 45)),m 47 46,fo 48 10 47,on 49 (.bin .neq (.t 48) (aj 0)) 47,fo 50 49 47,dj 51 10 50,bQ 52 (.bin .neq (.t 51) (aj 42)) 50,on 53 (.pick (.t 50) (.t 52) bh) 47,or 54 47 53]
def aeH:=[o 6 (.mv bh)]
def aeI:=[m 55 10,o 56 (.bin .neq (.t 55) (aj 0))]
def ael:=[m 57 9,m 58 8,o 59 (.call 36 [.t 57,.t 58]),no 60 59,m 61 60,fn 62 2 2 11 61,jz 63 62 61,on 64 (.bin .neq (.t 63) (aj 0)) 61,fo 65 64 61,dj 66 9 65,dx 67 2 2 11 65,ee 68 67 65,bQ 69 (.call 36 [.t 66,.t 68]) 65,on 70 (.pick (.t 65) (.t 69) bh) 61,or 71 61 70]
def aem:=[o 6 (.mv bh)]
def aen:=[bg 13 0]
def aeo:=[m 72 13,m 73 9,o 74 (.len (.t 73)),lt 75 72 74]
def aep:=[m 79 7,m 80 9,m 81 13,o 82 (.is 1 (.t 80) (.t 81)),l 83 82,m 84 2,o 85 (.call 39 [.t 79,.t 83,.t 84]),m 78 85,o 86 (.ext (.t 78) 0),o 87 (.ext (.t 78) 1),o 14 (.alloc (.agg [.int .i64 0,.int .i64 0,.int .i64 0,.int .i64 0,.int .i64 0,.int .i64 0,.int .i64 0,.bool false,.nils 6])),p (.bl (some 9) (.t 14) (.t 86)),m 15 87]
def aeq:=[m 89 7,m 90 9,m 91 13,o 92 (.is 1 (.t 90) (.t 91)),l 93 92,m 94 2,o 95 (.call 32 [.t 89,.t 93,.t 94]),m 88 95,o 96 (.ext (.t 88) 0),o 97 (.ext (.t 88) 1),m 16 96,m 17 97]
def aer:=[m 98 15,o 99 (.bin .neq (.t 98) (aj 0)),m 100 99,fo 101 17 100,on 102 (.bin .neq (.t 101) (aj 0)) 100,or 103 100 102,m 104 103,fn 105 1 1 14 104,jz 106 105 104,fn 107 1 1 11 104,jz 108 107 104,on 109 (.bin .neq (.t 106) (.t 108)) 104,or 110 104 109,m 111 110,fn 112 0 0 14 111,jz 113 112 111,fo 114 8 111,on 115 (.bin .neq (.t 113) (.t 114)) 111,fo 116 115 111,dx 117 5 5 14 116,ee 118 117 116,dx 119 5 5 11 116,ee 120 119 116,bQ 121 (.bin .lss (.t 118) (.t 120)) 116,dj 122 121 116,fn 123 2 2 14 122,jz 124 123 122,fo 125 8 122,on 126 (.bin .eql (.t 124) (.t 125)) 122,fo 127 126 122,dx 128 6 6 11 127,ee 129 128 127,bQ 130 (.bin .geq (.t 129) (aj 0)) 127,on 131 (.pick (.t 127) (.t 130) bh) 122,fo 132 131 122,dx 133 6 6 11 132,ee 134 133 132,dx 135 5 5 14 132,ee 136 135 132,bQ 137 (.bin .lss (.t 134) (.t 136)) 132,on 138 (.pick (.t 132) (.t 137) bh) 122,bQ 139 (.pick (.t 122) T (.t 138)) 116,on 140 (.pick (.t 116) (.t 139) bh) 111,or 141 111 140]
def aes:=[o 6 (.mv bh)]
def aet:=[bg 18 0]
def aeu:=[m 142 18,m 143 16,o 144 (.len (.t 143)),lt 145 142 144]
def aew:=[m 148 9,m 149 16,m 150 18,o 151 (.is 1 (.t 149) (.t 150)),l 152 151,o 153 (.call 36 [.t 148,.t 152]),no 154 153]
def aex:=[o 6 (.mv bh)]
def aey:=[m 146 18,ad 147 146 1,m 18 147]
def aez:=[m 76 13,ad 77 76 1,m 13 77]
def aeA:=[m 28 8,ad 29 28 1,m 8 29]
def aeB:=[o 155 (.call 22 []),m 6 155]
def BQ:aP:=(s (r aej) (s (r aek) (s (r aev) (s (s (r aeC) (.block 0 (.loop (s (s (r aeD) (.cond (.t 27) .skip (.exit 0))) (s (.block 1 (s (r aeE) (s (r aeF) (s (s (r aeG) (.cond (.t 54) (s (r aeH) .ret) .skip)) (s (s (r aeI) (.cond (.t 56) (.exit 1) .skip)) (s (s (r ael) (.cond (.t 71) (s (r aem) .ret) .skip)) (s (r aen) (.block 2 (.loop (s (s (r aeo) (.cond (.t 75) .skip (.exit 2))) (s (.block 3 (s (r aep) (s (r aeq) (s (s (r aer) (.cond (.t 141) (s (r aes) .ret) .skip)) (s (r aet) (.block 4 (.loop (s (s (r aeu) (.cond (.t 145) .skip (.exit 4))) (s (.block 5 (s (r aew) (.cond (.t 154) (s (r aex) .ret) .skip))) (r aey)))))))))) (r aez)))))))))))) (r aeA)))))) (s (r aeB) .ret)))))
def MO:List a6:=[.tmp 6]
theorem Un:bE Tryz.prog Tryz.f7 BQ:=e (by kernel_rfl)
theorem Wr:bF Tryz.prog Tryz.f7 MO:=e (by kernel_rfl)
theorem Sv:bC Tryz.prog 7:=e (by kernel_rfl)
def ZO:=[b 4 0,o 8 (.mv (.c (.nils 1))),bg 9 0]
def ZP:=[aC 13 7 4,o 14 (.call 66 [.t 13]),m 10 14]
def ZR:=[m 15 10,o 16 (.bin .neq (.t 15) (aj 0))]
def ZS:=[m 17 10,o 8 (.mv (.c (.nils 1))),m 9 17]
def ZT:=[m 18 1,m 19 2,o 20 (.bld [.int .i64 0,.int .i64 0] [(0,(.t 19)),(1,(aj 9999))]),o 21 (.bs 28 2 [.t 20]),m 22 3,o 23 (.bs 3 1 [.t 22]),o 24 (.call 67 [.t 18,.t 21,.t 23]),m 11 24]
def ZU:=[m 25 11,o 26 (.bin .neq (.t 25) (aj 0))]
def ZV:=[m 27 11,o 8 (.mv (.c (.nils 1))),m 9 27]
def ZW:=[m 28 1,m 29 3,o 30 (.call 68 [.t 28,.t 29]),o 31 (.nilC (.t 30)),f 32 0 0 31,l 33 32,m 34 2,o 35 (.lk (.i .i64) (.nilp) false (.t 33) (.t 34)),m 12 35]
def ZX:=[m 36 12,o 37 (.ptrE false (.t 36) (.c (.nilp)))]
def ZY:=[o 8 (.mv (.c (.nils 1))),bg 9 42]
def ZQ:=[aC 38 7 4,m 39 12,o 40 (.call 69 [.t 38,.t 39]),m 8 40,bg 9 0]
def AN:aP:=(s (r ZO) (s (s (r ZP) (s (r ZR) (.cond (.t 16) (s (r ZS) .ret) .skip))) (s (s (r ZT) (s (r ZU) (.cond (.t 26) (s (r ZV) .ret) .skip))) (s (r ZW) (s (s (r ZX) (.cond (.t 37) (s (r ZY) .ret) .skip)) (s (r ZQ) .ret))))))
def LL:List a6:=[.tmp 8,.tmp 9]
theorem Tj:bE Tryz.prog Tryz.f14 AN:=e (by kernel_rfl)
theorem Vq:bF Tryz.prog Tryz.f14 LL:=e (by kernel_rfl)
theorem Rv:bC Tryz.prog 14:=e (by kernel_rfl)
def Z3:=[b 3 0,o 6 (.mv (.c (.nils 1))),bg 7 0]
def Z4:=[aC 10 7 3,o 11 (.call 66 [.t 10]),m 8 11]
def Z5:=[m 12 8,o 13 (.bin .neq (.t 12) (aj 0))]
def Z6:=[m 14 8,o 6 (.mv (.c (.nils 1))),m 7 14]
def Z7:=[m 15 1,m 16 2,o 17 (.bs 3 1 [.t 16]),o 18 (.call 67 [.t 15,(.c (.nils 2)),.t 17]),m 9 18]
def Z8:=[m 19 9,o 20 (.bin .neq (.t 19) (aj 0))]
def Z9:=[m 21 9,o 6 (.mv (.c (.nils 1))),m 7 21]
def aaa:=[m 22 1,m 23 2,o 24 (.call 68 [.t 22,.t 23]),o 25 (.mk 73 [.t 3]),o 26 (.call 72 [.t 24,.t 25]),m 6 26,bg 7 0]
def AY:aP:=(s (r Z3) (s (s (r Z4) (s (r Z5) (.cond (.t 13) (s (r Z6) .ret) .skip))) (s (s (r Z7) (s (r Z8) (.cond (.t 20) (s (r Z9) .ret) .skip))) (s (r aaa) .ret))))
def LX:List a6:=[.tmp 6,.tmp 7]
theorem Tv:bE Tryz.prog Tryz.f16 AY:=e (by kernel_rfl)
theorem VB:bF Tryz.prog Tryz.f16 LX:=e (by kernel_rfl)
theorem RF:bC Tryz.prog 16:=e (by kernel_rfl)
def aaT:=[b 4 0,o 8 (.mv (.c (.nils 2))),bg 9 0]
def aaU:=[aC 17 7 4,m 18 1,m 19 2,m 20 3,o 21 (.call 14 [.t 17,.t 18,.t 19,.t 20]),m 16 21,o 22 (.ext (.t 16) 0),o 23 (.ext (.t 16) 1),m 10 22,m 11 23]
def aaY:=[m 24 11,o 25 (.bin .neq (.t 24) (aj 0))]
def aaZ:=[m 26 11,o 8 (.mv (.c (.nils 2))),m 9 26]
def aa0:=[m 27 1,m 28 3,o 29 (.call 68 [.t 27,.t 28]),o 30 (.nilC (.t 29)),f 31 0 0 30,l 32 31,m 33 2,o 34 (.lk (.i .i64) (.nilp) false (.t 32) (.t 33)),m 12 34]
def aa1:=[o 13 (.mv (.c (.nils 2)))]
def aa2:=[m 35 1,o 36 (.len (.t 35)),bg 37 0]
def aa3:=[lt 38 37 36]
def aa4:=[m 39 37,o 40 (.is 17 (.t 35) (.t 37)),aC 41 17 40,o 15 (.alloc (.agg [.agg [.int .i64 0,.int .i64 0],.int .i64 0,.int .i64 0,.int .i64 0,.int .i64 0,.int .i64 0,.int .i64 0,.int .i64 0,.agg [.int .i64 0,.int .i64 0,.int .i64 0,.int .i64 0,.int .i64 0,.int .i64 0],.agg [.int .i64 0,.int .i64 0]])),m 14 39,p (.bl (some 17) (.t 15) (.t 41))]
def aa5:=[aC 42 7 4,m 43 12,m 44 1,m 45 14,o 46 (.call 78 [.t 44,.t 45]),m 47 3,o 48 (.call 68 [.t 46,.t 47]),o 49 (.nilC (.t 48)),f 50 0 0 49,l 51 50,m 52 2,o 53 (.lk (.i .i64) (.nilp) false (.t 51) (.t 52)),o 54 (.call 77 [.t 42,.t 43,.t 53]),no 55 54]
def Xd:=some [[],[],[],[],[2,3],[],[4,5,4],[6],[7],[8],[],[9,10],[0,1,11,6],[12]]
def aaV:=[m 56 13,f 57 0 0 15,aC 58 2 57,o 59 (.bs 65 2 [.t 58]),o 60 (.dN 65 2 16 (.agg [.int .i64 0,.int .i64 0]) (.t 56) (.t 59)),m 13 60]
def aaW:=[ad 61 37 1,m 37 61]
def aaX:=[m 62 13,m 8 62,bg 9 0]
def Bi:aP:=(s (r aaT) (s (s (r aaU) (s (r aaY) (.cond (.t 25) (s (r aaZ) .ret) .skip))) (s (r aa0) (s (r aa1) (s (s (r aa2) (.block 0 (.loop (s (r aa3) (s (.cond (.t 38) .skip (.exit 0)) (s (.block 1 (s (r aa4) (s (.cg Xd aa5) (.cond (.t 55) (r aaV) .skip)))) (r aaW))))))) (s (r aaX) .ret))))))
def Mf:List a6:=[.tmp 8,.tmp 9]
theorem TN:bE Tryz.prog Tryz.f18 Bi:=e (by kernel_rfl)
theorem VT:bF Tryz.prog Tryz.f18 Mf:=e (by kernel_rfl)
theorem RW:bC Tryz.prog 18:=e (by kernel_rfl)
def G8:=[o 4 (.mv bh)]
def G9:=[m 6 0,o 7 (.len (.t 6)),m 8 1,o 9 (.len (.t 8)),o 10 (.bin .neq (.t 7) (.t 9))]
def Ha:=[o 4 (.mv bh)]
def Hb:=[bg 5 0]
def Hc:=[m 11 5,m 12 0,o 13 (.len (.t 12)),lt 14 11 13]
def Hd:=[m 17 0,m 18 5,o 19 (.is 1 (.t 17) (.t 18)),l 20 19,m 21 1,m 22 5,o 23 (.is 1 (.t 21) (.t 22)),l 24 23,o 25 (.bin .neq (.t 20) (.t 24))]
def Xn:=some [[],[],[0,1],[2],[],[],[4,5],[6],[3,7]]
def He:=[o 4 (.mv bh)]
def Hf:=[m 15 5,ad 16 15 1,m 5 16]
def Hg:=[o 4 (.mv T)]
def Bq:aP:=(s (r G8) (s (s (r G9) (.cond (.t 10) (s (r Ha) .ret) .skip)) (s (s (r Hb) (.block 0 (.loop (s (s (r Hc) (.cond (.t 14) .skip (.exit 0))) (s (.block 1 (s (.cg Xn Hd) (.cond (.t 25) (s (r He) .ret) .skip))) (r Hf)))))) (s (r Hg) .ret))))
def Mn:List a6:=[.tmp 4]
theorem TV:bE Tryz.prog Tryz.f20 Bq:=e (by kernel_rfl)
theorem V1:bF Tryz.prog Tryz.f20 Mn:=e (by kernel_rfl)
theorem R4:bC Tryz.prog 20:=e (by kernel_rfl)
def abH:=[o 4 (.mv bh)]
def abI:=[m 6 0,o 7 (.len (.t 6)),m 8 1,o 9 (.len (.t 8)),o 10 (.bin .neq (.t 7) (.t 9))]
def abJ:=[o 4 (.mv bh)]
def abK:=[bg 5 0]
def abL:=[m 11 5,m 12 0,o 13 (.len (.t 12)),lt 14 11 13]
def abM:=[m 17 0,m 18 5,o 19 (.is 2 (.t 17) (.t 18)),aC 20 2 19,m 21 1,m 22 5,o 23 (.is 2 (.t 21) (.t 22)),aC 24 2 23,o 25 (.eqv (.bl [(.i .i64),(.i .i64)]) true (.t 20) (.t 24))]
def Xq:=some [[],[],[0,1],[2],[],[],[4,5],[6],[3,7]]
def abN:=[o 4 (.mv bh)]
def abO:=[m 15 5,ad 16 15 1,m 5 16]
def abP:=[o 4 (.mv T)]
def Bu:aP:=(s (r abH) (s (s (r abI) (.cond (.t 10) (s (r abJ) .ret) .skip)) (s (s (r abK) (.block 0 (.loop (s (s (r abL) (.cond (.t 14) .skip (.exit 0))) (s (.block 1 (s (.cg Xq abM) (.cond (.t 25) (s (r abN) .ret) .skip))) (r abO)))))) (s (r abP) .ret))))
def Mq:List a6:=[.tmp 4]
theorem TY:bE Tryz.prog Tryz.f21 Bu:=e (by kernel_rfl)
theorem V4:bF Tryz.prog Tryz.f21 Mq:=e (by kernel_rfl)
theorem R7:bC Tryz.prog 21:=e (by kernel_rfl)
def abQ:=[o 0 (.mv bh)]
def abR:=[o 18 (.call 81 []),m 1 18]
def abU:=[o 19 (.call 82 []),o 2 (.alloc (.agg [.agg [.int .i64 0,.int .i64 0,.int .i64 0,.int .i64 0,.int .i64 0],.int .i64 0,.nils 7])),p (.bl (some 7) (.t 2) (.t 19))]
def abV:=[m 21 1,o 22 (.call 27 [.t 21,(aj 10),(aj 6),(aj 7)]),m 20 22,o 23 (.ext (.t 20) 0),o 24 (.ext (.t 20) 1),m 3 23,m 4 24]
def abW:=[aC 26 7 2,m 27 1,o 28 (.call 14 [.t 26,.t 27,(aj 20),(aj 9)]),m 25 28,o 29 (.ext (.t 25) 0),o 30 (.ext (.t 25) 1),m 5 29,m 6 30]
def abX:=[aC 32 7 2,m 33 1,o 34 (.call 14 [.t 32,.t 33,(aj 20),(aj 14)]),m 31 34,o 35 (.ext (.t 31) 0),o 36 (.ext (.t 31) 1),m 7 35,m 8 36]
def abY:=[aC 38 7 2,m 39 1,o 40 (.call 16 [.t 38,.t 39,(aj 11)]),m 37 40,o 41 (.ext (.t 37) 0),o 42 (.ext (.t 37) 1),m 9 41,m 10 42]
def abZ:=[m 44 1,o 45 (.call 28 [.t 44,(aj 2),(aj 3),(aj 7),(aj 7)]),m 43 45,o 46 (.ext (.t 43) 0),o 47 (.ext (.t 43) 1),m 11 46,m 12 47]
def ab0:=[m 49 1,o 50 (.call 26 [.t 49,(aj 12),(aj 12)]),m 48 50,o 51 (.ext (.t 48) 0),o 52 (.ext (.t 48) 1),m 13 51,m 14 52]
def ab1:=[aC 54 7 2,m 55 1,o 56 (.call 18 [.t 54,.t 55,(aj 20),(aj 9)]),m 53 56,o 57 (.ext (.t 53) 0),o 58 (.ext (.t 53) 1),m 15 57,m 16 58]
def abS:=[m 59 4,o 60 (.bin .eql (.t 59) (aj 0)),m 61 60,dj 62 6 61,bQ 63 (.bin .eql (.t 62) (aj 0)) 61,and 64 61 63,m 65 64,dj 66 8 65,bQ 67 (.bin .eql (.t 66) (aj 0)) 65,and 68 65 67,m 69 68,dj 70 10 69,bQ 71 (.bin .eql (.t 70) (aj 0)) 69,and 72 69 71,m 73 72,dj 74 12 73,bQ 75 (.bin .eql (.t 74) (aj 0)) 73,and 76 73 75,m 77 76,dj 78 14 77,bQ 79 (.bin .eql (.t 78) (aj 0)) 77,and 80 77 79,m 81 80,dj 82 16 81,bQ 83 (.bin .eql (.t 82) (aj 0)) 81,and 84 81 83,m 17 84]
def abT:=[m 85 17,m 86 85,dj 87 3 86,bQ 88 (.bin .eql (.t 87) (aj 2)) 86,and 89 86 88,m 90 89,dj 91 5 90,bQ 92 (.bs 3 1 [(aj 3)]) 90,bQ 93 (.call 20 [.t 91,.t 92]) 90,and 94 90 93,m 95 94,dj 96 7 95,bQ 97 (.bs 3 1 [(aj 1),(aj 2),(aj 3)]) 95,bQ 98 (.call 20 [.t 96,.t 97]) 95,and 99 95 98,m 100 99,dj 101 9 100,bQ 102 (.bs 3 1 [(aj 11)]) 100,bQ 103 (.call 20 [.t 101,.t 102]) 100,and 104 100 103,m 105 104,dj 106 11 105,bQ 107 (.bin .eql (.t 106) (aj 1)) 105,and 108 105 107,m 109 108,dj 110 13 109,bQ 111 (.bs 3 1 [(aj 11),(aj 20)]) 109,bQ 112 (.call 20 [.t 110,.t 111]) 109,and 113 109 112,m 114 113,dj 115 15 114,bQ 116 (.bld [.int .i64 0,.int .i64 0] [(1,(aj 2))]) 114,bQ 117 (.bld [.int .i64 0,.int .i64 0] [(1,(aj 5))]) 114,bQ 118 (.bs 65 2 [.t 116,.t 117]) 114,bQ 119 (.call 21 [.t 115,.t 118]) 114,and 120 114 119,m 0 120]
def Bz:aP:=(s (r abQ) (s (r abR) (s (r abU) (s (r abV) (s (r abW) (s (r abX) (s (r abY) (s (r abZ) (s (r ab0) (s (r ab1) (s (r abS) (s (r abT) .ret))))))))))))
def Mv:List a6:=[.tmp 0]
theorem T5:bE Tryz.prog Tryz.f22 Bz:=e (by kernel_rfl)
theorem V9:bF Tryz.prog Tryz.f22 Mv:=e (by kernel_rfl)
theorem Sc:bC Tryz.prog 22:=e (by kernel_rfl)
def ab2:=[b 3 0,o 6 (.mv (.c (.nils 17)))]
def ab3:=[o 7 (.alloc (.agg [.int .i64 0,.int .i64 0,.int .i64 0]))]
def acf:=[o 8 (.mv (.c (.nils 17)))]
def acm:=[bg 9 0]
def acn:=[m 13 9,o 14 (.bin .lss (.t 13) (aj 3))]
def aco:=[bg 10 0]
def acp:=[m 17 10,m 18 1,o 19 (.len (.t 18)),lt 20 17 19,m 21 20,dj 22 10 21,bQ 23 (.bin .lss (.t 22) (aj 20)) 21,and 24 21 23]
def acq:=[m 27 1,m 28 10,o 29 (.is 9 (.t 27) (.t 28)),aC 30 9 29,o 11 (.alloc (.agg [.int .i64 0,.int .i64 0,.int .i64 0,.int .i64 0,.int .i64 0,.int .i64 0,.int .i64 0,.int .i64 0,.int .i64 0])),p (.bl (some 9) (.t 11) (.t 30))]
def acr:=[o 31 (.ia 9 1 (.t 11) (aj 0)),l 32 31,o 33 (.call 25 [.t 32,(aj 3)]),m 34 9,o 35 (.bin .neq (.t 33) (.t 34))]
def acs:=[m 36 9,m 37 9,o 38 (.ia 3 1 (.t 7) (.t 37)),l 39 38,o 40 (.bld [.int .i64 0,.int .i64 0] [(0,(.t 36)),(1,(.t 39))]),o 41 (.ia 9 1 (.t 11) (aj 1)),l 42 41,o 43 (.call 25 [.t 42,(aj 7)]),o 44 (.ia 9 1 (.t 11) (aj 2)),l 45 44,o 46 (.call 25 [.t 45,(aj 30)]),o 47 (.ia 9 1 (.t 11) (aj 3)),l 48 47,o 49 (.call 25 [.t 48,(aj 40)]),o 50 (.ia 9 1 (.t 11) (aj 4)),l 51 50,o 52 (.call 25 [.t 51,(aj 6)]),o 53 (.bin .add (aj 1) (.t 52)),o 54 (.ia 9 1 (.t 11) (aj 5)),l 55 54,o 56 (.call 25 [.t 55,(aj 2)]),o 57 (.bin .add (aj 1) (.t 56)),o 58 (.ia 9 1 (.t 11) (aj 6)),l 59 58,o 60 (.call 25 [.t 59,(aj 12)]),o 61 (.bin .add (aj 1) (.t 60)),o 62 (.ia 9 1 (.t 11) (aj 7)),l 63 62,o 64 (.call 25 [.t 63,(aj 7)]),o 65 (.bld [.agg [.int .i64 0,.int .i64 0],.int .i64 0,.int .i64 0,.int .i64 0,.int .i64 0,.int .i64 0,.int .i64 0,.int .i64 0,.agg [.int .i64 0,.int .i64 0,.int .i64 0,.int .i64 0,.int .i64 0,.int .i64 0],.agg [.int .i64 0,.int .i64 0]] [(0,(.t 40)),(1,(.t 43)),(2,(.t 46)),(3,(.t 49)),(4,(.t 53)),(6,(.t 57)),(7,(.t 61)),(5,(.t 64))]),o 12 (.alloc (.agg [.agg [.int .i64 0,.int .i64 0],.int .i64 0,.int .i64 0,.int .i64 0,.int .i64 0,.int .i64 0,.int .i64 0,.int .i64 0,.agg [.int .i64 0,.int .i64 0,.int .i64 0,.int .i64 0,.int .i64 0,.int .i64 0],.agg [.int .i64 0,.int .i64 0]])),p (.bl (some 17) (.t 12) (.t 65))]
def Xt:=some [[],[],[1],[2],[0,3],[],[5],[6],[],[8],[9,7],[],[11],[12,10],[],[14],[15,13],[16],[],[18],[19,16],[20],[],[22],[23,20],[24],[],[26],[27,24],[4,7,10,13,17,21,25,28],[],[30,29,28,0,1,2,3,4,5,6,7,8,9,10,11,12,13,14,15,16,17,18,19,20,21,22,23,24,25,26,27,28,29,30]]
def ab4:=[f 66 5 6 12,l 67 66,f 68 4 5 12,l 69 68,o 70 (.bin .eql (.t 67) (.t 69))]
def ab5:=[f 71 5 6 12,p (.bl none (.t 71) (aj 0))]
def ab6:=[f 72 1 2 12,l 73 72,o 74 (.bin .eql (.t 73) (aj 0))]
def ab7:=[m 75 9,o 76 (.ia 3 1 (.t 7) (.t 75)),l 77 76,o 78 (.bin .eql (.t 77) (aj 0))]
def ab8:=[f 79 2 3 12,p (.bl none (.t 79) (aj 0))]
def ab9:=[m 80 9,o 81 (.ia 9 1 (.t 11) (aj 4)),l 82 81,m 83 9,o 84 (.ia 3 1 (.t 7) (.t 83)),l 85 84,o 86 (.call 25 [.t 82,.t 85]),o 87 (.bld [.int .i64 0,.int .i64 0] [(0,(.t 80)),(1,(.t 86))]),f 88 9 15 12,p (.bl (some 2) (.t 88) (.t 87))]
def Xr:=some [[],[],[1],[],[3],[4],[2,5],[0,6],[0,1,2,3,4,5,6,7],[8,7,6,0,1,2,3,4,5,6,7]]
def aca:=[f 89 1 2 12,l 90 89,o 91 (.bin .eql (.t 90) (aj 4))]
def acb:=[o 92 (.bld [.int .i64 0,.int .i64 0,.int .i64 0,.int .i64 0,.int .i64 0,.int .i64 0] [(0,(aj 31)),(1,(aj 31)),(2,(aj 31)),(3,(aj 31)),(4,(aj 31)),(5,(aj 31))]),f 93 8 9 12,p (.bl (some 6) (.t 93) (.t 92))]
def acd:=[f 94 2 6 3,l 95 94,o 96 (.len (.t 95)),o 97 (.bin .gtr (.t 96) (aj 0))]
def ace:=[aC 98 7 3,f 99 2 6 3,l 100 99,o 101 (.ia 9 1 (.t 11) (aj 8)),l 102 101,f 103 2 6 3,l 104 103,o 105 (.len (.t 104)),o 106 (.call 25 [.t 102,.t 105]),o 107 (.is 7 (.t 100) (.t 106)),f 108 1 1 107,aC 109 6 108,m 110 2,m 111 10,o 112 (.call 83 [.t 110,.t 111]),o 113 (.call 35 [.t 98,.t 109,.t 112]),f 114 8 9 12,p (.bl (some 6) (.t 114) (.t 113))]
def Xs:=some [[],[],[1],[],[3],[],[5],[6],[4,7],[2,8],[9],[10],[],[],[12,13,8],[0,11,14,14],[0,1,2,3,4,5,6,7,8,9,10,11,12,13,14,15],[16,15,15,0,1,2,3,4,5,6,7,8,9,10,11,12,13,14,15]]
def acg:=[m 115 8,aC 116 17 12,o 117 (.call 84 [.t 116]),o 118 (.bs 68 17 [.t 117]),o 119 (.dN 68 17 136 (.agg [.agg [.int .i64 0,.int .i64 0],.int .i64 0,.int .i64 0,.int .i64 0,.int .i64 0,.int .i64 0,.int .i64 0,.int .i64 0,.agg [.int .i64 0,.int .i64 0,.int .i64 0,.int .i64 0,.int .i64 0,.int .i64 0],.agg [.int .i64 0,.int .i64 0]]) (.t 115) (.t 118)),m 8 119]
def ach:=[m 120 9,o 121 (.ia 3 1 (.t 7) (.t 120)),l 122 121,ad 123 122 1,o 124 (.ia 3 1 (.t 7) (.t 120)),p (.bl none (.t 124) (.t 123))]
def aci:=[m 25 10,ad 26 25 1,m 10 26]
def acj:=[m 15 9,ad 16 15 1,m 9 16]
def ack:=[m 125 8,m 6 125]
def BA:aP:=(s (r ab2) (s (r ab3) (s (r acf) (s (s (r acm) (.block 0 (.loop (s (s (r acn) (.cond (.t 14) .skip (.exit 0))) (s (.block 1 (s (r aco) (.block 2 (.loop (s (s (r acp) (.cond (.t 24) .skip (.exit 2))) (s (.block 3 (s (r acq) (s (s (r acr) (.cond (.t 35) (.exit 3) .skip)) (s (.cg Xt acs) (s (s (r ab4) (.cond (.t 70) (r ab5) .skip)) (s (s (r ab6) (.cond (.t 74) (s (s (r ab7) (.cond (.t 78) (.exit 3) .skip)) (s (r ab8) (.cg Xr ab9))) .skip)) (s (s (r aca) (.cond (.t 91) (s (r acb) (s (r acd) (.cond (.t 97) (.cg Xs ace) .skip))) .skip)) (s (r acg) (r ach))))))))) (r aci))))))) (r acj)))))) (s (r ack) .ret)))))
def Mw:List a6:=[.tmp 6]
theorem T6:bE Tryz.prog Tryz.f23 BA:=e (by kernel_rfl)
theorem Wa:bF Tryz.prog Tryz.f23 Mw:=e (by kernel_rfl)
theorem Sd:bC Tryz.prog 23:=e (by kernel_rfl)
def Hv:=[o 2 (.alloc (.agg [.agg [.int .i64 0,.int .i64 0,.int .i64 0,.int .i64 0,.int .i64 0],.int .i64 0,.nils 7]))]
def Hw:=[m 7 0,o 8 (.call 85 [.t 7]),m 9 0,o 10 (.call 34 [.t 9,(aj 5)]),o 11 (.call 25 [.t 10,(aj 2)]),o 12 (.bld [.agg [.int .i64 0,.int .i64 0,.int .i64 0,.int .i64 0,.int .i64 0],.int .i64 0,.nils 7] [(0,(.t 8)),(1,(.t 11))]),o 3 (.alloc (.agg [.agg [.int .i64 0,.int .i64 0,.int .i64 0,.int .i64 0,.int .i64 0],.int .i64 0,.nils 7])),p (.bl (some 7) (.t 3) (.t 12))]
def Hx:=[bg 4 0]
def Hy:=[bg 5 0]
def Hz:=[m 13 5,m 14 0,o 15 (.len (.t 14)),lt 16 13 15,m 17 16,dj 18 5 17,bQ 19 (.bin .lss (.t 18) (aj 12)) 17,and 20 17 19,m 21 20,dx 22 2 6 3 21,ee 23 22 21,bQ 24 (.len (.t 23)) 21,bQ 25 (.bin .lss (.t 24) (aj 9)) 21,and 26 21 25]
def HA:=[m 29 4,m 30 0,m 31 5,o 32 (.is 1 (.t 30) (.t 31)),l 33 32,o 34 (.call 25 [.t 33,(aj 4)]),o 35 (.bin .add (aj 1) (.t 34)),o 36 (.bin .add (.t 29) (.t 35)),m 4 36]
def HB:=[m 37 4,m 38 0,m 39 5,o 40 (.is 1 (.t 38) (.t 39)),l 41 40,o 42 (.bin .mul (.t 41) (aj 7)),m 43 5,o 44 (.bin .mul (.t 43) (aj 2503)),o 45 (.bin .add (.t 42) (.t 44)),o 46 (.call 25 [.t 45,(aj 15625)]),o 47 (.call 86 [.t 46]),o 48 (.bld [.int .i64 0,.agg [.int .i64 0,.int .i64 0,.int .i64 0,.int .i64 0,.int .i64 0,.int .i64 0]] [(0,(.t 37)),(1,(.t 47))]),o 6 (.alloc (.agg [.int .i64 0,.agg [.int .i64 0,.int .i64 0,.int .i64 0,.int .i64 0,.int .i64 0,.int .i64 0]])),p (.bl (some 7) (.t 6) (.t 48))]
def HC:=[aC 49 7 3,f 50 1 1 6,aC 51 6 50,o 52 (.call 87 [.t 49,.t 51]),no 53 52]
def HD:=[f 54 2 6 3,l 55 54,aC 56 7 6,o 57 (.bs 63 7 [.t 56]),o 58 (.dN 63 7 56 (.agg [.int .i64 0,.agg [.int .i64 0,.int .i64 0,.int .i64 0,.int .i64 0,.int .i64 0,.int .i64 0]]) (.t 55) (.t 57)),f 59 2 6 3,p (.bl none (.t 59) (.t 58))]
def wG:=[m 27 5,ad 28 27 1,m 5 28]
def sS:=[aC 60 7 3,p (.bl (some 7) (.t 2) (.t 60))]
def BB:aP:=(s (r Hv) (s (r Hw) (s (r Hx) (s (s (r Hy) (.block 0 (.loop (s (s (r Hz) (.cond (.t 26) .skip (.exit 0))) (s (.block 1 (s (r HA) (s (r HB) (s (r HC) (.cond (.t 53) (r HD) .skip))))) (r wG)))))) (s (r sS) .ret)))))
def Mx:List a6:=[.cell 2 (some 7)]
theorem T7:bE Tryz.prog Tryz.f24 BB:=e (by kernel_rfl)
theorem Wb:bF Tryz.prog Tryz.f24 Mx:=e (by kernel_rfl)
theorem Se:bC Tryz.prog 24:=e (by kernel_rfl)
def HE:=[bg 4 0]
def HF:=[m 5 0,m 6 1,o 7 (.bin .rem (.t 5) (.t 6)),m 8 1,o 9 (.bin .add (.t 7) (.t 8)),m 10 1,o 11 (.bin .rem (.t 9) (.t 10)),m 4 11]
def BC:aP:=(s (r HE) (s (r HF) .ret))
def My:List a6:=[.tmp 4]
theorem T8:bE Tryz.prog Tryz.f25 BC:=e (by kernel_rfl)
theorem Wc:bF Tryz.prog Tryz.f25 My:=e (by kernel_rfl)
theorem Sf:bC Tryz.prog 25:=e (by kernel_rfl)
def acu:=[o 6 (.mv (.c (.nils 1))),bg 7 0]
def acv:=[m 11 0,m 12 1,m 13 2,o 14 (.bs 3 1 [.t 12,.t 13]),o 15 (.call 67 [.t 11,(.c (.nils 2)),.t 14]),m 8 15]
def acw:=[m 16 8,o 17 (.bin .neq (.t 16) (aj 0))]
def acx:=[m 18 8,o 6 (.mv (.c (.nils 1))),m 7 18]
def acy:=[m 20 0,m 21 1,m 22 2,o 23 (.call 88 [.t 20,.t 21,.t 22]),m 19 23,o 24 (.ext (.t 19) 0),o 25 (.ext (.t 19) 1),m 9 24,m 10 25]
def acz:=[m 26 9,o 27 (.call 72 [.t 26,(.c (.func 89 []))]),m 6 27,bg 7 0]
def BD:aP:=(s (r acu) (s (s (r acv) (s (r acw) (.cond (.t 17) (s (r acx) .ret) .skip))) (s (r acy) (s (r acz) .ret))))
def Mz:List a6:=[.tmp 6,.tmp 7]
theorem T9:bE Tryz.prog Tryz.f26 BD:=e (by kernel_rfl)
theorem Wd:bF Tryz.prog Tryz.f26 Mz:=e (by kernel_rfl)
theorem Sg:bC Tryz.prog 26:=e (by kernel_rfl)
def acA:=[bg 8 0,bg 9 0]
def acB:=[m 14 0,m 15 1,o 16 (.bld [.int .i64 0,.int .i64 0] [(0,(.t 15)),(1,(aj 9999))]),o 17 (.bs 28 2 [.t 16]),m 18 2,m 19 3,o 20 (.bs 3 1 [.t 18,.t 19]),o 21 (.call 67 [.t 14,.t 17,.t 20]),m 10 21]
def acD:=[m 22 10,o 23 (.bin .neq (.t 22) (aj 0))]
def acE:=[m 24 10,bg 8 0,m 9 24]
def acF:=[m 26 0,m 27 2,m 28 3,o 29 (.call 88 [.t 26,.t 27,.t 28]),m 25 29,o 30 (.ext (.t 25) 0),o 31 (.ext (.t 25) 1),m 11 30,m 12 31]
def acG:=[m 32 11,o 33 (.nilC (.t 32)),f 34 0 0 33,l 35 34,m 36 1,o 37 (.lk (.i .i64) (.nilp) false (.t 35) (.t 36)),m 13 37]
def acH:=[m 39 13,o 40 (.ptrE false (.t 39) (.c (.nilp))),m 38 40]
def acI:=[bg 8 0,bg 9 42]
def acJ:=[m 42 13,o 43 (.call 90 [.t 42]),m 41 43]
def acK:=[bg 8 0,bg 9 0]
def acC:=[m 44 13,o 45 (.nilC (.t 44)),f 46 0 0 45,f 47 3 3 46,l 48 47,m 8 48,bg 9 0]
def BE:aP:=(s (r acA) (s (s (r acB) (s (r acD) (.cond (.t 23) (s (r acE) .ret) .skip))) (s (r acF) (s (r acG) (s (.block 0 (s (r acH) (.cond (.t 38) (s (r acI) .ret) (s (r acJ) (.cond (.t 41) (s (r acK) .ret) .skip))))) (s (r acC) .ret))))))
def MA:List a6:=[.tmp 8,.tmp 9]
theorem Ua:bE Tryz.prog Tryz.f27 BE:=e (by kernel_rfl)
theorem We:bF Tryz.prog Tryz.f27 MA:=e (by kernel_rfl)
theorem Sh:bC Tryz.prog 27:=e (by kernel_rfl)
def acL:=[b 6 1,b 7 2,bg 10 0,bg 11 0]
def acM:=[m 15 0,l 16 6,o 17 (.bld [.int .i64 0,.int .i64 0] [(0,(.t 16)),(1,(aj 99))]),l 18 7,o 19 (.bld [.int .i64 0,.int .i64 0] [(0,(.t 18)),(1,(aj 9))]),o 20 (.bs 28 2 [.t 17,.t 19]),m 21 3,m 22 4,o 23 (.bs 3 1 [.t 21,.t 22]),o 24 (.call 67 [.t 15,.t 20,.t 23]),m 12 24]
def acN:=[m 25 12,o 26 (.bin .neq (.t 25) (aj 0))]
def acO:=[m 27 12,bg 10 0,m 11 27]
def acP:=[m 29 0,m 30 3,m 31 4,o 32 (.call 88 [.t 29,.t 30,.t 31]),m 28 32,o 33 (.ext (.t 28) 0),o 34 (.ext (.t 28) 1),m 13 33,m 14 34]
def acQ:=[m 35 13,o 36 (.mk 91 [.t 6,.t 7]),o 37 (.call 72 [.t 35,.t 36]),o 38 (.len (.t 37)),m 10 38,bg 11 0]
def BF:aP:=(s (r acL) (s (s (r acM) (s (r acN) (.cond (.t 26) (s (r acO) .ret) .skip))) (s (r acP) (s (r acQ) .ret))))
def MB:List a6:=[.tmp 10,.tmp 11]
theorem Ub:bE Tryz.prog Tryz.f28 BF:=e (by kernel_rfl)
theorem Wf:bF Tryz.prog Tryz.f28 MB:=e (by kernel_rfl)
theorem Si:bC Tryz.prog 28:=e (by kernel_rfl)
def acR:=[o 6 (.mv (.c (.nils 1))),bg 7 0]
def acS:=[m 12 0,m 13 1,o 14 (.bld [.int .i64 0,.int .i64 0] [(0,(.t 13)),(1,(aj 9999))]),o 15 (.bs 28 2 [.t 14]),m 16 2,o 17 (.bs 3 1 [.t 16]),o 18 (.call 67 [.t 12,.t 15,.t 17]),m 8 18]
def acV:=[m 19 8,o 20 (.bin .neq (.t 19) (aj 0))]
def acW:=[m 21 8,o 6 (.mv (.c (.nils 1))),m 7 21]
def acX:=[m 22 0,m 23 2,o 24 (.call 68 [.t 22,.t 23]),o 9 (.alloc (.nilp)),p (.bl none (.t 9) (.t 24))]
def acY:=[l 25 9,o 26 (.nilC (.t 25)),f 27 0 0 26,l 28 27,m 29 1,o 30 (.lk (.i .i64) (.nilp) false (.t 28) (.t 29)),o 31 (.ptrE false (.t 30) (.c (.nilp)))]
def acZ:=[o 6 (.mv (.c (.nils 1))),bg 7 42]
def ac0:=[o 32 (.jB),o 10 (.alloc (.raw (.map none))),p (.bl none (.t 10) (.t 32))]
def ac1:=[o 11 (.alloc (.df))]
def ac2:=[o 33 (.mk 95 [.t 10,.t 9,.t 11]),p (.bl none (.t 11) (.t 33))]
def acT:=[l 34 11,m 35 1,o 36 (.eF (.t 34) [.t 35])]
def acU:=[l 37 9,o 38 (.mk 96 [.t 10]),o 39 (.call 72 [.t 37,.t 38]),m 6 39,bg 7 0]
def BG:aP:=(s (r acR) (s (s (r acS) (s (r acV) (.cond (.t 20) (s (r acW) .ret) .skip))) (s (r acX) (s (s (r acY) (.cond (.t 31) (s (r acZ) .ret) .skip)) (s (r ac0) (s (r ac1) (s (r ac2) (s (r acT) (s (r acU) .ret)))))))))
def MC:List a6:=[.tmp 6,.tmp 7]
theorem Uc:bE Tryz.prog Tryz.f32 BG:=e (by kernel_rfl)
theorem Wg:bF Tryz.prog Tryz.f32 MC:=e (by kernel_rfl)
theorem Sj:bC Tryz.prog 32:=e (by kernel_rfl)
def HG:=[bg 4 0]
def HI:=[m 5 0,o 6 (.len (.t 5)),o 7 (.bin .eql (.t 6) (aj 0))]
def HJ:=[bg 4 0]
def HK:=[m 8 0,m 9 1,m 10 0,o 11 (.len (.t 10)),o 12 (.call 25 [.t 9,.t 11]),o 13 (.is 1 (.t 8) (.t 12)),l 14 13,m 4 14]
def BH:aP:=(s (r HG) (s (s (r HI) (.cond (.t 7) (s (r HJ) .ret) .skip)) (s (r HK) .ret)))
def MD:List a6:=[.tmp 4]
theorem Ud:bE Tryz.prog Tryz.f34 BH:=e (by kernel_rfl)
theorem Wh:bF Tryz.prog Tryz.f34 MD:=e (by kernel_rfl)
theorem Sk:bC Tryz.prog 34:=e (by kernel_rfl)
def HL:=[b 3 0,b 4 1,o 6 (.alloc (.agg [.int .i64 0,.int .i64 0,.int .i64 0,.int .i64 0,.int .i64 0,.int .i64 0]))]
def HM:=[f 13 0 0 3,aC 14 5 13,aC 15 6 4,m 16 2,o 17 (.call 98 [.t 14,.t 15,.t 16]),m 12 17,o 18 (.ext (.t 12) 0),o 19 (.ext (.t 12) 1),o 7 (.alloc (.agg [.int .i64 0,.int .i64 0,.int .i64 0,.int .i64 0,.int .i64 0,.int .i64 0])),p (.bl (some 6) (.t 7) (.t 18)),m 8 19]
def HP:=[bg 9 0]
def HQ:=[m 20 9,f 21 1 5 3,l 22 21,lt 23 20 22]
def HR:=[m 26 2,m 27 9,ad 28 27 2,o 29 (.call 34 [.t 26,.t 28]),o 30 (.call 25 [.t 29,(aj 6)]),m 31 2,m 32 9,ad 33 32 5,o 34 (.call 34 [.t 31,.t 33]),o 35 (.call 25 [.t 34,(aj 5)]),o 36 (.bin .shl (aj 1) (.t 35)),o 37 (.ia 6 1 (.t 7) (.t 30)),p (.bl none (.t 37) (.t 36))]
def HS:=[m 24 9,ad 25 24 1,m 9 25]
def HT:=[bg 10 0]
def HU:=[m 38 10,m 39 2,o 40 (.call 34 [.t 39,(aj 1)]),o 41 (.call 25 [.t 40,(aj 4)]),lt 42 38 41]
def HV:=[m 45 2,m 46 10,ad 47 46 7,o 48 (.call 34 [.t 45,.t 47]),o 49 (.call 25 [.t 48,(aj 6)]),m 11 49]
def HW:=[m 50 11,m 51 11,o 52 (.ia 6 1 (.t 7) (.t 51)),l 53 52,m 54 2,m 55 10,ad 56 55 3,o 57 (.call 34 [.t 54,.t 56]),o 58 (.call 25 [.t 57,(aj 32)]),o 59 (.bin .or (.t 53) (.t 58)),o 60 (.ia 6 1 (.t 7) (.t 50)),p (.bl none (.t 60) (.t 59))]
def Xu:=some [[],[],[1],[2],[],[],[5],[4,6],[7,7],[3,8],[0,0,1,2,3,4,5,6,7,8,9],[10,9,8,0,1,2,3,4,5,6,7,8,9]]
def HN:=[m 43 10,ad 44 43 1,m 10 44]
def HO:=[aC 61 6 7,p (.bl (some 6) (.t 6) (.t 61))]
def BI:aP:=(s (r HL) (s (r HM) (s (s (r HP) (.block 0 (.loop (s (s (r HQ) (.cond (.t 23) .skip (.exit 0))) (s (.block 1 (r HR)) (r HS)))))) (s (s (r HT) (.block 2 (.loop (s (s (r HU) (.cond (.t 42) .skip (.exit 2))) (s (.block 3 (s (r HV) (.cg Xu HW))) (r HN)))))) (s (r HO) .ret)))))
def ME:List a6:=[.cell 6 (some 6)]
theorem Ue:bE Tryz.prog Tryz.f35 BI:=e (by kernel_rfl)
theorem Wi:bF Tryz.prog Tryz.f35 ME:=e (by kernel_rfl)
theorem Sl:bC Tryz.prog 35:=e (by kernel_rfl)
def HX:=[o 4 (.mv bh)]
def HY:=[bg 5 0]
def HZ:=[m 6 5,m 7 0,o 8 (.len (.t 7)),lt 9 6 8]
def H0:=[m 12 0,m 13 5,o 14 (.is 1 (.t 12) (.t 13)),l 15 14,m 16 1,o 17 (.bin .eql (.t 15) (.t 16))]
def H2:=[o 4 (.mv T)]
def H3:=[m 10 5,ad 11 10 1,m 5 11]
def H4:=[o 4 (.mv bh)]
def BJ:aP:=(s (r HX) (s (s (r HY) (.block 0 (.loop (s (s (r HZ) (.cond (.t 9) .skip (.exit 0))) (s (.block 1 (s (r H0) (.cond (.t 17) (s (r H2) .ret) .skip))) (r H3)))))) (s (r H4) .ret)))
def MF:List a6:=[.tmp 4]
theorem Uf:bE Tryz.prog Tryz.f36 BJ:=e (by kernel_rfl)
theorem Wj:bF Tryz.prog Tryz.f36 MF:=e (by kernel_rfl)
theorem Sm:bC Tryz.prog 36:=e (by kernel_rfl)
def ac3:=[o 6 (.alloc (.agg [.int .i64 0,.int .i64 0,.int .i64 0,.int .i64 0,.int .i64 0,.int .i64 0,.int .i64 0,.bool false,.nils 6])),bg 7 0]
def ac4:=[m 10 0,m 11 1,o 12 (.bld [.int .i64 0,.int .i64 0] [(0,(.t 11)),(1,(aj 9999))]),o 13 (.bs 28 2 [.t 12]),m 14 2,o 15 (.bs 3 1 [.t 14]),o 16 (.call 67 [.t 10,.t 13,.t 15]),m 8 16]
def ac5:=[m 17 8,o 18 (.bin .neq (.t 17) (aj 0))]
def ac6:=[o 19 (.bld [.int .i64 0,.int .i64 0,.int .i64 0,.int .i64 0,.int .i64 0,.int .i64 0,.int .i64 0,.bool false,.nils 6] []),m 20 8,p (.bl (some 9) (.t 6) (.t 19)),m 7 20]
def ac7:=[m 21 0,m 22 2,o 23 (.call 68 [.t 21,.t 22]),o 24 (.nilC (.t 23)),f 25 0 0 24,l 26 25,m 27 1,o 28 (.lk (.i .i64) (.nilp) false (.t 26) (.t 27)),m 9 28]
def ac8:=[m 29 9,o 30 (.ptrE false (.t 29) (.c (.nilp)))]
def ac9:=[o 31 (.bld [.int .i64 0,.int .i64 0,.int .i64 0,.int .i64 0,.int .i64 0,.int .i64 0,.int .i64 0,.bool false,.nils 6] []),p (.bl (some 9) (.t 6) (.t 31)),bg 7 42]
def ada:=[m 32 9,o 33 (.nilC (.t 32)),f 34 0 0 33,aC 35 9 34,p (.bl (some 9) (.t 6) (.t 35)),bg 7 0]
def BK:aP:=(s (r ac3) (s (s (r ac4) (s (r ac5) (.cond (.t 18) (s (r ac6) .ret) .skip))) (s (r ac7) (s (s (r ac8) (.cond (.t 30) (s (r ac9) .ret) .skip)) (s (r ada) .ret)))))
def MG:List a6:=[.cell 6 (some 9),.tmp 7]
theorem Ug:bE Tryz.prog Tryz.f39 BK:=e (by kernel_rfl)
theorem Wk:bF Tryz.prog Tryz.f39 MG:=e (by kernel_rfl)
theorem Sn:bC Tryz.prog 39:=e (by kernel_rfl)
def H5:=[bg 2 0]
def H6:=[m 5 0,o 6 (.len (.t 5)),o 7 (.bin .gtr (.t 6) (aj 60))]
def adF:=[bg 2 41]
def H7:=[m 8 0,o 9 (.len (.t 8)),bg 10 0]
def adG:=[lt 11 10 9]
def adH:=[m 12 10,o 13 (.is 17 (.t 8) (.t 10)),aC 14 17 13,o 4 (.alloc (.agg [.agg [.int .i64 0,.int .i64 0],.int .i64 0,.int .i64 0,.int .i64 0,.int .i64 0,.int .i64 0,.int .i64 0,.int .i64 0,.agg [.int .i64 0,.int .i64 0,.int .i64 0,.int .i64 0,.int .i64 0,.int .i64 0],.agg [.int .i64 0,.int .i64 0]])),m 3 12,p (.bl (some 17) (.t 4) (.t 14))]
def adI:=[aC 15 17 4,o 16 (.call 117 [.t 15]),no 17 16,m 18 17,fo 19 3 18,on 20 (.bin .gtr (.t 19) (aj 0)) 18,fo 21 20 18,dj 22 0 21,dj 23 3 21,bQ 24 (.bin .sub (.t 23) (aj 1)) 21,bQ 25 (.is 17 (.t 22) (.t 24)) 21,dx 26 0 0 25 21,bQ 27 (.ld (some 2) (.t 26)) 21,dx 28 0 0 4 21,bQ 29 (.ld (some 2) (.t 28)) 21,bQ 30 (.call 118 [.t 27,.t 29]) 21,bQ 31 (.bin .geq (.t 30) (aj 0)) 21,on 32 (.pick (.t 21) (.t 31) bh) 18,or 33 18 32]
def Xv:=some [[],[0],[1],[2,1],[3],[4,3],[5,3,3],[6],[6],[8,6],[7,9,6],[10,6],[11,6],[6],[13,6],[12,14,6,6],[15,6],[6,16,3],[3,17]]
def adJ:=[bg 2 41]
def adK:=[ad 34 10 1,m 10 34]
def adL:=[bg 2 0]
def BL:aP:=(s (r H5) (s (s (r H6) (.cond (.t 7) (s (r adF) .ret) .skip)) (s (s (r H7) (.block 0 (.loop (s (r adG) (s (.cond (.t 11) .skip (.exit 0)) (s (.block 1 (s (r adH) (s (.cg Xv adI) (.cond (.t 33) (s (r adJ) .ret) .skip)))) (r adK))))))) (s (r adL) .ret))))
def MI:List a6:=[.tmp 2]
theorem Ui:bE Tryz.prog Tryz.f64 BL:=e (by kernel_rfl)
theorem Wm:bF Tryz.prog Tryz.f64 MI:=e (by kernel_rfl)
theorem Sq:bC Tryz.prog 64:=e (by kernel_rfl)
def H8:=[b 1 0,bg 2 0]
def H9:=[f 5 0 0 1,aC 6 5 5,o 7 (.call 120 [.t 6]),no 8 7,m 9 8,fn 10 1 5 1 9,jz 11 10 9,on 12 (.call 121 [.t 11,(aj 0),(aj 2)]) 9,on 13 (.un .not (.t 12)) 9,or 14 9 13,m 15 14,fn 16 2 6 1 15,jz 17 16 15,on 18 (.len (.t 17)) 15,on 19 (.bin .gtr (.t 18) (aj 40)) 15,or 20 15 19]
def sT:=[bg 2 13]
def Ia:=[f 21 2 6 1,l 22 21,o 23 (.len (.t 22)),bg 24 0]
def Ib:=[lt 25 24 23]
def Ic:=[m 26 24,o 27 (.is 7 (.t 22) (.t 24)),aC 28 7 27,o 4 (.alloc (.agg [.int .i64 0,.agg [.int .i64 0,.int .i64 0,.int .i64 0,.int .i64 0,.int .i64 0,.int .i64 0]])),m 3 26,p (.bl (some 7) (.t 4) (.t 28))]
def Ie:=[f 29 0 0 4,l 30 29,o 31 (.call 122 [.t 30]),no 32 31,m 33 32,fn 34 1 1 4 33,on 35 (.ld (some 6) (.t 34)) 33,on 36 (.call 123 [.t 35]) 33,on 37 (.un .not (.t 36)) 33,or 38 33 37,m 39 38,fo 40 3 39,on 41 (.bin .gtr (.t 40) (aj 0)) 39,fo 42 41 39,dx 43 2 6 1 42,ee 44 43 42,dj 45 3 42,bQ 46 (.bin .sub (.t 45) (aj 1)) 42,bQ 47 (.is 7 (.t 44) (.t 46)) 42,dx 48 0 0 47 42,ee 49 48 42,dx 50 0 0 4 42,ee 51 50 42,bQ 52 (.bin .geq (.t 49) (.t 51)) 42,on 53 (.pick (.t 42) (.t 52) bh) 39,or 54 39 53,m 55 54,on 56 (.ld (some 7) (.t 1)) 55,fn 57 2 6 1 55,jz 58 57 55,fo 59 3 55,on 60 (.sl 7 (.t 58) none (some (.t 59)) none) 55,fn 61 1 1 4 55,on 62 (.ld (some 6) (.t 61)) 55,on 63 (.call 124 [.t 56,.t 60,.t 62]) 55,on 64 (.un .not (.t 63)) 55,or 65 55 64]
def Xw:=some [[],[0],[1],[2],[3,2],[4],[5,4],[6,4,4],[7,4],[4,8],[9,7],[10],[11,10],[12,10,10],[13],[14,13],[13],[16,13],[15,17,13],[18,13],[19,13],[13],[21,13],[20,22,13],[13,23,10],[10,24],[25,13],[26],[26],[28,26],[26],[29,30,26],[26],[32,26],[27,31,33,26,26],[34,26],[26,35]]
def pF:=[bg 2 13]
def wH:=[ad 66 24 1,m 24 66]
def If:=[bg 2 0]
def BM:aP:=(s (r H8) (s (s (r H9) (.cond (.t 20) (s (r sT) .ret) .skip)) (s (s (r Ia) (.block 0 (.loop (s (r Ib) (s (.cond (.t 25) .skip (.exit 0)) (s (.block 1 (s (r Ic) (s (.cg Xw Ie) (.cond (.t 65) (s (r pF) .ret) .skip)))) (r wH))))))) (s (r If) .ret))))
def MJ:List a6:=[.tmp 2]
theorem Uj:bE Tryz.prog Tryz.f66 BM:=e (by kernel_rfl)
theorem Wn:bF Tryz.prog Tryz.f66 MJ:=e (by kernel_rfl)
theorem Sr:bC Tryz.prog 66:=e (by kernel_rfl)
def adM:=[bg 6 0]
def adN:=[m 10 0,o 11 (.call 64 [.t 10]),m 7 11]
def adR:=[m 12 7,o 13 (.bin .neq (.t 12) (aj 0))]
def adS:=[m 14 7,m 6 14]
def adT:=[m 15 1,o 16 (.len (.t 15)),bg 17 0]
def adU:=[lt 18 17 16]
def adV:=[o 19 (.is 2 (.t 15) (.t 17)),aC 20 2 19,o 9 (.alloc (.agg [.int .i64 0,.int .i64 0])),p (.bl (some 2) (.t 9) (.t 20))]
def adW:=[o 21 (.ia 2 1 (.t 9) (aj 0)),l 22 21,o 23 (.ia 2 1 (.t 9) (aj 1)),l 24 23,o 25 (.call 114 [.t 22,(aj 1),.t 24]),no 26 25]
def adX:=[bg 6 1]
def adY:=[ad 27 17 1,m 17 27]
def adO:=[m 28 2,o 29 (.call 125 [.t 28,(.c (.func 126 []))])]
def adP:=[bg 6 6]
def adQ:=[bg 6 0]
def BN:aP:=(s (r adM) (s (s (r adN) (s (r adR) (.cond (.t 13) (s (r adS) .ret) .skip))) (s (s (r adT) (.block 0 (.loop (s (r adU) (s (.cond (.t 18) .skip (.exit 0)) (s (.block 1 (s (r adV) (s (r adW) (.cond (.t 26) (s (r adX) .ret) .skip)))) (r adY))))))) (s (s (r adO) (.cond (.t 29) (s (r adP) .ret) .skip)) (s (r adQ) .ret)))))
def MK:List a6:=[.tmp 6]
theorem Uk:bE Tryz.prog Tryz.f67 BN:=e (by kernel_rfl)
theorem Wo:bF Tryz.prog Tryz.f67 MK:=e (by kernel_rfl)
theorem Ss:bC Tryz.prog 67:=e (by kernel_rfl)
def adZ:=[o 4 (.mv (.c (.nilp)))]
def ad0:=[m 8 0,m 9 1,o 10 (.call 88 [.t 8,(aj 100000),.t 9]),m 7 10,o 11 (.ext (.t 7) 0),o 12 (.ext (.t 7) 1),m 5 11,m 6 12]
def ad3:=[m 13 5,m 4 13]
def BO:aP:=(s (r adZ) (s (r ad0) (s (r ad3) .ret)))
def ML:List a6:=[.tmp 4]
theorem Ul:bE Tryz.prog Tryz.f68 BO:=e (by kernel_rfl)
theorem Wp:bF Tryz.prog Tryz.f68 ML:=e (by kernel_rfl)
theorem St:bC Tryz.prog 68:=e (by kernel_rfl)
def ad4:=[b 2 0,o 4 (.mv (.c (.nils 1)))]
def ad5:=[aC 8 7 2,m 9 1,o 10 (.nilC (.t 9)),f 11 0 0 10,f 12 8 8 11,l 13 12,o 14 (.call 128 [.t 8,.t 13]),m 7 14,o 15 (.ext (.t 7) 0),o 16 (.ext (.t 7) 1),m 5 15,m 6 16]
def Xx:=some [[],[],[1],[2],[3],[4],[0,5],[6],[7],[7],[8,6,0,1,2,3,4,5,6,7,8],[9,10,0,1,2,3,4,5,6,7,8,9,10]]
def ad6:=[m 17 5,m 4 17]
def BP:aP:=(s (r ad4) (s (.cg Xx ad5) (s (r ad6) .ret)))
def MN:List a6:=[.tmp 4]
theorem Um:bE Tryz.prog Tryz.f69 BP:=e (by kernel_rfl)
theorem Wq:bF Tryz.prog Tryz.f69 MN:=e (by kernel_rfl)
theorem Su:bC Tryz.prog 69:=e (by kernel_rfl)
def Ig:=[o 4 (.mv (.c (.nils 1)))]
def Ih:=[o 5 (.mv (.c (.nils 1)))]
def Ii:=[m 8 0,o 9 (.nilC (.t 8)),f 10 0 0 9,l 11 10,o 12 (.j4 (.t 11))]
def wI:=[o 13 (.iF (.t 12)),o 14 (.ext (.t 13) 0)]
def Ij:=[o 15 (.ent (.t 12)),o 16 (.ext (.t 15) 0),o 17 (.ext (.t 15) 1),m 6 16,m 7 17]
def Ik:=[m 18 1,m 19 7,o 20 (.eF (.t 18) [.t 19])]
def ad7:=[m 21 5,m 22 6,o 23 (.bs 3 1 [.t 22]),o 24 (.dN 3 1 8 (.int .i64 0) (.t 21) (.t 23)),m 5 24]
def ad8:=[m 25 5,o 26 (.call 107 [.t 25])]
def ad9:=[m 27 5,m 4 27]
def BR:aP:=(s (r Ig) (s (r Ih) (s (s (r Ii) (.block 0 (.loop (s (r wI) (s (.cond (.t 14) .skip (.exit 0)) (.block 1 (s (r Ij) (s (r Ik) (.cond (.t 20) (r ad7) .skip))))))))) (s (r ad8) (s (r ad9) .ret)))))
def MP:List a6:=[.tmp 4]
theorem Uo:bE Tryz.prog Tryz.f72 BR:=e (by kernel_rfl)
theorem Ws:bF Tryz.prog Tryz.f72 MP:=e (by kernel_rfl)
theorem Sw:bC Tryz.prog 72:=e (by kernel_rfl)
def aea:=[o 3 (.mv bh)]
def aeb:=[m 4 0,o 5 (.nilC (.t 4)),f 6 0 0 5,f 7 4 4 6,l 8 7,o 9 (.bin .gtr (.t 8) (aj 0)),m 10 9,bQ 11 (.ld (some 7) (.t 1)) 10,dj 12 0 10,bQ 13 (.call 69 [.t 11,.t 12]) 10,dj 14 0 10,bQ 15 (.nilC (.t 14)) 10,dx 16 0 0 15 10,dx 17 4 4 16 10,ee 18 17 10,bQ 19 (.call 74 [.t 13,.t 18]) 10,bQ 20 (.un .not (.t 19)) 10,and 21 10 20,m 3 21]
def Xy:=some [[],[0],[1],[2],[3],[4],[5],[6],[6],[7,8,6,6],[6],[10,6],[11,6],[12,6],[13,6],[9,14,9,6],[15,6],[6,16],[17,15,0,1,2,3,4,5,6,7,8,9,10,11,12,13,14,15,16,17]]
def BS:aP:=(s (r aea) (s (.cg Xy aeb) .ret))
def MQ:List a6:=[.tmp 3]
theorem Up:bE Tryz.prog Tryz.f73 BS:=e (by kernel_rfl)
theorem Wt:bF Tryz.prog Tryz.f73 MQ:=e (by kernel_rfl)
theorem Sx:bC Tryz.prog 73:=e (by kernel_rfl)
def aec:=[o 4 (.mv bh)]
def aed:=[m 5 0,m 6 1,o 7 (.call 131 [.t 5,.t 6]),o 8 (.bin .geq (.t 7) (aj 0)),m 4 8]
def BT:aP:=(s (r aec) (s (r aed) .ret))
def MR:List a6:=[.tmp 4]
theorem Uq:bE Tryz.prog Tryz.f74 BT:=e (by kernel_rfl)
theorem Wu:bF Tryz.prog Tryz.f74 MR:=e (by kernel_rfl)
theorem Sy:bC Tryz.prog 74:=e (by kernel_rfl)
def aee:=[b 3 0,o 6 (.mv bh)]
def aef:=[m 8 1,o 9 (.ptrE false (.t 8) (.c (.nilp))),m 10 9,fo 11 2 10,on 12 (.ptrE false (.t 11) (.c (.nilp))) 10,or 13 10 12]
def aeg:=[m 14 1,m 15 2,o 16 (.ptrE false (.t 14) (.t 15)),m 6 16]
def aeh:=[o 7 (.mv (.c (.func 133 [])))]
def aei:=[m 17 7,m 18 1,o 19 (.eF (.t 17) [.t 18]),m 20 7,m 21 2,o 22 (.eF (.t 20) [.t 21]),o 23 (.eqv (.kG 8 (.i .i64)) false (.t 19) (.t 22)),m 24 23,bQ 25 (.ld (some 7) (.t 3)) 24,dj 26 1 24,bQ 27 (.call 69 [.t 25,.t 26]) 24,bQ 28 (.ld (some 7) (.t 3)) 24,dj 29 2 24,bQ 30 (.call 69 [.t 28,.t 29]) 24,bQ 31 (.call 134 [.t 27,.t 30]) 24,and 32 24 31,m 6 32]
def Xz:=some [[],[],[0,1],[],[],[3,4,2],[2,5],[6,5],[7],[7],[8,9,7,7],[7],[7],[11,12,10,7],[10,13,13,7],[7,14],[15,14,0,1,2,3,4,5,6,7,8,9,10,11,12,13,14,15]]
def sv:aP:=(s (r aee) (s (s (r aef) (.cond (.t 13) (s (r aeg) .ret) .skip)) (s (r aeh) (s (.cg Xz aei) .ret))))
def tT:List a6:=[.tmp 6]
theorem vg:bE Tryz.prog Tryz.f77 sv:=e (by kernel_rfl)
theorem vr:bF Tryz.prog Tryz.f77 tT:=e (by kernel_rfl)
theorem ve:bC Tryz.prog 77:=e (by kernel_rfl)
def Il:=[o 4 (.mv (.c (.nils 17)))]
def Im:=[m 5 0,o 6 (.call 136 [.t 5]),m 7 1,m 8 1,ad 9 8 1,o 10 (.call 135 [.t 6,.t 7,.t 9]),m 4 10]
def BU:aP:=(s (r Il) (s (r Im) .ret))
def MS:List a6:=[.tmp 4]
theorem Ur:bE Tryz.prog Tryz.f78 BU:=e (by kernel_rfl)
theorem Wv:bF Tryz.prog Tryz.f78 MS:=e (by kernel_rfl)
theorem Sz:bC Tryz.prog 78:=e (by kernel_rfl)
def Io:=[o 0 (.mv (.c (.nils 17)))]
def Ip:=[o 1 (.bld [.agg [.int .i64 0,.int .i64 0],.int .i64 0,.int .i64 0,.int .i64 0,.int .i64 0,.int .i64 0,.int .i64 0,.int .i64 0,.agg [.int .i64 0,.int .i64 0,.int .i64 0,.int .i64 0,.int .i64 0,.int .i64 0],.agg [.int .i64 0,.int .i64 0]] [(1,(aj 1)),(2,(aj 1)),(3,(aj 1)),(4,(aj 10)),(6,(aj 3)),(7,(aj 2))]),o 2 (.bld [.int .i64 0,.int .i64 0] [(1,(aj 1))]),o 3 (.bld [.agg [.int .i64 0,.int .i64 0],.int .i64 0,.int .i64 0,.int .i64 0,.int .i64 0,.int .i64 0,.int .i64 0,.int .i64 0,.agg [.int .i64 0,.int .i64 0,.int .i64 0,.int .i64 0,.int .i64 0,.int .i64 0],.agg [.int .i64 0,.int .i64 0]] [(0,(.t 2)),(1,(aj 1)),(2,(aj 5)),(3,(aj 5)),(4,(aj 11)),(6,(aj 3)),(7,(aj 2)),(5,(aj 10))]),o 4 (.bld [.int .i64 0,.int .i64 0] [(1,(aj 2))]),o 5 (.bld [.agg [.int .i64 0,.int .i64 0],.int .i64 0,.int .i64 0,.int .i64 0,.int .i64 0,.int .i64 0,.int .i64 0,.int .i64 0,.agg [.int .i64 0,.int .i64 0,.int .i64 0,.int .i64 0,.int .i64 0,.int .i64 0],.agg [.int .i64 0,.int .i64 0]] [(0,(.t 4)),(1,(aj 2)),(2,(aj 6)),(3,(aj 6)),(4,(aj 20)),(6,(aj 3))]),o 6 (.bld [.int .i64 0,.int .i64 0] [(1,(aj 3))]),o 7 (.bld [.int .i64 0,.int .i64 0,.int .i64 0,.int .i64 0,.int .i64 0,.int .i64 0] [(0,(aj 31)),(1,(aj 1)),(2,(aj 1)),(3,(aj 1)),(4,(aj 1)),(5,(aj 31))]),o 8 (.bld [.agg [.int .i64 0,.int .i64 0],.int .i64 0,.int .i64 0,.int .i64 0,.int .i64 0,.int .i64 0,.int .i64 0,.int .i64 0,.agg [.int .i64 0,.int .i64 0,.int .i64 0,.int .i64 0,.int .i64 0,.int .i64 0],.agg [.int .i64 0,.int .i64 0]] [(0,(.t 6)),(1,(aj 4)),(2,(aj 6)),(3,(aj 6)),(4,(aj 20)),(8,(.t 7))]),o 9 (.bld [.int .i64 0,.int .i64 0] [(1,(aj 4))]),o 10 (.bld [.agg [.int .i64 0,.int .i64 0],.int .i64 0,.int .i64 0,.int .i64 0,.int .i64 0,.int .i64 0,.int .i64 0,.int .i64 0,.agg [.int .i64 0,.int .i64 0,.int .i64 0,.int .i64 0,.int .i64 0,.int .i64 0],.agg [.int .i64 0,.int .i64 0]] [(0,(.t 9)),(1,(aj 3)),(2,(aj 7)),(3,(aj 7)),(4,(aj 10)),(7,(aj 1))]),o 11 (.bld [.int .i64 0,.int .i64 0] [(1,(aj 5))]),o 12 (.bld [.int .i64 0,.int .i64 0,.int .i64 0,.int .i64 0,.int .i64 0,.int .i64 0] [(0,(aj 24)),(1,(aj 1)),(2,(aj 1)),(3,(aj 1)),(4,(aj 1)),(5,(aj 31))]),o 13 (.bld [.agg [.int .i64 0,.int .i64 0],.int .i64 0,.int .i64 0,.int .i64 0,.int .i64 0,.int .i64 0,.int .i64 0,.int .i64 0,.agg [.int .i64 0,.int .i64 0,.int .i64 0,.int .i64 0,.int .i64 0,.int .i64 0],.agg [.int .i64 0,.int .i64 0]] [(0,(.t 11)),(1,(aj 4)),(2,(aj 6)),(3,(aj 9)),(4,(aj 20)),(8,(.t 12))]),o 14 (.bld [.int .i64 0,.int .i64 0] [(1,(aj 6))]),o 15 (.bld [.agg [.int .i64 0,.int .i64 0],.int .i64 0,.int .i64 0,.int .i64 0,.int .i64 0,.int .i64 0,.int .i64 0,.int .i64 0,.agg [.int .i64 0,.int .i64 0,.int .i64 0,.int .i64 0,.int .i64 0,.int .i64 0],.agg [.int .i64 0,.int .i64 0]] [(0,(.t 14)),(1,(aj 5)),(2,(aj 10)),(3,(aj 10)),(4,(aj 20)),(7,(aj 3))]),o 16 (.bld [.int .i64 0,.int .i64 0] [(1,(aj 7))]),o 17 (.bld [.int .i64 0,.int .i64 0,.int .i64 0,.int .i64 0,.int .i64 0,.int .i64 0] [(0,(aj 1)),(1,(aj 1)),(2,(aj 1)),(3,(aj 1)),(4,(aj 1)),(5,(aj 1))]),o 18 (.bld [.agg [.int .i64 0,.int .i64 0],.int .i64 0,.int .i64 0,.int .i64 0,.int .i64 0,.int .i64 0,.int .i64 0,.int .i64 0,.agg [.int .i64 0,.int .i64 0,.int .i64 0,.int .i64 0,.int .i64 0,.int .i64 0],.agg [.int .i64 0,.int .i64 0]] [(0,(.t 16)),(1,(aj 4)),(2,(aj 8)),(3,(aj 11)),(4,(aj 11)),(8,(.t 17))]),o 19 (.bld [.int .i64 0,.int .i64 0] [(1,(aj 8))]),o 20 (.bld [.agg [.int .i64 0,.int .i64 0],.int .i64 0,.int .i64 0,.int .i64 0,.int .i64 0,.int .i64 0,.int .i64 0,.int .i64 0,.agg [.int .i64 0,.int .i64 0,.int .i64 0,.int .i64 0,.int .i64 0,.int .i64 0],.agg [.int .i64 0,.int .i64 0]] [(0,(.t 19)),(1,(aj 6)),(2,(aj 12)),(3,(aj 12)),(4,(aj 10))]),o 21 (.bld [.int .i64 0,.int .i64 0] [(1,(aj 9))]),o 22 (.bld [.int .i64 0,.int .i64 0] [(1,(aj 5))]),o 23 (.bld [.agg [.int .i64 0,.int .i64 0],.int .i64 0,.int .i64 0,.int .i64 0,.int .i64 0,.int .i64 0,.int .i64 0,.int .i64 0,.agg [.int .i64 0,.int .i64 0,.int .i64 0,.int .i64 0,.int .i64 0,.int .i64 0],.agg [.int .i64 0,.int .i64 0]] [(0,(.t 21)),(1,(aj 0)),(3,(aj 14)),(9,(.t 22))]),o 24 (.bs 68 17 [.t 1,.t 3,.t 5,.t 8,.t 10,.t 13,.t 15,.t 18,.t 20,.t 23]),m 0 24]
def BV:aP:=(s (r Io) (s (r Ip) .ret))
def MT:List a6:=[.tmp 0]
theorem Us:bE Tryz.prog Tryz.f81 BV:=e (by kernel_rfl)
theorem Ww:bF Tryz.prog Tryz.f81 MT:=e (by kernel_rfl)
theorem SA:bC Tryz.prog 81:=e (by kernel_rfl)
def Iq:=[o 0 (.alloc (.agg [.agg [.int .i64 0,.int .i64 0,.int .i64 0,.int .i64 0,.int .i64 0],.int .i64 0,.nils 7]))]
def Ir:=[o 1 (.bld [.int .i64 0,.int .i64 0,.int .i64 0,.int .i64 0,.int .i64 0] [(0,(aj 1)),(1,(aj 3)),(2,(aj 4)),(3,(aj 24)),(4,(aj 24))]),o 2 (.bld [.int .i64 0,.agg [.int .i64 0,.int .i64 0,.int .i64 0,.int .i64 0,.int .i64 0,.int .i64 0]] [(0,(aj 1))]),o 3 (.bld [.int .i64 0,.int .i64 0,.int .i64 0,.int .i64 0,.int .i64 0,.int .i64 0] [(0,(aj 2)),(1,(aj 0)),(2,(aj 0)),(3,(aj 0)),(4,(aj 0)),(5,(aj 0))]),o 4 (.bld [.int .i64 0,.agg [.int .i64 0,.int .i64 0,.int .i64 0,.int .i64 0,.int .i64 0,.int .i64 0]] [(0,(aj 2)),(1,(.t 3))]),o 5 (.bld [.int .i64 0,.int .i64 0,.int .i64 0,.int .i64 0,.int .i64 0,.int .i64 0] [(0,(aj 3)),(1,(aj 0)),(2,(aj 0)),(3,(aj 0)),(4,(aj 0)),(5,(aj 2))]),o 6 (.bld [.int .i64 0,.agg [.int .i64 0,.int .i64 0,.int .i64 0,.int .i64 0,.int .i64 0,.int .i64 0]] [(0,(aj 3)),(1,(.t 5))]),o 7 (.bs 63 7 [.t 2,.t 4,.t 6]),o 8 (.bld [.agg [.int .i64 0,.int .i64 0,.int .i64 0,.int .i64 0,.int .i64 0],.int .i64 0,.nils 7] [(0,(.t 1)),(2,(.t 7))]),p (.bl (some 7) (.t 0) (.t 8))]
def BW:aP:=(s (r Iq) (s (r Ir) .ret))
def MU:List a6:=[.cell 0 (some 7)]
theorem Ut:bE Tryz.prog Tryz.f82 BW:=e (by kernel_rfl)
theorem Wx:bF Tryz.prog Tryz.f82 MU:=e (by kernel_rfl)
theorem SB:bC Tryz.prog 82:=e (by kernel_rfl)
def aeJ:=[o 4 (.mv (.c (.nils 1)))]
def aeK:=[o 5 (.mv (.c (.nils 1)))]
def aeL:=[bg 6 0]
def aeM:=[m 7 6,m 8 0,o 9 (.len (.t 8)),lt 10 7 9]
def aeN:=[m 13 5,m 14 0,m 15 6,m 16 1,o 17 (.bin .add (.t 15) (.t 16)),o 18 (.call 34 [.t 14,.t 17]),m 19 1,o 20 (.bin .add (.t 18) (.t 19)),o 21 (.bs 3 1 [.t 20]),o 22 (.dN 3 1 8 (.int .i64 0) (.t 13) (.t 21)),m 5 22]
def aeO:=[m 11 6,ad 12 11 1,m 6 12]
def aeP:=[m 23 5,m 4 23]
def BX:aP:=(s (r aeJ) (s (r aeK) (s (s (r aeL) (.block 0 (.loop (s (s (r aeM) (.cond (.t 10) .skip (.exit 0))) (s (.block 1 (r aeN)) (r aeO)))))) (s (r aeP) .ret))))
def MV:List a6:=[.tmp 4]
theorem Uu:bE Tryz.prog Tryz.f83 BX:=e (by kernel_rfl)
theorem Wy:bF Tryz.prog Tryz.f83 MV:=e (by kernel_rfl)
theorem SC:bC Tryz.prog 83:=e (by kernel_rfl)
def aeQ:=[b 1 0,o 2 (.alloc (.agg [.agg [.int .i64 0,.int .i64 0],.int .i64 0,.int .i64 0,.int .i64 0,.int .i64 0,.int .i64 0,.int .i64 0,.int .i64 0,.agg [.int .i64 0,.int .i64 0,.int .i64 0,.int .i64 0,.int .i64 0,.int .i64 0],.agg [.int .i64 0,.int .i64 0]]))]
def aeR:=[f 4 0 0 1,aC 5 2 4,f 6 1 2 1,l 7 6,f 8 2 3 1,l 9 8,f 10 3 4 1,l 11 10,o 12 (.bld [.agg [.int .i64 0,.int .i64 0],.int .i64 0,.int .i64 0,.int .i64 0,.int .i64 0,.int .i64 0,.int .i64 0,.int .i64 0,.agg [.int .i64 0,.int .i64 0,.int .i64 0,.int .i64 0,.int .i64 0,.int .i64 0],.agg [.int .i64 0,.int .i64 0]] [(0,(.t 5)),(1,(.t 7)),(2,(.t 9)),(3,(.t 11))]),o 3 (.alloc (.agg [.agg [.int .i64 0,.int .i64 0],.int .i64 0,.int .i64 0,.int .i64 0,.int .i64 0,.int .i64 0,.int .i64 0,.int .i64 0,.agg [.int .i64 0,.int .i64 0,.int .i64 0,.int .i64 0,.int .i64 0,.int .i64 0],.agg [.int .i64 0,.int .i64 0]])),p (.bl (some 17) (.t 3) (.t 12))]
def ae1:=[f 13 1 2 1,l 14 13,o 15 (.bin .eql (.t 14) (aj 0))]
def ae2:=[f 16 9 15 1,aC 17 2 16,f 18 9 15 3,p (.bl (some 2) (.t 18) (.t 17))]
def ae3:=[aC 19 17 3,p (.bl (some 17) (.t 2) (.t 19))]
def ae4:=[f 20 4 5 1,l 21 20,f 22 4 5 3,p (.bl none (.t 22) (.t 21))]
def ae5:=[f 23 1 2 1,l 24 23]
def ae6:=[o 26 (.bin .eql (.t 24) (aj 1)),m 25 26]
def ae7:=[f 27 6 7 1,l 28 27,f 29 6 7 3,p (.bl none (.t 29) (.t 28))]
def ae8:=[f 30 7 8 1,l 31 30,f 32 7 8 3,p (.bl none (.t 32) (.t 31))]
def aeS:=[f 33 5 6 1,l 34 33,f 35 5 6 3,p (.bl none (.t 35) (.t 34))]
def aeT:=[o 37 (.bin .eql (.t 24) (aj 2)),m 36 37]
def aeU:=[f 38 6 7 1,l 39 38,f 40 6 7 3,p (.bl none (.t 40) (.t 39))]
def aeV:=[o 42 (.bin .eql (.t 24) (aj 3)),m 41 42]
def aeW:=[o 43 (.bin .eql (.t 24) (aj 5)),m 41 43]
def aeX:=[f 44 7 8 1,l 45 44,f 46 7 8 3,p (.bl none (.t 46) (.t 45))]
def aeY:=[o 48 (.bin .eql (.t 24) (aj 4)),m 47 48]
def aeZ:=[f 49 8 9 1,aC 50 6 49,f 51 8 9 3,p (.bl (some 6) (.t 51) (.t 50))]
def ae0:=[aC 52 17 3,p (.bl (some 17) (.t 2) (.t 52))]
def BY:aP:=(s (r aeQ) (s (r aeR) (s (s (r ae1) (.cond (.t 15) (s (r ae2) (s (r ae3) .ret)) .skip)) (s (r ae4) (s (s (r ae5) (.block 0 (s (r ae6) (.cond (.t 25) (s (r ae7) (s (r ae8) (r aeS))) (s (r aeT) (.cond (.t 36) (r aeU) (s (s (r aeV) (.cond (.t 41) .skip (r aeW))) (.cond (.t 41) (r aeX) (s (r aeY) (.cond (.t 47) (r aeZ) .skip)))))))))) (s (r ae0) .ret))))))
def MW:List a6:=[.cell 2 (some 17)]
theorem Uv:bE Tryz.prog Tryz.f84 BY:=e (by kernel_rfl)
theorem Wz:bF Tryz.prog Tryz.f84 MW:=e (by kernel_rfl)
theorem SD:bC Tryz.prog 84:=e (by kernel_rfl)
def Is:=[o 2 (.alloc (.agg [.int .i64 0,.int .i64 0,.int .i64 0,.int .i64 0,.int .i64 0]))]
def It:=[o 3 (.alloc (.agg [.int .i64 0,.int .i64 0,.int .i64 0,.int .i64 0,.int .i64 0]))]
def Iu:=[bg 4 0]
def Iv:=[m 6 4,o 7 (.bin .lss (.t 6) (aj 5))]
def Iw:=[m 10 4,m 11 4,o 12 (.bin .shl (aj 1) (.t 11)),o 13 (.ia 5 1 (.t 3) (.t 10)),p (.bl none (.t 13) (.t 12))]
def Iy:=[m 14 0,m 15 4,o 16 (.call 34 [.t 14,.t 15]),o 17 (.call 25 [.t 16,(aj 12)]),m 5 17]
def Iz:=[m 18 5,o 19 (.bin .lss (.t 18) (aj 5))]
def IA:=[m 20 4,m 21 4,o 22 (.ia 5 1 (.t 3) (.t 21)),l 23 22,m 24 5,o 25 (.bin .shl (aj 1) (.t 24)),o 26 (.bin .or (.t 23) (.t 25)),o 27 (.ia 5 1 (.t 3) (.t 20)),p (.bl none (.t 27) (.t 26))]
def XA:=some [[],[],[1],[2],[],[4],[3,5],[0,0,1,2,3,4,5,6],[7,6,0,1,2,3,4,5,6]]
def wJ:=[m 8 4,ad 9 8 1,m 4 9]
def IB:=[aC 28 5 3,p (.bl (some 5) (.t 2) (.t 28))]
def BZ:aP:=(s (r Is) (s (r It) (s (s (r Iu) (.block 0 (.loop (s (s (r Iv) (.cond (.t 7) .skip (.exit 0))) (s (.block 1 (s (r Iw) (s (r Iy) (s (r Iz) (.cond (.t 19) (.cg XA IA) .skip))))) (r wJ)))))) (s (r IB) .ret))))
def MX:List a6:=[.cell 2 (some 5)]
theorem Uw:bE Tryz.prog Tryz.f85 BZ:=e (by kernel_rfl)
theorem WA:bF Tryz.prog Tryz.f85 MX:=e (by kernel_rfl)
theorem SE:bC Tryz.prog 85:=e (by kernel_rfl)
def IC:=[o 2 (.alloc (.agg [.int .i64 0,.int .i64 0,.int .i64 0,.int .i64 0,.int .i64 0,.int .i64 0]))]
def ID:=[o 3 (.alloc (.agg [.int .i64 0,.int .i64 0,.int .i64 0,.int .i64 0,.int .i64 0,.int .i64 0]))]
def IE:=[bg 4 5]
def IF:=[m 5 4,o 6 (.bin .geq (.t 5) (aj 0))]
def IG:=[m 9 4,m 10 0,o 11 (.bin .rem (.t 10) (aj 5)),o 12 (.ia 6 1 (.t 3) (.t 9)),p (.bl none (.t 12) (.t 11))]
def IH:=[m 13 0,o 14 (.bin .quo (.t 13) (aj 5)),m 0 14]
def II:=[m 7 4,o 8 (.bin .sub (.t 7) (aj 1)),m 4 8]
def IJ:=[aC 15 6 3,p (.bl (some 6) (.t 2) (.t 15))]
def B1:aP:=(s (r IC) (s (r ID) (s (s (r IE) (.block 0 (.loop (s (s (r IF) (.cond (.t 6) .skip (.exit 0))) (s (.block 1 (s (r IG) (r IH))) (r II)))))) (s (r IJ) .ret))))
def MY:List a6:=[.cell 2 (some 6)]
theorem Ux:bE Tryz.prog Tryz.f86 B1:=e (by kernel_rfl)
theorem WB:bF Tryz.prog Tryz.f86 MY:=e (by kernel_rfl)
theorem SF:bC Tryz.prog 86:=e (by kernel_rfl)
def IK:=[b 2 0,b 3 1,o 4 (.mv bh)]
def IL:=[bg 5 0]
def IM:=[m 6 5,f 7 2 6 2,l 8 7,o 9 (.len (.t 8)),lt 10 6 9]
def IN:=[f 13 0 0 2,aC 14 5 13,f 15 2 6 2,l 16 15,m 17 5,o 18 (.is 7 (.t 16) (.t 17)),f 19 1 1 18,aC 20 6 19,aC 21 6 3,o 22 (.call 129 [.t 14,.t 20,.t 21]),f 23 1 5 2,l 24 23,o 25 (.bin .mul (aj 2) (.t 24)),o 26 (.bin .leq (.t 22) (.t 25))]
def XB:=some [[],[0],[],[2],[],[3,4],[5],[6],[],[1,7,8],[],[10],[11],[9,12]]
def IP:=[o 4 (.mv T)]
def IQ:=[m 11 5,ad 12 11 1,m 5 12]
def IS:=[o 4 (.mv bh)]
def B3:aP:=(s (r IK) (s (s (r IL) (.block 0 (.loop (s (s (r IM) (.cond (.t 10) .skip (.exit 0))) (s (.block 1 (s (.cg XB IN) (.cond (.t 26) (s (r IP) .ret) .skip))) (r IQ)))))) (s (r IS) .ret)))
def MZ:List a6:=[.tmp 4]
theorem Uy:bE Tryz.prog Tryz.f87 B3:=e (by kernel_rfl)
theorem WC:bF Tryz.prog Tryz.f87 MZ:=e (by kernel_rfl)
theorem SG:bC Tryz.prog 87:=e (by kernel_rfl)
def IT:=[b 3 0,b 4 1,o 6 (.mv (.c (.nilp))),o 7 (.mv (.c (.nils 1)))]
def IU:=[o 8 (.alloc (.nils 1)),o 9 (.mv (.c (.nils 1)))]
def IZ:=[l 15 3,m 16 2,o 17 (.call 105 [.t 15,.t 16])]
def ae9:=[m 10 18]
def afa:=[l 19 3,m 20 10,o 21 (.is 17 (.t 19) (.t 20)),f 22 1 2 21,l 23 22,o 24 (.bin .neq (.t 23) (aj 0)),m 25 24,ee 26 3 25,dj 27 10 25,bQ 28 (.is 17 (.t 26) (.t 27)) 25,dx 29 2 3 28 25,ee 30 29 25,ee 31 4 25,bQ 32 (.bin .leq (.t 30) (.t 31)) 25,and 33 25 32]
def XC:=some [[],[],[0,1],[2],[3],[4],[5],[6],[6],[7,8,6],[9,6],[10,6],[6],[11,12,6],[6,13]]
def afb:=[l 34 8,m 35 10,o 36 (.bs 3 1 [.t 35]),o 37 (.dN 3 1 8 (.int .i64 0) (.t 34) (.t 36)),p (.bl none (.t 8) (.t 37))]
def wL:=[l 38 8,o 39 (.mk 138 [.t 3]),o 40 (.call 137 [.t 38,.t 39])]
def wM:=[o 41 (.jB),o 42 (.bld [.raw (.map none)] [(0,(.t 41))]),b 43 42,m 11 43]
def wN:=[o 44 (.call 139 []),m 12 44]
def wO:=[l 45 8,o 46 (.len (.t 45)),bg 47 0]
def sU:=[lt 48 47 46]
def wK:=[o 49 (.is 1 (.t 45) (.t 47)),l 50 49,m 14 50]
def sV:=[m 51 12,l 52 3,m 53 14,o 54 (.is 17 (.t 52) (.t 53)),f 55 1 2 54,l 56 55,o 57 (.lk (.i .i64) (.df) false (.t 51) (.t 56)),m 58 11,l 59 3,m 60 14,o 61 (.is 17 (.t 59) (.t 60)),aC 62 17 61,o 63 (.eF (.t 57) [.t 58,.t 62]),no 64 63]
def CE:=some [[],[],[],[1,2],[3],[4],[0,5],[],[],[],[8,9],[10],[6,7,11],[12]]
def IV:=[m 65 9,m 66 14,o 67 (.bs 3 1 [.t 66]),o 68 (.dN 3 1 8 (.int .i64 0) (.t 65) (.t 67)),m 9 68]
def IW:=[ad 69 47 1,m 47 69]
def IX:=[m 70 9,o 71 (.call 107 [.t 70])]
def IY:=[m 72 11,m 73 9,m 6 72,m 7 73]
def B4:aP:=(s (r IT) (s (r IU) (s (s (r IZ) (.block 0 (.j0 (.t 17) [18] (r ae9) (.block 1 (s (.cg XC afa) (.cond (.t 33) (r afb) .skip)))))) (s (r wL) (s (r wM) (s (r wN) (s (s (r wO) (.block 2 (.loop (s (r sU) (s (.cond (.t 48) .skip (.exit 2)) (s (.block 3 (s (r wK) (s (.cg CE sV) (.cond (.t 64) (r IV) .skip)))) (r IW))))))) (s (r IX) (s (r IY) .ret)))))))))
def M0:List a6:=[.tmp 6,.tmp 7]
theorem Uz:bE Tryz.prog Tryz.f88 B4:=e (by kernel_rfl)
theorem WD:bF Tryz.prog Tryz.f88 M0:=e (by kernel_rfl)
theorem SH:bC Tryz.prog 88:=e (by kernel_rfl)
def afc:=[o 2 (.mv bh)]
def afd:=[m 3 0,o 4 (.call 90 [.t 3]),no 5 4,m 2 5]
def B5:aP:=(s (r afc) (s (r afd) .ret))
def M2:List a6:=[.tmp 2]
theorem UA:bE Tryz.prog Tryz.f89 B5:=e (by kernel_rfl)
theorem WE:bF Tryz.prog Tryz.f89 M2:=e (by kernel_rfl)
theorem SI:bC Tryz.prog 89:=e (by kernel_rfl)
def afe:=[o 2 (.mv bh)]
def aff:=[m 3 0,o 4 (.nilC (.t 3)),f 5 0 0 4,f 6 6 6 5,l 7 6,o 8 (.bin .geq (.t 7) (aj 0)),m 2 8]
def B6:aP:=(s (r afe) (s (r aff) .ret))
def M3:List a6:=[.tmp 2]
theorem UB:bE Tryz.prog Tryz.f90 B6:=e (by kernel_rfl)
theorem WG:bF Tryz.prog Tryz.f90 M3:=e (by kernel_rfl)
theorem SJ:bC Tryz.prog 90:=e (by kernel_rfl)
def afg:=[o 4 (.mv bh)]
def afh:=[m 5 0,o 6 (.call 90 [.t 5]),no 7 6,m 8 7,dj 9 0 8,bQ 10 (.nilC (.t 9)) 8,dx 11 0 0 10 8,dx 12 3 3 11 8,ee 13 12 8,ee 14 1 8,bQ 15 (.bin .eql (.t 13) (.t 14)) 8,and 16 8 15,m 17 16,dj 18 0 17,bQ 19 (.nilC (.t 18)) 17,dx 20 0 0 19 17,dx 21 1 1 20 17,ee 22 21 17,ee 23 2 17,bQ 24 (.bin .eql (.t 22) (.t 23)) 17,and 25 17 24,m 4 25]
def XD:=some [[],[0],[1],[2,1],[3],[4,3],[5,3],[6,3],[7,3],[3],[8,9,3],[3,10],[11,3],[12],[13,12],[14,12],[15,12],[16,12],[12],[17,18,12],[12,19],[20,12,0,1,2,3,4,5,6,7,8,9,10,11,12,13,14,15,16,17,18,19,20]]
def B7:aP:=(s (r afg) (s (.cg XD afh) .ret))
def M4:List a6:=[.tmp 4]
theorem UC:bE Tryz.prog Tryz.f91 B7:=e (by kernel_rfl)
theorem WH:bF Tryz.prog Tryz.f91 M4:=e (by kernel_rfl)
theorem SK:bC Tryz.prog 91:=e (by kernel_rfl)
def I0:=[o 6 (.mv bh)]
def I1:=[m 7 1,m 8 0,o 9 (.bin .leq (.t 7) (.t 8)),m 10 9,dj 11 0 10,dj 12 2 10,bQ 13 (.bin .leq (.t 11) (.t 12)) 10,and 14 10 13,m 6 14]
def B8:aP:=(s (r I0) (s (r I1) .ret))
def M5:List a6:=[.tmp 6]
theorem UD:bE Tryz.prog Tryz.f94 B8:=e (by kernel_rfl)
theorem WI:bF Tryz.prog Tryz.f94 M5:=e (by kernel_rfl)
theorem SL:bC Tryz.prog 94:=e (by kernel_rfl)
def afi:=[l 7 1,m 8 0,o 9 (.lk (.i .i64) (.bool false) false (.t 7) (.t 8))]
def afj:=[l 10 1,m 11 0,p (.gv (.i .i64) (.t 10) (.t 11) T)]
def afk:=[l 12 2,o 13 (.nilC (.t 12)),f 14 0 0 13,l 15 14,o 16 (.j4 (.t 15))]
def wP:=[o 17 (.iF (.t 16)),o 18 (.ext (.t 17) 0)]
def afl:=[o 19 (.ent (.t 16)),o 20 (.ext (.t 19) 0),o 21 (.ext (.t 19) 1),m 5 20,m 6 21]
def afm:=[m 22 6,o 23 (.nilC (.t 22)),f 24 0 0 23,f 25 2 2 24,l 26 25,m 27 0,o 28 (.bin .eql (.t 26) (.t 27))]
def afn:=[l 29 3,m 30 5,o 31 (.eF (.t 29) [.t 30])]
def B9:aP:=(s (s (r afi) (.cond (.t 9) .ret .skip)) (s (r afj) (s (r afk) (.block 0 (.loop (s (r wP) (s (.cond (.t 18) .skip (.exit 0)) (.block 1 (s (r afl) (s (r afm) (.cond (.t 28) (r afn) .skip)))))))))))
def M6:List a6:=[]
theorem UE:bE Tryz.prog Tryz.f95 B9:=e (by kernel_rfl)
theorem WJ:bF Tryz.prog Tryz.f95 M6:=e (by kernel_rfl)
theorem SM:bC Tryz.prog 95:=e (by kernel_rfl)
def afo:=[o 3 (.mv bh)]
def afp:=[l 4 1,m 5 0,o 6 (.nilC (.t 5)),f 7 0 0 6,f 8 0 0 7,l 9 8,o 10 (.lk (.i .i64) (.bool false) false (.t 4) (.t 9)),m 3 10]
def XE:=some [[],[],[1],[2],[3],[4],[0,5],[6,0,1,2,3,4,5,6]]
def Ca:aP:=(s (r afo) (s (.cg XE afp) .ret))
def M7:List a6:=[.tmp 3]
theorem UF:bE Tryz.prog Tryz.f96 Ca:=e (by kernel_rfl)
theorem WK:bF Tryz.prog Tryz.f96 M7:=e (by kernel_rfl)
theorem SN:bC Tryz.prog 96:=e (by kernel_rfl)
def I2:=[b 3 0,b 4 1,o 6 (.alloc (.agg [.int .i64 0,.int .i64 0,.int .i64 0,.int .i64 0,.int .i64 0,.int .i64 0])),bg 7 0]
def I3:=[aC 11 5 3,o 12 (.call 99 [.t 11]),o 13 (.bin .neq (.t 12) (aj 0))]
def I6:=[o 14 (.bld [.int .i64 0,.int .i64 0,.int .i64 0,.int .i64 0,.int .i64 0,.int .i64 0] []),p (.bl (some 6) (.t 6) (.t 14)),bg 7 11]
def I7:=[aC 15 6 4,o 16 (.call 100 [.t 15]),o 17 (.bin .neq (.t 16) (aj 0))]
def I8:=[o 18 (.bld [.int .i64 0,.int .i64 0,.int .i64 0,.int .i64 0,.int .i64 0,.int .i64 0] []),p (.bl (some 6) (.t 6) (.t 18)),bg 7 10]
def I9:=[o 8 (.alloc (.agg [.int .i64 0,.int .i64 0,.int .i64 0,.int .i64 0,.int .i64 0,.int .i64 0]))]
def Ja:=[bg 9 0]
def Jb:=[m 19 9,o 20 (.bin .lss (.t 19) (aj 6))]
def Jc:=[m 23 9,o 24 (.ia 6 1 (.t 4) (.t 23)),l 25 24,o 26 (.ia 5 1 (.t 3) (.t 25)),l 27 26,o 28 (.call 141 [.t 27]),m 10 28]
def Jd:=[m 29 9,m 30 10,m 31 2,m 32 9,o 33 (.call 34 [.t 31,.t 32]),m 34 10,o 35 (.len (.t 34)),o 36 (.call 25 [.t 33,.t 35]),o 37 (.is 1 (.t 30) (.t 36)),l 38 37,o 39 (.bin .shl (aj 1) (.t 38)),o 40 (.ia 6 1 (.t 8) (.t 29)),p (.bl none (.t 40) (.t 39))]
def I4:=[m 21 9,ad 22 21 1,m 9 22]
def I5:=[aC 41 6 8,p (.bl (some 6) (.t 6) (.t 41)),bg 7 0]
def Cb:aP:=(s (r I2) (s (s (r I3) (.cond (.t 13) (s (r I6) .ret) .skip)) (s (s (r I7) (.cond (.t 17) (s (r I8) .ret) .skip)) (s (r I9) (s (s (r Ja) (.block 0 (.loop (s (s (r Jb) (.cond (.t 20) .skip (.exit 0))) (s (.block 1 (s (r Jc) (r Jd))) (r I4)))))) (s (r I5) .ret))))))
def M8:List a6:=[.cell 6 (some 6),.tmp 7]
theorem UG:bE Tryz.prog Tryz.f98 Cb:=e (by kernel_rfl)
theorem WL:bF Tryz.prog Tryz.f98 M8:=e (by kernel_rfl)
theorem SO:bC Tryz.prog 98:=e (by kernel_rfl)
def Je:=[b 1 0,bg 2 0]
def Jf:=[bg 3 0]
def Jg:=[m 4 3,o 5 (.bin .lss (.t 4) (aj 5))]
def Jh:=[m 8 3,o 9 (.ia 5 1 (.t 1) (.t 8)),l 10 9,o 11 (.call 94 [.t 10,(aj 0),(aj 31)]),no 12 11,m 13 12,fo 14 3 13,on 15 (.ia 5 1 (.t 1) (.t 14)) 13,jz 16 15 13,fo 17 3 13,on 18 (.bin .shl (aj 1) (.t 17)) 13,on 19 (.bin .and (.t 16) (.t 18)) 13,on 20 (.bin .eql (.t 19) (aj 0)) 13,or 21 13 20]
def XF:=some [[],[0],[1],[2],[3],[4,3],[5],[6,5],[7,5],[5],[9,5],[8,10,5],[11,5],[5,12]]
def wQ:=[bg 2 11]
def Ji:=[m 6 3,ad 7 6 1,m 3 7]
def Jj:=[bg 2 0]
def Cc:aP:=(s (r Je) (s (s (r Jf) (.block 0 (.loop (s (s (r Jg) (.cond (.t 5) .skip (.exit 0))) (s (.block 1 (s (.cg XF Jh) (.cond (.t 21) (s (r wQ) .ret) .skip))) (r Ji)))))) (s (r Jj) .ret)))
def M9:List a6:=[.tmp 2]
theorem UH:bE Tryz.prog Tryz.f99 Cc:=e (by kernel_rfl)
theorem WM:bF Tryz.prog Tryz.f99 M9:=e (by kernel_rfl)
theorem SP:bC Tryz.prog 99:=e (by kernel_rfl)
def Du:=[b 1 0,bg 2 0]
def Dv:=[bg 3 0]
def Dw:=[m 4 3,o 5 (.bin .lss (.t 4) (aj 6))]
def Dy:=[m 8 3,o 9 (.ia 6 1 (.t 1) (.t 8)),l 10 9,o 11 (.call 94 [.t 10,(aj 0),(aj 4)]),no 12 11]
def Dz:=[bg 2 10]
def DA:=[m 6 3,ad 7 6 1,m 3 7]
def DB:=[bg 2 0]
def An:aP:=(s (r Du) (s (s (r Dv) (.block 0 (.loop (s (s (r Dw) (.cond (.t 5) .skip (.exit 0))) (s (.block 1 (s (r Dy) (.cond (.t 12) (s (r Dz) .ret) .skip))) (r DA)))))) (s (r DB) .ret)))
def Lm:List a6:=[.tmp 2]
theorem SV:bE Tryz.prog Tryz.f100 An:=e (by kernel_rfl)
theorem U2:bF Tryz.prog Tryz.f100 Lm:=e (by kernel_rfl)
theorem Q6:bC Tryz.prog 100:=e (by kernel_rfl)
def DC:=[b 3 0,b 4 1,b 5 2,bg 6 0]
def DE:=[bg 7 0]
def DF:=[bg 8 0]
def DG:=[m 9 8,o 10 (.bin .lss (.t 9) (aj 6))]
def DH:=[m 13 8,o 14 (.ia 6 1 (.t 4) (.t 13)),l 15 14,o 16 (.ia 5 1 (.t 3) (.t 15)),l 17 16,m 18 8,o 19 (.ia 6 1 (.t 5) (.t 18)),l 20 19,o 21 (.bin .and (.t 17) (.t 20)),o 22 (.bin .eql (.t 21) (aj 0))]
def WQ:=some [[],[0],[1],[2],[3],[],[5],[6],[4,7],[8]]
def DI:=[m 23 7,ad 24 23 1,m 7 24]
def vP:=[m 11 8,ad 12 11 1,m 8 12]
def DJ:=[m 25 7,m 6 25]
def Ao:aP:=(s (r DC) (s (r DE) (s (s (r DF) (.block 0 (.loop (s (s (r DG) (.cond (.t 10) .skip (.exit 0))) (s (.block 1 (s (.cg WQ DH) (.cond (.t 22) (r DI) .skip))) (r vP)))))) (s (r DJ) .ret))))
def Ln:List a6:=[.tmp 6]
theorem SW:bE Tryz.prog Tryz.f102 Ao:=e (by kernel_rfl)
theorem U3:bF Tryz.prog Tryz.f102 Ln:=e (by kernel_rfl)
theorem Q7:bC Tryz.prog 102:=e (by kernel_rfl)
def DK:=[b 2 0,b 3 1,o 4 (.mv (.c (.df)))]
def DL:=[o 9 (.jB),o 5 (.alloc (.raw (.map none))),p (.bl none (.t 5) (.t 9))]
def DM:=[l 10 2,o 11 (.len (.t 10)),o 12 (.kp 4 1 (.bool false) (.t 11)),o 6 (.alloc (.nils 1)),p (.bl none (.t 6) (.t 12))]
def DN:=[l 13 2,o 14 (.call 145 [.t 13])]
def YT:=[m 7 15]
def YU:=[o 8 (.alloc (.agg [.agg [.int .i64 0,.int .i64 0],.int .i64 0,.int .i64 0,.int .i64 0,.int .i64 0,.int .i64 0,.int .i64 0,.int .i64 0,.agg [.int .i64 0,.int .i64 0,.int .i64 0,.int .i64 0,.int .i64 0,.int .i64 0],.agg [.int .i64 0,.int .i64 0]])),p (.bl (some 17) (.t 8) (.t 16))]
def YV:=[l 17 6,m 18 7,f 19 3 4 8,l 20 19,l 21 3,o 22 (.bin .leq (.t 20) (.t 21)),m 23 22,ee 24 5 23,dx 25 0 0 8 23,bQ 26 (.ld (some 2) (.t 25)) 23,bQ 27 (.lk (.bl [(.i .i64),(.i .i64)]) (.bool false) false (.t 24) (.t 26)) 23,bQ 28 (.un .not (.t 27)) 23,and 29 23 28,o 30 (.is 1 (.t 17) (.t 18)),p (.bl none (.t 30) (.t 29))]
def WR:=some [[],[],[],[2],[],[3,4],[5],[6],[6],[8,6],[7,9,6],[10,6],[6,11],[0,1,0,1,2,3,4,5,6,7,8,9,10,11,12],[13,12,6,0,1,2,3,4,5,6,7,8,9,10,11,12]]
def YW:=[l 31 6,m 32 7,o 33 (.is 1 (.t 31) (.t 32)),l 34 33,m 35 34,dx 36 1 2 8 35,ee 37 36 35,bQ 38 (.bin .eql (.t 37) (aj 0)) 35,and 39 35 38]
def YX:=[l 40 5,f 41 9 15 8,aC 42 2 41,p (.gv (.bl [(.i .i64),(.i .i64)]) (.t 40) (.t 42) T)]
def YY:=[o 43 (.mk 146 [.t 2,.t 6]),m 4 43]
def Ap:aP:=(s (r DK) (s (r DL) (s (r DM) (s (s (r DN) (.block 0 (.j0 (.t 14) [15,16] (s (r YT) (r YU)) (.block 1 (s (.cg WR YV) (s (r YW) (.cond (.t 39) (r YX) .skip))))))) (s (r YY) .ret)))))
def Lo:List a6:=[.tmp 4]
theorem SX:bE Tryz.prog Tryz.f105 Ap:=e (by kernel_rfl)
theorem U4:bF Tryz.prog Tryz.f105 Lo:=e (by kernel_rfl)
theorem Q8:bC Tryz.prog 105:=e (by kernel_rfl)
theorem Cd:bC Tryz.prog 107:=e (by kernel_rfl)
end Go.Proofs.YtcldiigclhgafaaGreat
namespace Go.Abs
open Go Go.RowKit
def sx(on:List (List Nat)):List Nat:=on.foldl (fun acc ks=>acc++[oZ acc ks]) []
def vx(d:Option (List (List Nat)))(gs:List az):Bool:=match d with
 |none=>true
 |some on=>sC on gs (sx on)
section
variable {c:cS} {Q:Exit→ae→Prop} {A:ae} {d:Option (List (List Nat))} {on:List (List Nat)} {gs:List az}
theorem J.bu(hd:vx d gs=true)(h:∀ K:ae→Prop,(∀ B,Q .normal B→K B)→bj c.P c.Y d.isSome K (ay gs A)):J c (.cg d gs) Q A:=by
 cases d with
 |none=>exact J.cg (cl:=[]) rfl h
 |some on=>exact J.cg (cl:=sx on) hd h
theorem J.ao{y:aP}(hd:vx d gs=true)(h:∀ K:ae→Prop,(∀ B,J c y Q B→K B)→bj c.P c.Y d.isSome K (ay gs A)):J c (.seq (.cg d gs) y) Q A :=
 J.seq (J.bu hd h)
theorem J.ua(hs:List FuncId)(aC:eZ)(σ:List Nat)(hd:tP hs aC on gs (sx on) σ=true)(hi:fh aC A)(h:∀ K:ae→Prop,(∀ B,Q .normal B→K B)→cF c.P hs K (ay (p9 σ gs) A)):J c (.cg (some on) gs) Q A :=
 J.ajl hs aC (sx on) σ hd hi h
def gC(c:cS):aP→(Exit→ae→Prop)→ae→Prop
 | .seq x y,Q,A=>gC c x (ar (fun B=>J c y Q B) Q) A
 | .block id x,Q,A=>gC c x (bL id Q) A
 | .skip,Q,A=>Q .normal A
 | .exit id,Q,A=>Q (.exit id) A
 | .ret,Q,A=>Q .ret A
 | .cond b x y,Q,A=>aq (af A b) (J c x Q A) (J c y Q A)
 |x,Q,A=>J c x Q A
def agA:aP→Bool
 | .seq _ _ | .block _ _ | .skip | .exit _ | .ret | .cond _ _ _=>true
 |_=>false
theorem gC.u0:∀ (x:aP) {Q:Exit→ae→Prop} {A:ae},gC c x Q A→J c x Q A
 | .seq x y,_,_,h=>J.seq (gC.u0 x h)
 | .block id x,_,_,h=>J.block (gC.u0 x h)
 | .skip,_,_,h=>J.skip h
 | .exit _,_,_,h=>J.exit h
 | .ret,_,_,h=>J.ret h
 | .cond _ _ _,_,_,h=>J.bH h
 | .cg _ _,_,_,h | .loop _,_,_,h | .scope _,_,_,h | .label,_,_,h | .m8,_,_,h | .j0 _ _ _ _,_,_,h=>h
theorem J.of{x:aP}(_:agA x=true)(h:gC c x Q A):J c x Q A:=gC.u0 x h
theorem aU :
  (∀ c x y Q A,gC c (.seq x y) Q A=gC c x (ar (fun B=>J c y Q B) Q) A)∧(∀ c id x Q A,gC c (.block id x) Q A=gC c x (bL id Q) A)∧(∀ c Q A,gC c .skip Q A=Q .normal A)∧(∀ c id Q A,gC c (.exit id) Q A=Q (.exit id) A)∧(∀ c Q A,gC c .ret Q A=Q .ret A) ∧
  (∀ c b x y Q A,gC c (.cond b x y) Q A=aq (af A b) (J c x Q A) (J c y Q A))∧(∀ c d gs Q A,gC c (.cg d gs) Q A=J c (.cg d gs) Q A)∧(∀ c x Q A,gC c (.loop x) Q A=J c (.loop x) Q A)∧(∀ c f ps x y Q A,gC c (.j0 f ps x y) Q A=J c (.j0 f ps x y) Q A) ∧
  (∀ k Q A,ar k Q .normal A=k A)∧(∀ k Q A,ar k Q .ret A=Q .ret A)∧(∀ k Q A i,ar k Q (.exit i) A=Q (.exit i) A)∧(∀ i Q A,bL i Q .normal A=Q .normal A)∧(∀ i Q A,bL i Q .ret A=Q .ret A)∧(∀ i Q A j,bL i Q (.exit j) A=if j=i then Q .normal A else Q (.exit j) A) ∧
  (∀ p q,aq (.bool true) p q=p)∧(∀ p q,aq (.bool false) p q=q)∧(type_of% @xt) :=
 ⟨fun _ _ _ _ _=>rfl,fun _ _ _ _ _=>rfl,fun _ _ _=>rfl,fun _ _ _ _=>rfl,fun _ _ _=>rfl,fun _ _ _ _ _ _=>rfl,fun _ _ _ _ _=>rfl,fun _ _ _ _=>rfl,fun _ _ _ _ _ _ _=>rfl,fun _ _ _=>rfl,fun _ _ _=>rfl,fun _ _ _ _=>rfl,fun _ _ _=>rfl,fun _ _ _=>rfl,fun _ _ _ _=>rfl,
  fun p q=>by simp[aq],fun p q=>by simp[aq],xt⟩
theorem aq.aQ{t:Bool}{p q:Prop}(h1:t=true→p)(h2:t=false→q):aq (.bool t) p q:=⟨h1,h2⟩
theorem J.aT{g:az}{r:List az}(hd:vx d gs=true)(e:gs=g::r)(h:∀ K:ae→Prop,(∀ B,Q .normal B→K B)→bj c.P c.Y d.isSome K (ay (g::r) A)):J c (.cg d gs) Q A :=
 J.bu hd (e▸h)
theorem bj.aH(aC:List Nat){P:Program}{Y:Value→List I→List (Nat×ai)→cT→Prop}{dr:Bool}{x:aP}{K:ae→Prop}{ts:List (Nat×I)}{os:List (Nat×ai)}(hK:∀ B,J c x Q B→K B)(h:J c x Q (au (gW aC ts) os)):bj P Y dr K (.done (au ts os)) :=
 .done (hK _ (J.fR aC h))
theorem cF.aH(aC:List Nat){P:Program}{hs:List FuncId}{x:aP}{K:ae→Prop}{ts:List (Nat×I)}{os:List (Nat×ai)}(hK:∀ B,J c x Q B→K B)(h:J c x Q (au (gW aC ts) os)):cF P hs K (.done (au ts os)) :=
 .done (hK _ (J.fR aC h))
end
end Go.Abs
namespace Go.Proofs.YtcldiigclhgafaaGreat
open Go Go.Abs Go.Abs.C
def DO:=[o 6 (.mv bh)]
def DP:=[m 7 1,m 8 0,o 9 (.bin .leq (.t 7) (.t 8)),m 10 9,dj 11 0 10,dj 12 2 10,bQ 13 (.bin .leq (.t 11) (.t 12)) 10,and 14 10 13,m 6 14]
def Aq:aP:=(s (r DO) (s (r DP) .ret))
def Lp:List a6:=[.tmp 6]
theorem SY:bE Tryz.prog Tryz.f114 Aq:=e (by kernel_rfl)
theorem U5:bF Tryz.prog Tryz.f114 Lp:=e (by kernel_rfl)
theorem Q9:bC Tryz.prog 114:=e (by kernel_rfl)
def DQ:=[b 1 0,o 2 (.mv bh)]
def DR:=[f 3 0 0 1,l 4 3,o 5 (.call 114 [.t 4,(aj 0),(aj 5)]),m 6 5,dx 7 1 1 1 6,ee 8 7 6,bQ 9 (.call 114 [.t 8,(aj 0),(aj 9999)]) 6,and 10 6 9,m 2 10]
def Ar:aP:=(s (r DQ) (s (r DR) .ret))
def Lq:List a6:=[.tmp 2]
theorem SZ:bE Tryz.prog Tryz.f115 Ar:=e (by kernel_rfl)
theorem U6:bF Tryz.prog Tryz.f115 Lq:=e (by kernel_rfl)
theorem Ra:bC Tryz.prog 115:=e (by kernel_rfl)
def DS:=[b 1 0,o 2 (.mv bh)]
def DT:=[f 5 0 0 1,aC 6 2 5,f 7 1 2 1,l 8 7,f 9 2 3 1,l 10 9,f 11 3 4 1,l 12 11,f 13 4 5 1,l 14 13,o 15 (.bld [.agg [.int .i64 0,.int .i64 0],.int .i64 0,.int .i64 0,.int .i64 0,.int .i64 0,.int .i64 0,.int .i64 0,.int .i64 0,.agg [.int .i64 0,.int .i64 0,.int .i64 0,.int .i64 0,.int .i64 0,.int .i64 0],.agg [.int .i64 0,.int .i64 0]] [(0,(.t 6)),(1,(.t 8)),(2,(.t 10)),(3,(.t 12)),(4,(.t 14))]),o 3 (.alloc (.agg [.agg [.int .i64 0,.int .i64 0],.int .i64 0,.int .i64 0,.int .i64 0,.int .i64 0,.int .i64 0,.int .i64 0,.int .i64 0,.agg [.int .i64 0,.int .i64 0,.int .i64 0,.int .i64 0,.int .i64 0,.int .i64 0],.agg [.int .i64 0,.int .i64 0]])),p (.bl (some 17) (.t 3) (.t 15))]
def DU:=[f 16 4 5 1,l 17 16,o 18 (.call 154 [.t 17]),m 4 18]
def Zc:=[f 19 1 2 1,l 20 19]
def Zd:=[o 22 (.bin .eql (.t 20) (aj 0)),m 21 22]
def vQ:=[f 23 9 15 1,aC 24 2 23,f 25 4 5 3,p (.bl none (.t 25) (aj 0)),f 26 9 15 3,p (.bl (some 2) (.t 26) (.t 24))]
def WS:=some [[],[0],[],[2],[0,1,2,3],[4,1,3,0,1,2,3]] -- DRAW BAD
def Ze:=[f 27 2 3 1,l 28 27,o 29 (.bin .eql (.t 28) (aj 0)),m 30 29,dx 31 9 15 1 30,bQ 32 (.ld (some 2) (.t 31)) 30,bQ 33 (.call 115 [.t 32]) 30,and 34 30 33,m 35 34,dx 36 9 15 1 35,dx 37 0 0 36 35,ee 38 37 35,dx 39 0 0 1 35,dx 40 0 0 39 35,ee 41 40 35,bQ 42 (.bin .eql (.t 38) (.t 41)) 35,and 43 35 42,m 44 43,dx 45 9 15 1 44,dx 46 1 1 45 44,ee 47 46 44,dx 48 0 0 1 44,dx 49 1 1 48 44,ee 50 49 44,bQ 51 (.bin .lss (.t 47) (.t 50)) 44,and 52 44 51,m 4 52]
def Zf:=[o 54 (.bin .eql (.t 20) (aj 1)),m 53 54]
def vR:=[f 55 6 7 1,l 56 55,f 57 7 8 1,l 58 57,f 59 5 6 1,l 60 59,f 61 6 7 3,p (.bl none (.t 61) (.t 56)),f 62 7 8 3,p (.bl none (.t 62) (.t 58)),f 63 5 6 3,p (.bl none (.t 63) (.t 60))]
def WT:=some [[],[0],[],[2],[],[4],[0,1],[6,1,0,1],[0,1,2,3,6,7],[8,3,7,0,1,2,3,6,7],[0,1,2,3,4,5,6,7,8,9],[10,5,9,0,1,2,3,4,5,6,7,8,9]] -- DRAW BAD
def Zg:=[m 64 4,m 65 64,dx 66 6 7 1 65,ee 67 66 65,bQ 68 (.call 155 [.t 67]) 65,and 69 65 68,m 70 69,dx 71 7 8 1 70,ee 72 71 70,bQ 73 (.call 156 [.t 72]) 70,and 74 70 73,m 75 74,dx 76 5 6 1 75,ee 77 76 75,bQ 78 (.call 114 [.t 77,(aj 0),(aj 9999)]) 75,and 79 75 78,m 80 79,dx 81 5 6 1 80,ee 82 81 80,dx 83 4 5 1 80,ee 84 83 80,bQ 85 (.bin .neq (.t 82) (.t 84)) 80,and 86 80 85,m 4 86]
def YZ:=[o 88 (.bin .eql (.t 20) (aj 2)),m 87 88]
def Y0:=[f 89 6 7 1,l 90 89,f 91 6 7 3,p (.bl none (.t 91) (.t 90))]
def Y1:=[m 92 4,m 93 92,dx 94 6 7 1 93,ee 95 94 93,bQ 96 (.call 155 [.t 95]) 93,and 97 93 96,m 4 97]
def Y2:=[o 99 (.bin .eql (.t 20) (aj 3)),m 98 99]
def Y3:=[o 100 (.bin .eql (.t 20) (aj 5)),m 98 100]
def Y4:=[f 101 7 8 1,l 102 101,f 103 7 8 3,p (.bl none (.t 103) (.t 102))]
def Y5:=[m 104 4,m 105 104,dx 106 7 8 1 105,ee 107 106 105,bQ 108 (.call 156 [.t 107]) 105,and 109 105 108,m 4 109]
def Y6:=[o 111 (.bin .eql (.t 20) (aj 4)),m 110 111]
def Y7:=[f 112 8 9 1,aC 113 6 112,f 114 8 9 3,p (.bl (some 6) (.t 114) (.t 113))]
def Y8:=[m 115 4,m 116 115,dx 117 8 9 1 116,bQ 118 (.ld (some 6) (.t 117)) 116,bQ 119 (.call 157 [.t 118]) 116,bQ 120 (.bin .eql (.t 119) (aj 0)) 116,and 121 116 120,m 4 121]
def Y9:=[o 123 (.bin .eql (.t 20) (aj 6)),m 122 123]
def Za:=[o 2 (.mv bh)]
def Zb:=[m 124 4,m 125 124,bQ 126 (.ld (some 17) (.t 1)) 125,bQ 127 (.ld (some 17) (.t 3)) 125,bQ 128 (.eqv (.bl [(.bl [(.i .i64),(.i .i64)]),(.i .i64),(.i .i64),(.i .i64),(.i .i64),(.i .i64),(.i .i64),(.i .i64),(.kG 6 (.i .i64)),(.bl [(.i .i64),(.i .i64)])]) false (.t 126) (.t 127)) 125,and 129 125 128,m 130 129,dx 131 0 0 1 130,bQ 132 (.ld (some 2) (.t 131)) 130,bQ 133 (.call 115 [.t 132]) 130,and 134 130 133,m 135 134,dx 136 2 3 1 135,ee 137 136 135,bQ 138 (.call 127 [.t 137]) 135,and 139 135 138,m 140 139,dx 141 3 4 1 140,ee 142 141 140,bQ 143 (.call 127 [.t 142]) 140,and 144 140 143,m 2 144]
def As:aP:=(s (r DS) (s (r DT) (s (r DU) (s (s (r Zc) (.block 0 (s (r Zd) (.cond (.t 21) (s (.cg WS vQ) (r Ze)) (s (r Zf) (.cond (.t 53) (s (.cg WT vR) (r Zg)) (s (r YZ) (.cond (.t 87) (s (r Y0) (r Y1)) (s (s (r Y2) (.cond (.t 98) .skip (r Y3))) (.cond (.t 98) (s (r Y4) (r Y5)) (s (r Y6) (.cond (.t 110) (s (r Y7) (r Y8)) (s (r Y9) (.cond (.t 122) .skip (s (r Za) .ret))))))))))))))) (s (r Zb) .ret)))))
def Lr:List a6:=[.tmp 2]
theorem S0:bE Tryz.prog Tryz.f117 As:=e (by kernel_rfl)
theorem U7:bF Tryz.prog Tryz.f117 Lr:=e (by kernel_rfl)
theorem Rb:bC Tryz.prog 117:=e (by kernel_rfl)
def DV:=[b 2 0,b 3 1,bg 4 0]
def DW:=[f 5 0 0 2,l 6 5,f 7 0 0 3,l 8 7,o 9 (.call 159 [.t 6,.t 8]),f 10 1 1 2,l 11 10,f 12 1 1 3,l 13 12,o 14 (.call 159 [.t 11,.t 13]),o 15 (.bs 3 1 [.t 9,.t 14]),o 16 (.call 158 [.t 15]),m 4 16]
def WU:=some [[],[0],[],[2],[1,3],[],[5],[],[7],[6,8,4],[4,9],[10,9],[11,11,0,1,2,3,4,5,6,7,8,9,10,11]]
def Au:aP:=(s (r DV) (s (.cg WU DW) .ret))
def Ls:List a6:=[.tmp 4]
theorem S1:bE Tryz.prog Tryz.f118 Au:=e (by kernel_rfl)
theorem U8:bF Tryz.prog Tryz.f118 Ls:=e (by kernel_rfl)
theorem Rc:bC Tryz.prog 118:=e (by kernel_rfl)
def DX:=[b 1 0,o 2 (.mv bh)]
def DY:=[aC 6 5 1,bg 7 0]
def DZ:=[o 8 (.bin .lss (.t 7) (aj 5))]
def D4:=[m 9 7,o 10 (.ix 5 1 none (.t 6) (.t 7)),m 3 9,m 4 10]
def D5:=[m 11 4,m 5 11]
def D6:=[m 12 5,o 13 (.call 160 [.t 12]),no 14 13,m 15 14,fo 16 5 15,fo 17 3 15,on 18 (.call 161 [.t 16,.t 17]) 15,on 19 (.un .not (.t 18)) 15,or 20 15 19]
def vS:=[o 2 (.mv bh)]
def D7:=[ad 21 7 1,m 7 21]
def D8:=[o 2 (.mv T)]
def Av:aP:=(s (r DX) (s (s (r DY) (.block 0 (.loop (s (r DZ) (s (.cond (.t 8) .skip (.exit 0)) (s (.block 1 (s (r D4) (s (r D5) (s (r D6) (.cond (.t 20) (s (r vS) .ret) .skip))))) (r D7))))))) (s (r D8) .ret)))
def Lt:List a6:=[.tmp 2]
theorem S2:bE Tryz.prog Tryz.f120 Av:=e (by kernel_rfl)
theorem U9:bF Tryz.prog Tryz.f120 Lt:=e (by kernel_rfl)
theorem Re:bC Tryz.prog 120:=e (by kernel_rfl)
def D9:=[o 6 (.mv bh)]
def Ea:=[m 7 1,m 8 0,o 9 (.bin .leq (.t 7) (.t 8)),m 10 9,dj 11 0 10,dj 12 2 10,bQ 13 (.bin .leq (.t 11) (.t 12)) 10,and 14 10 13,m 6 14]
def Aw:aP:=(s (r D9) (s (r Ea) .ret))
def Lu:List a6:=[.tmp 6]
theorem S3:bE Tryz.prog Tryz.f121 Aw:=e (by kernel_rfl)
theorem Va:bF Tryz.prog Tryz.f121 Lu:=e (by kernel_rfl)
theorem Rf:bC Tryz.prog 121:=e (by kernel_rfl)
def Eb:=[o 2 (.mv bh)]
def Ec:=[m 3 0,o 4 (.call 121 [.t 3,(aj 1),(aj 99)]),m 2 4]
def Ax:aP:=(s (r Eb) (s (r Ec) .ret))
def Lv:List a6:=[.tmp 2]
theorem S4:bE Tryz.prog Tryz.f122 Ax:=e (by kernel_rfl)
theorem Vb:bF Tryz.prog Tryz.f122 Lv:=e (by kernel_rfl)
theorem Rg:bC Tryz.prog 122:=e (by kernel_rfl)
def Ed:=[b 1 0,o 2 (.mv bh)]
def Ee:=[o 3 (.va 6 1 (.t 1)),o 4 (.call 125 [.t 3,(.c (.func 162 []))]),no 5 4,m 2 5]
def Ay:aP:=(s (r Ed) (s (r Ee) .ret))
def Lw:List a6:=[.tmp 2]
theorem S5:bE Tryz.prog Tryz.f123 Ay:=e (by kernel_rfl)
theorem Vc:bF Tryz.prog Tryz.f123 Lw:=e (by kernel_rfl)
theorem Rh:bC Tryz.prog 123:=e (by kernel_rfl)
def Ef:=[b 3 0,b 5 2,o 6 (.mv bh)]
def Eg:=[m 7 1,o 8 (.mk 164 [.t 3,.t 5]),o 9 (.call 163 [.t 7,.t 8]),no 10 9,m 6 10]
def Az:aP:=(s (r Ef) (s (r Eg) .ret))
def Lx:List a6:=[.tmp 6]
theorem S6:bE Tryz.prog Tryz.f124 Az:=e (by kernel_rfl)
theorem Vd:bF Tryz.prog Tryz.f124 Lx:=e (by kernel_rfl)
theorem Ri:bC Tryz.prog 124:=e (by kernel_rfl)
def Ei:=[o 4 (.mv bh)]
def Ej:=[m 5 0,m 6 1,o 7 (.call 166 [.t 5,.t 6]),o 8 (.bin .geq (.t 7) (aj 0)),m 4 8]
def AA:aP:=(s (r Ei) (s (r Ej) .ret))
def Ly:List a6:=[.tmp 4]
theorem S7:bE Tryz.prog Tryz.f125 AA:=e (by kernel_rfl)
theorem Ve:bF Tryz.prog Tryz.f125 Ly:=e (by kernel_rfl)
theorem Rj:bC Tryz.prog 125:=e (by kernel_rfl)
def Zh:=[o 2 (.mv bh)]
def Zi:=[m 3 0,o 4 (.call 127 [.t 3]),no 5 4,m 2 5]
def AB:aP:=(s (r Zh) (s (r Zi) .ret))
def Lz:List a6:=[.tmp 2]
theorem S8:bE Tryz.prog Tryz.f126 AB:=e (by kernel_rfl)
theorem Vf:bF Tryz.prog Tryz.f126 Lz:=e (by kernel_rfl)
theorem Rk:bC Tryz.prog 126:=e (by kernel_rfl)
def Ek:=[o 2 (.mv bh)]
def El:=[m 3 0,o 4 (.call 114 [.t 3,(aj 0),(aj 100000)]),m 2 4]
def AD:aP:=(s (r Ek) (s (r El) .ret))
def LA:List a6:=[.tmp 2]
theorem S9:bE Tryz.prog Tryz.f127 AD:=e (by kernel_rfl)
theorem Vg:bF Tryz.prog Tryz.f127 LA:=e (by kernel_rfl)
theorem Rl:bC Tryz.prog 127:=e (by kernel_rfl)
def Em:=[b 2 0,o 4 (.mv (.c (.nils 1))),bg 5 0]
def En:=[aC 11 7 2,o 12 (.call 66 [.t 11]),m 6 12]
def vX:=[m 13 6,o 14 (.bin .neq (.t 13) (aj 0))]
def Eo:=[m 15 6,o 4 (.mv (.c (.nils 1))),m 5 15]
def Ep:=[m 16 1,o 17 (.len (.t 16)),o 18 (.bin .gtr (.t 17) (aj 60))]
def Er:=[o 4 (.mv (.c (.nils 1))),bg 5 2]
def Es:=[f 19 2 6 2,l 20 19,o 21 (.call 167 [.t 20]),m 7 21]
def vY:=[m 22 1,o 23 (.len (.t 22)),bg 24 0]
def vZ:=[lt 25 24 23]
def v7:=[o 26 (.is 6 (.t 22) (.t 24)),aC 27 6 26,o 9 (.alloc (.agg [.int .i64 0,.int .i64 0,.int .i64 0,.int .i64 0,.int .i64 0,.int .i64 0])),p (.bl (some 6) (.t 9) (.t 27))]
def vT:=[aC 28 6 9,o 29 (.call 157 [.t 28]),m 10 29]
def sO:=[m 30 10,o 31 (.bin .neq (.t 30) (aj 0))]
def vU:=[m 32 10,o 4 (.mv (.c (.nils 1))),m 5 32]
def vV:=[f 33 0 0 2,aC 34 5 33,f 35 1 5 2,l 36 35,m 37 7,o 38 (.bld [.agg [.int .i64 0,.int .i64 0,.int .i64 0,.int .i64 0,.int .i64 0],.int .i64 0,.nils 7] [(0,(.t 34)),(1,(.t 36)),(2,(.t 37))]),aC 39 6 9,o 40 (.call 168 [.t 38,.t 39]),m 7 40]
def sP:=[ad 41 24 1,m 24 41]
def vW:=[m 42 7,o 43 (.call 169 [.t 42]),m 4 43,bg 5 0]
def AE:aP:=(s (r Em) (s (s (r En) (s (r vX) (.cond (.t 14) (s (r Eo) .ret) .skip))) (s (s (r Ep) (.cond (.t 18) (s (r Er) .ret) .skip)) (s (r Es) (s (s (r vY) (.block 0 (.loop (s (r vZ) (s (.cond (.t 25) .skip (.exit 0)) (s (.block 1 (s (r v7) (s (s (r vT) (s (r sO) (.cond (.t 31) (s (r vU) .ret) .skip))) (r vV)))) (r sP))))))) (s (r vW) .ret))))))
def LB:List a6:=[.tmp 4,.tmp 5]
theorem Ta:bE Tryz.prog Tryz.f128 AE:=e (by kernel_rfl)
theorem Vh:bF Tryz.prog Tryz.f128 LB:=e (by kernel_rfl)
theorem Rm:bC Tryz.prog 128:=e (by kernel_rfl)
def Et:=[b 3 0,b 4 1,b 5 2,bg 6 0]
def Eu:=[bg 7 0]
def Ev:=[bg 8 0]
def Ew:=[m 9 8,o 10 (.bin .lss (.t 9) (aj 6))]
def Ey:=[m 13 8,o 14 (.ia 6 1 (.t 4) (.t 13)),l 15 14,o 16 (.ia 5 1 (.t 3) (.t 15)),l 17 16,m 18 8,o 19 (.ia 6 1 (.t 5) (.t 18)),l 20 19,o 21 (.ia 5 1 (.t 3) (.t 20)),l 22 21,o 23 (.bin .and (.t 17) (.t 22)),o 24 (.bin .eql (.t 23) (aj 0))]
def WV:=some [[],[0],[1],[2],[3],[],[5],[6],[7],[8],[4,9],[10]]
def Ez:=[m 25 7,ad 26 25 1,m 7 26]
def v8:=[m 11 8,ad 12 11 1,m 8 12]
def EA:=[m 27 7,m 6 27]
def AF:aP:=(s (r Et) (s (r Eu) (s (s (r Ev) (.block 0 (.loop (s (s (r Ew) (.cond (.t 10) .skip (.exit 0))) (s (.block 1 (s (.cg WV Ey) (.cond (.t 24) (r Ez) .skip))) (r v8)))))) (s (r EA) .ret))))
def LC:List a6:=[.tmp 6]
theorem Tb:bE Tryz.prog Tryz.f129 AF:=e (by kernel_rfl)
theorem Vi:bF Tryz.prog Tryz.f129 LC:=e (by kernel_rfl)
theorem Rn:bC Tryz.prog 129:=e (by kernel_rfl)
def Zj:=[bg 4 0]
def Zk:=[m 6 0,o 7 (.len (.t 6)),bg 8 0]
def Zl:=[lt 9 8 7]
def Zm:=[m 10 8,m 5 10]
def Zn:=[m 11 1,m 12 0,m 13 5,o 14 (.is 1 (.t 12) (.t 13)),l 15 14,o 16 (.bin .eql (.t 11) (.t 15))]
def Zo:=[m 17 5,m 4 17]
def Zp:=[ad 18 8 1,m 8 18]
def Zq:=[bg 4 (-1)]
def AG:aP:=(s (r Zj) (s (s (r Zk) (.block 0 (.loop (s (r Zl) (s (.cond (.t 9) .skip (.exit 0)) (s (.block 1 (s (r Zm) (s (r Zn) (.cond (.t 16) (s (r Zo) .ret) .skip)))) (r Zp))))))) (s (r Zq) .ret)))
def LD:List a6:=[.tmp 4]
theorem Tc:bE Tryz.prog Tryz.f131 AG:=e (by kernel_rfl)
theorem Vj:bF Tryz.prog Tryz.f131 LD:=e (by kernel_rfl)
theorem Ro:bC Tryz.prog 131:=e (by kernel_rfl)
def Zr:=[o 2 (.alloc (.agg [.int .i64 0,.int .i64 0,.int .i64 0,.int .i64 0,.int .i64 0,.int .i64 0,.int .i64 0,.int .i64 0]))]
def Zs:=[bg 3 0]
def Zt:=[m 4 0,o 5 (.nilC (.t 4)),f 6 0 0 5,f 7 7 7 6,l 8 7]
def Zu:=[bg 3 1]
def Zv:=[m 9 0,o 10 (.nilC (.t 9)),f 11 0 0 10,f 12 0 0 11,l 13 12,m 14 0,o 15 (.nilC (.t 14)),f 16 0 0 15,f 17 1 1 16,l 18 17,m 19 0,o 20 (.nilC (.t 19)),f 21 0 0 20,f 22 2 2 21,l 23 22,m 24 0,o 25 (.nilC (.t 24)),f 26 0 0 25,f 27 3 3 26,l 28 27,m 29 0,o 30 (.nilC (.t 29)),f 31 0 0 30,f 32 4 4 31,l 33 32,m 34 0,o 35 (.nilC (.t 34)),f 36 0 0 35,f 37 5 5 36,l 38 37,m 39 0,o 40 (.nilC (.t 39)),f 41 0 0 40,f 42 6 6 41,l 43 42,m 44 3,o 45 (.bld [.int .i64 0,.int .i64 0,.int .i64 0,.int .i64 0,.int .i64 0,.int .i64 0,.int .i64 0,.int .i64 0] [(0,(.t 13)),(1,(.t 18)),(2,(.t 23)),(3,(.t 28)),(4,(.t 33)),(5,(.t 38)),(6,(.t 43)),(7,(.t 44))]),p (.bl (some 8) (.t 2) (.t 45))]
def WW:=some [[],[0],[1],[2],[3],[],[5],[6],[7],[8],[],[10],[11],[12],[13],[],[15],[16],[17],[18],[],[20],[21],[22],[23],[],[25],[26],[27],[28],[],[30],[31],[32],[33],[],[4,9,14,19,24,29,34,35],[36,0,1,2,3,4,5,6,7,8,9,10,11,12,13,14,15,16,17,18,19,20,21,22,23,24,25,26,27,28,29,30,31,32,33,34,35,36]]
def AH:aP:=(s (r Zr) (s (r Zs) (s (s (r Zt) (.cond (.t 8) (r Zu) .skip)) (s (.cg WW Zv) .ret))))
def LF:List a6:=[.cell 2 (some 8)]
theorem Td:bE Tryz.prog Tryz.f133 AH:=e (by kernel_rfl)
theorem Vk:bF Tryz.prog Tryz.f133 LF:=e (by kernel_rfl)
theorem Rp:bC Tryz.prog 133:=e (by kernel_rfl)
def Zw:=[o 4 (.mv bh)]
def Zx:=[m 6 0,o 7 (.len (.t 6)),m 8 1,o 9 (.len (.t 8)),o 10 (.bin .neq (.t 7) (.t 9))]
def Zy:=[o 4 (.mv bh)]
def Zz:=[m 11 0,o 12 (.len (.t 11)),bg 13 0]
def ZA:=[lt 14 13 12]
def ZB:=[m 15 13,m 5 15]
def ZC:=[m 16 0,m 17 5,o 18 (.is 1 (.t 16) (.t 17)),l 19 18,m 20 1,m 21 5,o 22 (.is 1 (.t 20) (.t 21)),l 23 22,o 24 (.bin .neq (.t 19) (.t 23))]
def WX:=some [[],[],[0,1],[2],[],[],[4,5],[6],[3,7]]
def ZD:=[o 4 (.mv bh)]
def ZE:=[ad 25 13 1,m 13 25]
def ZF:=[o 4 (.mv T)]
def AI:aP:=(s (r Zw) (s (s (r Zx) (.cond (.t 10) (s (r Zy) .ret) .skip)) (s (s (r Zz) (.block 0 (.loop (s (r ZA) (s (.cond (.t 14) .skip (.exit 0)) (s (.block 1 (s (r ZB) (s (.cg WX ZC) (.cond (.t 24) (s (r ZD) .ret) .skip)))) (r ZE))))))) (s (r ZF) .ret))))
def LG:List a6:=[.tmp 4]
theorem Te:bE Tryz.prog Tryz.f134 AI:=e (by kernel_rfl)
theorem Vl:bF Tryz.prog Tryz.f134 LG:=e (by kernel_rfl)
theorem Rq:bC Tryz.prog 134:=e (by kernel_rfl)
def EB:=[o 6 (.mv (.c (.nils 17)))]
def EC:=[m 8 0,m 9 1,m 10 2,m 11 0,o 12 (.len (.t 11)),o 13 (.sl 17 (.t 8) (some (.t 9)) (some (.t 10)) (some (.t 12)))]
def ED:=[m 14 1,m 15 2,o 16 (.bin .eql (.t 14) (.t 15))]
def ZG:=[m 17 0,m 6 17]
def EE:=[m 18 0,o 19 (.len (.t 18)),m 7 19]
def wa:=[m 20 0,m 21 1,o 22 (.sl 17 (.t 20) none (some (.t 21)) none),m 23 0,m 24 2,o 25 (.sl 17 (.t 23) (some (.t 24)) none none),o 26 (.dN 68 17 136 (.agg [.agg [.int .i64 0,.int .i64 0],.int .i64 0,.int .i64 0,.int .i64 0,.int .i64 0,.int .i64 0,.int .i64 0,.int .i64 0,.agg [.int .i64 0,.int .i64 0,.int .i64 0,.int .i64 0,.int .i64 0,.int .i64 0],.agg [.int .i64 0,.int .i64 0]]) (.t 22) (.t 25)),m 0 26]
def WY:=some [[],[],[0,1],[],[],[3,4],[2,5],[6,6,0,1,2,3,4,5,6]]
def wb:=[m 27 0,m 28 0,o 29 (.len (.t 28)),m 30 7,o 31 (.sl 17 (.t 27) (some (.t 29)) (some (.t 30)) none),p (.js 17 (.agg [.agg [.int .i64 0,.int .i64 0],.int .i64 0,.int .i64 0,.int .i64 0,.int .i64 0,.int .i64 0,.int .i64 0,.int .i64 0,.agg [.int .i64 0,.int .i64 0,.int .i64 0,.int .i64 0,.int .i64 0,.int .i64 0],.agg [.int .i64 0,.int .i64 0]]) (.t 31))]
def wc:=[m 32 0,m 6 32]
def AJ:aP:=(s (r EB) (s (r EC) (s (s (r ED) (.cond (.t 16) (s (r ZG) .ret) .skip)) (s (r EE) (s (.cg WY wa) (s (r wb) (s (r wc) .ret)))))))
def LH:List a6:=[.tmp 6]
theorem Tf:bE Tryz.prog Tryz.f135 AJ:=e (by kernel_rfl)
theorem Vm:bF Tryz.prog Tryz.f135 LH:=e (by kernel_rfl)
theorem Rr:bC Tryz.prog 135:=e (by kernel_rfl)
def EF:=[o 2 (.mv (.c (.nils 17)))]
def we:=[m 3 0,o 4 (.nilS false (.t 3))]
def EG:=[o 2 (.mv (.c (.nils 17)))]
def wg:=[o 5 (.bs0 17),m 6 0,o 7 (.dN 68 17 136 (.agg [.agg [.int .i64 0,.int .i64 0],.int .i64 0,.int .i64 0,.int .i64 0,.int .i64 0,.int .i64 0,.int .i64 0,.int .i64 0,.agg [.int .i64 0,.int .i64 0,.int .i64 0,.int .i64 0,.int .i64 0,.int .i64 0],.agg [.int .i64 0,.int .i64 0]]) (.t 5) (.t 6)),m 2 7]
def AK:aP:=(s (r EF) (s (s (r we) (.cond (.t 4) (s (r EG) .ret) .skip)) (s (r wg) .ret)))
def LI:List a6:=[.tmp 2]
theorem Tg:bE Tryz.prog Tryz.f136 AK:=e (by kernel_rfl)
theorem Vn:bF Tryz.prog Tryz.f136 LI:=e (by kernel_rfl)
theorem Rs:bC Tryz.prog 136:=e (by kernel_rfl)
def EH:=[m 4 0,m 5 0,o 6 (.len (.t 5)),m 7 1,o 8 (.call 171 [.t 4,.t 6,.t 7])]
def u3:aP:=(r EH)
def yn:List a6:=[]
theorem Cm:bE Tryz.prog Tryz.f137 u3:=e (by kernel_rfl)
theorem Cy:bF Tryz.prog Tryz.f137 yn:=e (by kernel_rfl)
theorem Ce:bC Tryz.prog 137:=e (by kernel_rfl)
def ZH:=[bg 5 0]
def ZI:=[l 6 2,m 7 0,o 8 (.is 17 (.t 6) (.t 7)),f 9 2 3 8,l 10 9,l 11 2,m 12 1,o 13 (.is 17 (.t 11) (.t 12)),f 14 2 3 13,l 15 14,o 16 (.bin .sub (.t 10) (.t 15)),m 5 16]
def WZ:=some [[],[],[0,1],[2],[3],[],[],[5,6],[7],[8],[4,9],[10,0,1,2,3,4,5,6,7,8,9,10]]
def AL:aP:=(s (r ZH) (s (.cg WZ ZI) .ret))
def LJ:List a6:=[.tmp 5]
theorem Th:bE Tryz.prog Tryz.f138 AL:=e (by kernel_rfl)
theorem Vo:bF Tryz.prog Tryz.f138 LJ:=e (by kernel_rfl)
theorem Rt:bC Tryz.prog 138:=e (by kernel_rfl)
def EI:=[o 0 (.mv (.c (.raw (.map none))))]
def EJ:=[o 1 (.jB),p (.gv (.i .i64) (.t 1) (aj 1) (.c (.func 172 []))),p (.gv (.i .i64) (.t 1) (aj 2) (.c (.func 173 []))),p (.gv (.i .i64) (.t 1) (aj 3) (.c (.func 174 []))),p (.gv (.i .i64) (.t 1) (aj 4) (.c (.func 175 []))),p (.gv (.i .i64) (.t 1) (aj 5) (.c (.func 176 []))),p (.gv (.i .i64) (.t 1) (aj 6) (.c (.func 177 []))),m 2 1,m 0 2]
def AM:aP:=(s (r EI) (s (r EJ) .ret))
def LK:List a6:=[.tmp 0]
theorem Ti:bE Tryz.prog Tryz.f139 AM:=e (by kernel_rfl)
theorem Vp:bF Tryz.prog Tryz.f139 LK:=e (by kernel_rfl)
theorem Ru:bC Tryz.prog 139:=e (by kernel_rfl)
def EK:=[o 2 (.mv (.c (.nils 1)))]
def EL:=[o 3 (.mv (.c (.nils 1)))]
def EM:=[bg 4 0]
def EN:=[m 5 4,o 6 (.bin .lss (.t 5) (aj 5))]
def EO:=[m 9 0,m 10 4,o 11 (.bin .shl (aj 1) (.t 10)),o 12 (.bin .and (.t 9) (.t 11)),o 13 (.bin .neq (.t 12) (aj 0))]
def EP:=[m 14 3,m 15 4,o 16 (.bs 3 1 [.t 15]),o 17 (.dN 3 1 8 (.int .i64 0) (.t 14) (.t 16)),m 3 17]
def wh:=[m 7 4,ad 8 7 1,m 4 8]
def ER:=[m 18 3,m 2 18]
def AO:aP:=(s (r EK) (s (r EL) (s (s (r EM) (.block 0 (.loop (s (s (r EN) (.cond (.t 6) .skip (.exit 0))) (s (.block 1 (s (r EO) (.cond (.t 13) (r EP) .skip))) (r wh)))))) (s (r ER) .ret))))
def LM:List a6:=[.tmp 2]
theorem Tk:bE Tryz.prog Tryz.f141 AO:=e (by kernel_rfl)
theorem Vr:bF Tryz.prog Tryz.f141 LM:=e (by kernel_rfl)
theorem Rw:bC Tryz.prog 141:=e (by kernel_rfl)
def ES:=[b 2 0,o 4 (.mv (.c (.nils 1)))]
def ET:=[m 6 1]
def ZJ:=[m 5 7]
def ZK:=[l 8 2,m 9 5,o 10 (.bs 3 1 [.t 9]),o 11 (.dN 3 1 8 (.int .i64 0) (.t 8) (.t 10)),p (.bl none (.t 2) (.t 11))]
def ZL:=[l 12 2,m 4 12]
def AP:aP:=(s (r ES) (s (s (r ET) (.block 0 (.j0 (.t 6) [7] (r ZJ) (.block 1 (r ZK))))) (s (r ZL) .ret)))
def LN:List a6:=[.tmp 4]
theorem Tl:bE Tryz.prog Tryz.f144 AP:=e (by kernel_rfl)
theorem Vs:bF Tryz.prog Tryz.f144 LN:=e (by kernel_rfl)
theorem Rx:bC Tryz.prog 144:=e (by kernel_rfl)
def ZM:=[b 1 0,o 2 (.mv (.c (.df)))]
def ZN:=[o 3 (.mk 178 [.t 1]),m 2 3]
def AQ:aP:=(s (r ZM) (s (r ZN) .ret))
def LO:List a6:=[.tmp 2]
theorem Tm:bE Tryz.prog Tryz.f145 AQ:=e (by kernel_rfl)
theorem Vt:bF Tryz.prog Tryz.f145 LO:=e (by kernel_rfl)
theorem Ry:bC Tryz.prog 145:=e (by kernel_rfl)
def EU:=[l 5 1,o 6 (.len (.t 5)),bg 7 0]
def EV:=[lt 8 7 6]
def EW:=[m 9 7,m 4 9]
def wi:=[l 10 2,m 11 4,o 12 (.is 1 (.t 10) (.t 11)),l 13 12,m 14 13,dj 15 0 14,dj 16 4 14,bQ 17 (.eF (.t 15) [.t 16]) 14,bQ 18 (.un .not (.t 17)) 14,and 19 14 18]
def wj:=[ad 20 7 1,m 7 20]
def AR:aP:=(s (r EU) (.block 0 (.loop (s (r EV) (s (.cond (.t 8) .skip (.exit 0)) (s (.block 1 (s (r EW) (s (r wi) (.cond (.t 19) .ret .skip)))) (r wj)))))))
def LP:List a6:=[]
theorem Tn:bE Tryz.prog Tryz.f146 AR:=e (by kernel_rfl)
theorem Vu:bF Tryz.prog Tryz.f146 LP:=e (by kernel_rfl)
theorem vb:bC Tryz.prog 146:=e (by kernel_rfl)
def EX:=[o 2 (.mv bh)]
def EY:=[m 3 0,o 4 (.call 114 [.t 3,(aj 1),(aj 9999)]),m 2 4]
def AS:aP:=(s (r EX) (s (r EY) .ret))
def LQ:List a6:=[.tmp 2]
theorem Tp:bE Tryz.prog Tryz.f154 AS:=e (by kernel_rfl)
theorem Vv:bF Tryz.prog Tryz.f154 LQ:=e (by kernel_rfl)
theorem Rz:bC Tryz.prog 154:=e (by kernel_rfl)
def EZ:=[o 2 (.mv bh)]
def E0:=[m 3 0,o 4 (.call 114 [.t 3,(aj 1),(aj 9)]),m 2 4]
def AT:aP:=(s (r EZ) (s (r E0) .ret))
def LR:List a6:=[.tmp 2]
theorem Tq:bE Tryz.prog Tryz.f155 AT:=e (by kernel_rfl)
theorem Vw:bF Tryz.prog Tryz.f155 LR:=e (by kernel_rfl)
theorem RA:bC Tryz.prog 155:=e (by kernel_rfl)
def E4:=[o 2 (.mv bh)]
def E5:=[m 3 0,o 4 (.call 114 [.t 3,(aj 1),(aj 99)]),m 2 4]
def AU:aP:=(s (r E4) (s (r E5) .ret))
def LS:List a6:=[.tmp 2]
theorem Tr:bE Tryz.prog Tryz.f156 AU:=e (by kernel_rfl)
theorem Vx:bF Tryz.prog Tryz.f156 LS:=e (by kernel_rfl)
theorem RB:bC Tryz.prog 156:=e (by kernel_rfl)
def E6:=[b 1 0,bg 2 0]
def E7:=[aC 3 6 1,o 4 (.call 193 [.t 3]),no 5 4]
def E8:=[bg 2 12]
def E9:=[bg 2 0]
def AV:aP:=(s (r E6) (s (s (r E7) (.cond (.t 5) (s (r E8) .ret) .skip)) (s (r E9) .ret)))
def LU:List a6:=[.tmp 2]
theorem Ts:bE Tryz.prog Tryz.f157 AV:=e (by kernel_rfl)
theorem Vy:bF Tryz.prog Tryz.f157 LU:=e (by kernel_rfl)
theorem RC:bC Tryz.prog 157:=e (by kernel_rfl)
def Fa:=[bg 2 0]
def Fb:=[bg 3 0]
def Fc:=[m 6 0,o 7 (.len (.t 6)),bg 8 0]
def Fe:=[lt 9 8 7]
def Ff:=[o 10 (.is 1 (.t 6) (.t 8)),l 11 10,m 5 11]
def Fg:=[m 12 5,m 13 3,o 14 (.bin .neq (.t 12) (.t 13))]
def Fh:=[m 15 5,m 2 15]
def Fi:=[ad 16 8 1,m 8 16]
def Fj:=[m 17 3,m 2 17]
def AW:aP:=(s (r Fa) (s (r Fb) (s (s (r Fc) (.block 0 (.loop (s (r Fe) (s (.cond (.t 9) .skip (.exit 0)) (s (.block 1 (s (r Ff) (s (r Fg) (.cond (.t 14) (s (r Fh) .ret) .skip)))) (r Fi))))))) (s (r Fj) .ret))))
def LV:List a6:=[.tmp 2]
theorem Tt:bE Tryz.prog Tryz.f158 AW:=e (by kernel_rfl)
theorem Vz:bF Tryz.prog Tryz.f158 LV:=e (by kernel_rfl)
theorem RD:bC Tryz.prog 158:=e (by kernel_rfl)
def Fk:=[bg 4 0]
def Fl:=[m 7 0,o 8 (.call 194 [.t 7]),m 5 8]
def Fs:=[m 9 1,o 10 (.call 194 [.t 9]),m 6 10]
def Ft:=[m 11 5]
def ZZ:=[m 12 6]
def Z0:=[bg 4 0]
def Z1:=[bg 4 (-1)]
def Fu:=[m 13 6]
def Z2:=[bg 4 1]
def Fv:=[m 14 0,m 15 1,lt 16 14 15]
def Fm:=[bg 4 (-1)]
def Fo:=[m 17 0,m 18 1,o 19 (.bin .gtr (.t 17) (.t 18))]
def Fp:=[bg 4 1]
def Fq:=[bg 4 0]
def AX:aP:=(s (r Fk) (s (r Fl) (s (r Fs) (s (s (r Ft) (.cond (.t 11) (s (s (r ZZ) (.cond (.t 12) (s (r Z0) .ret) .skip)) (s (r Z1) .ret)) .skip)) (s (s (r Fu) (.cond (.t 13) (s (r Z2) .ret) .skip)) (s (s (r Fv) (.cond (.t 16) (s (r Fm) .ret) .skip)) (s (s (r Fo) (.cond (.t 19) (s (r Fp) .ret) .skip)) (s (r Fq) .ret))))))))
def LW:List a6:=[.tmp 4]
theorem Tu:bE Tryz.prog Tryz.f159 AX:=e (by kernel_rfl)
theorem VA:bF Tryz.prog Tryz.f159 LW:=e (by kernel_rfl)
theorem RE:bC Tryz.prog 159:=e (by kernel_rfl)
def Fw:=[o 2 (.mv bh)]
def Fx:=[m 3 0,o 4 (.call 121 [.t 3,(aj 0),(aj 31)]),m 2 4]
def AZ:aP:=(s (r Fw) (s (r Fx) .ret))
def LY:List a6:=[.tmp 2]
theorem Tw:bE Tryz.prog Tryz.f160 AZ:=e (by kernel_rfl)
theorem VC:bF Tryz.prog Tryz.f160 LY:=e (by kernel_rfl)
theorem RG:bC Tryz.prog 160:=e (by kernel_rfl)
def Fy:=[o 4 (.mv bh)]
def Fz:=[m 5 0,m 6 1,o 7 (.bin .shr (.t 5) (.t 6)),o 8 (.bin .and (.t 7) (aj 1)),o 9 (.bin .eql (.t 8) (aj 1)),m 4 9]
def A1:aP:=(s (r Fy) (s (r Fz) .ret))
def LZ:List a6:=[.tmp 4]
theorem Tx:bE Tryz.prog Tryz.f161 A1:=e (by kernel_rfl)
theorem VD:bF Tryz.prog Tryz.f161 LZ:=e (by kernel_rfl)
theorem RH:bC Tryz.prog 161:=e (by kernel_rfl)
def FA:=[o 2 (.mv bh)]
def FB:=[m 3 0,o 4 (.call 121 [.t 3,(aj 0),(aj 4)]),no 5 4,m 2 5]
def A2:aP:=(s (r FA) (s (r FB) .ret))
def L0:List a6:=[.tmp 2]
theorem Ty:bE Tryz.prog Tryz.f162 A2:=e (by kernel_rfl)
theorem VE:bF Tryz.prog Tryz.f162 L0:=e (by kernel_rfl)
theorem RI:bC Tryz.prog 162:=e (by kernel_rfl)
def FC:=[o 4 (.mv bh)]
def FD:=[m 5 0,m 6 1,o 7 (.call 195 [.t 5,.t 6]),o 8 (.bin .geq (.t 7) (aj 0)),m 4 8]
def A4:aP:=(s (r FC) (s (r FD) .ret))
def L1:List a6:=[.tmp 4]
theorem Tz:bE Tryz.prog Tryz.f163 A4:=e (by kernel_rfl)
theorem VF:bF Tryz.prog Tryz.f163 L1:=e (by kernel_rfl)
theorem RJ:bC Tryz.prog 163:=e (by kernel_rfl)
def FE:=[b 3 0,o 4 (.mv bh)]
def FF:=[f 5 0 0 1,aC 6 5 5,f 7 1 1 3,aC 8 6 7,aC 9 6 2,o 10 (.call 165 [.t 6,.t 8,.t 9]),f 11 1 5 1,l 12 11,o 13 (.bin .mul (aj 2) (.t 12)),o 14 (.bin .leq (.t 10) (.t 13)),m 4 14]
def W2:=some [[],[0],[],[2],[],[1,3,4],[],[6],[7],[5,8],[9,5,0,1,2,3,4,5,6,7,8,9]]
def A5:aP:=(s (r FE) (s (.cg W2 FF) .ret))
def L2:List a6:=[.tmp 4]
theorem TA:bE Tryz.prog Tryz.f164 A5:=e (by kernel_rfl)
theorem VG:bF Tryz.prog Tryz.f164 L2:=e (by kernel_rfl)
theorem RK:bC Tryz.prog 164:=e (by kernel_rfl)
def FG:=[b 3 0,b 4 1,b 5 2,bg 6 0]
def FH:=[o 7 (.alloc (.df)),p (.bl none (.t 7) (.c (.func 196 [])))]
def FI:=[o 8 (.mk 198 [.t 7,.t 3,.t 4,.t 5]),o 9 (.call 197 [.t 8]),m 6 9]
def A6:aP:=(s (r FG) (s (r FH) (s (r FI) .ret)))
def L3:List a6:=[.tmp 6]
theorem TB:bE Tryz.prog Tryz.f165 A6:=e (by kernel_rfl)
theorem VH:bF Tryz.prog Tryz.f165 L3:=e (by kernel_rfl)
theorem RL:bC Tryz.prog 165:=e (by kernel_rfl)
def FJ:=[bg 4 0]
def FK:=[m 6 0,o 7 (.len (.t 6)),bg 8 0]
def FL:=[lt 9 8 7]
def FM:=[m 10 8,m 5 10]
def FN:=[m 11 1,m 12 0,m 13 5,o 14 (.is 1 (.t 12) (.t 13)),l 15 14,o 16 (.eF (.t 11) [.t 15])]
def FO:=[m 17 5,m 4 17]
def FP:=[ad 18 8 1,m 8 18]
def FQ:=[bg 4 (-1)]
def A7:aP:=(s (r FJ) (s (s (r FK) (.block 0 (.loop (s (r FL) (s (.cond (.t 9) .skip (.exit 0)) (s (.block 1 (s (r FM) (s (r FN) (.cond (.t 16) (s (r FO) .ret) .skip)))) (r FP))))))) (s (r FQ) .ret)))
def L4:List a6:=[.tmp 4]
theorem TC:bE Tryz.prog Tryz.f166 A7:=e (by kernel_rfl)
theorem VI:bF Tryz.prog Tryz.f166 L4:=e (by kernel_rfl)
theorem RM:bC Tryz.prog 166:=e (by kernel_rfl)
def FR:=[o 2 (.mv (.c (.nils 7)))]
def wm:=[m 3 0,o 4 (.nilS false (.t 3))]
def FT:=[o 2 (.mv (.c (.nils 7)))]
def wo:=[o 5 (.bs0 7),m 6 0,o 7 (.dN 63 7 56 (.agg [.int .i64 0,.agg [.int .i64 0,.int .i64 0,.int .i64 0,.int .i64 0,.int .i64 0,.int .i64 0]]) (.t 5) (.t 6)),m 2 7]
def A8:aP:=(s (r FR) (s (s (r wm) (.cond (.t 4) (s (r FT) .ret) .skip)) (s (r wo) .ret)))
def L5:List a6:=[.tmp 2]
theorem TD:bE Tryz.prog Tryz.f167 A8:=e (by kernel_rfl)
theorem VJ:bF Tryz.prog Tryz.f167 L5:=e (by kernel_rfl)
theorem RN:bC Tryz.prog 167:=e (by kernel_rfl)
def FU:=[b 2 0,b 3 1,o 4 (.mv (.c (.nils 7)))]
def FV:=[f 5 2 6 2,l 6 5,o 7 (.call 167 [.t 6]),o 8 (.mk 201 [.t 2,.t 3]),o 9 (.call 200 [.t 7,.t 8]),m 4 9]
def A9:aP:=(s (r FU) (s (r FV) .ret))
def L6:List a6:=[.tmp 4]
theorem TE:bE Tryz.prog Tryz.f168 A9:=e (by kernel_rfl)
theorem VK:bF Tryz.prog Tryz.f168 L6:=e (by kernel_rfl)
theorem RO:bC Tryz.prog 168:=e (by kernel_rfl)
def FW:=[o 2 (.mv (.c (.nils 1)))]
def FX:=[o 3 (.mv (.c (.nils 1)))]
def FY:=[m 6 0,o 7 (.len (.t 6)),bg 8 0]
def FZ:=[lt 9 8 7]
def F0:=[o 10 (.is 7 (.t 6) (.t 8)),aC 11 7 10,o 5 (.alloc (.agg [.int .i64 0,.agg [.int .i64 0,.int .i64 0,.int .i64 0,.int .i64 0,.int .i64 0,.int .i64 0]])),p (.bl (some 7) (.t 5) (.t 11))]
def F1:=[m 12 3,f 13 0 0 5,l 14 13,o 15 (.bs 3 1 [.t 14]),o 16 (.dN 3 1 8 (.int .i64 0) (.t 12) (.t 15)),m 3 16]
def F2:=[ad 17 8 1,m 8 17]
def F3:=[m 18 3,m 2 18]
def Ba:aP:=(s (r FW) (s (r FX) (s (s (r FY) (.block 0 (.loop (s (r FZ) (s (.cond (.t 9) .skip (.exit 0)) (s (.block 1 (s (r F0) (r F1))) (r F2))))))) (s (r F3) .ret))))
def L7:List a6:=[.tmp 2]
theorem TF:bE Tryz.prog Tryz.f169 Ba:=e (by kernel_rfl)
theorem VL:bF Tryz.prog Tryz.f169 L7:=e (by kernel_rfl)
theorem RP:bC Tryz.prog 169:=e (by kernel_rfl)
def wq:=[bg 6 20]
def wu:=[m 10 6,bg 7 0,m 8 10]
def F4:=[m 11 8,m 12 1,o 13 (.bin .leq (.t 11) (.t 12))]
def aai:=[m 14 0,m 15 7,m 16 8,m 17 2,o 18 (.call 203 [.t 14,.t 15,.t 16,.t 17])]
def aaj:=[m 19 8,m 7 19]
def aak:=[m 20 8,m 21 6,o 22 (.bin .add (.t 20) (.t 21)),m 8 22]
def F5:=[m 23 0,m 24 7,m 25 1,m 26 2,o 27 (.call 203 [.t 23,.t 24,.t 25,.t 26])]
def wv:=[m 28 6,m 29 1,lt 30 28 29]
def F6:=[m 31 6,o 32 (.bin .mul (aj 2) (.t 31)),bg 7 0,m 8 32]
def F7:=[m 33 8,m 34 1,o 35 (.bin .leq (.t 33) (.t 34))]
def aab:=[m 36 0,m 37 7,m 38 7,m 39 6,o 40 (.bin .add (.t 38) (.t 39)),m 41 8,m 42 2,o 43 (.call 204 [.t 36,.t 37,.t 40,.t 41,.t 42])]
def aac:=[m 44 8,m 7 44]
def aad:=[m 45 8,m 46 6,o 47 (.bin .mul (aj 2) (.t 46)),o 48 (.bin .add (.t 45) (.t 47)),m 8 48]
def aae:=[m 49 7,m 50 6,o 51 (.bin .add (.t 49) (.t 50)),m 9 51]
def aaf:=[m 52 9,m 53 1,lt 54 52 53]
def aag:=[m 55 0,m 56 7,m 57 9,m 58 1,m 59 2,o 60 (.call 204 [.t 55,.t 56,.t 57,.t 58,.t 59])]
def aah:=[m 61 6,o 62 (.bin .mul (.t 61) (aj 2)),m 6 62]
def u4:aP:=(s (r wq) (s (r wu) (s (.block 0 (.loop (s (s (r F4) (.cond (.t 13) .skip (.exit 0))) (.block 1 (s (r aai) (s (r aaj) (r aak))))))) (s (r F5) (.block 2 (.loop (s (s (r wv) (.cond (.t 30) .skip (.exit 2))) (.block 3 (s (r F6) (s (.block 4 (.loop (s (s (r F7) (.cond (.t 35) .skip (.exit 4))) (.block 5 (s (r aab) (s (r aac) (r aad))))))) (s (s (r aae) (s (r aaf) (.cond (.t 54) (r aag) .skip))) (r aah))))))))))))
def yp:List a6:=[]
theorem Cn:bE Tryz.prog Tryz.f171 u4:=e (by kernel_rfl)
theorem Cz:bF Tryz.prog Tryz.f171 yp:=e (by kernel_rfl)
theorem Cf:bC Tryz.prog 171:=e (by kernel_rfl)
def aal:=[b 3 1,o 4 (.mv bh)]
def aam:=[f 6 5 6 3,l 7 6,o 8 (.bin .gtr (.t 7) (aj 0))]
def aan:=[m 9 0,o 10 (.nilC (.t 9)),f 11 0 0 10,l 12 11,f 13 5 6 3,l 14 13,o 15 (.lk (.i .i64) (.nilp) false (.t 12) (.t 14)),m 5 15]
def W3:=some [[],[0],[1],[2],[],[4],[3,5],[6,0,1,2,3,4,5,6]]
def aao:=[m 16 5,o 17 (.ptrE false (.t 16) (.c (.nilp))),m 18 17,fo 19 5 18,on 20 (.nilC (.t 19)) 18,fn 21 0 0 20 18,fn 22 1 1 21 18,jz 23 22 18,fn 24 6 7 3 18,jz 25 24 18,on 26 (.bin .neq (.t 23) (.t 25)) 18,or 27 18 26,m 28 27,fo 29 5 28,on 30 (.call 90 [.t 29]) 28,fo 31 30 28,dj 32 5 31,bQ 33 (.nilC (.t 32)) 31,dx 34 0 0 33 31,dx 35 6 6 34 31,ee 36 35 31,dx 37 2 3 3 31,ee 38 37 31,bQ 39 (.bin .lss (.t 36) (.t 38)) 31,on 40 (.pick (.t 31) (.t 39) bh) 28,or 41 28 40]
def W4:=some [[],[0],[1],[2],[3,2],[4,2],[5,2],[6,2],[2],[8,2],[7,9,2],[2,10],[11,2],[12],[13,12,12],[14,14,12],[15],[16,15],[17,15],[18,15],[19,15],[15],[21,15],[20,22,15],[15,23,12],[12,24]]
def aap:=[o 4 (.mv bh)]
def aaq:=[m 42 0,aC 43 17 3,o 44 (.call 173 [.t 42,.t 43]),m 4 44]
def Bb:aP:=(s (r aal) (s (s (r aam) (.cond (.t 8) (s (.cg W3 aan) (s (.cg W4 aao) (.cond (.t 41) (s (r aap) .ret) .skip))) .skip)) (s (r aaq) .ret)))
def L8:List a6:=[.tmp 4]
theorem TG:bE Tryz.prog Tryz.f172 Bb:=e (by kernel_rfl)
theorem VM:bF Tryz.prog Tryz.f172 L8:=e (by kernel_rfl)
theorem RQ:bC Tryz.prog 172:=e (by kernel_rfl)
def aar:=[b 3 1,o 4 (.mv bh)]
def aas:=[m 5 0,o 6 (.nilC (.t 5)),f 7 0 0 6,l 8 7,f 9 4 5 3,l 10 9,o 11 (.lk (.i .i64) (.nilp) false (.t 8) (.t 10)),o 12 (.ptrE true (.t 11) (.c (.nilp)))]
def W5:=some [[],[0],[1],[2],[],[4],[3,5],[6]]
def aat:=[o 4 (.mv bh)]
def aau:=[m 13 0,o 14 (.nilC (.t 13)),f 15 0 0 14,l 16 15,f 17 4 5 3,l 18 17,f 19 4 5 3,l 20 19,f 21 6 7 3,l 22 21,f 23 5 6 3,l 24 23,f 25 7 8 3,l 26 25,f 27 7 8 3,l 28 27,f 29 2 3 3,l 30 29,o 31 (.bld [.int .i64 0,.int .i64 0,.int .i64 0,.int .i64 0,.int .i64 0,.int .i64 0,.int .i64 0,.bool false,.nils 6] [(0,(.t 20)),(1,(.t 22)),(2,(.t 24)),(3,(.t 26)),(4,(.t 28)),(5,(.t 30)),(6,(.c (.int .i64 (-1))))]),o 32 (.bld [.agg [.int .i64 0,.int .i64 0,.int .i64 0,.int .i64 0,.int .i64 0,.int .i64 0,.int .i64 0,.bool false,.nils 6]] [(0,(.t 31))]),b 33 32,p (.gv (.i .i64) (.t 16) (.t 18) (.t 33))]
def W6:=some [[],[0],[1],[2],[],[4],[],[6],[],[8],[],[10],[],[12],[],[14],[],[16],[7,9,11,13,15,17],[18],[19],[3,5,20,0,1,2,3,4,5,6,7,8,9,10,11,12,13,14,15,16,17,18,19,20]]
def aav:=[o 4 (.mv T)]
def Bc:aP:=(s (r aar) (s (s (.cg W5 aas) (.cond (.t 12) (s (r aat) .ret) .skip)) (s (.cg W6 aau) (s (r aav) .ret))))
def L9:List a6:=[.tmp 4]
theorem TH:bE Tryz.prog Tryz.f173 Bc:=e (by kernel_rfl)
theorem VN:bF Tryz.prog Tryz.f173 L9:=e (by kernel_rfl)
theorem RR:bC Tryz.prog 173:=e (by kernel_rfl)
def aaw:=[b 3 1,o 4 (.mv bh)]
def aax:=[m 6 0,o 7 (.nilC (.t 6)),f 8 0 0 7,l 9 8,f 10 4 5 3,l 11 10,o 12 (.lk (.i .i64) (.nilp) false (.t 9) (.t 11)),m 5 12]
def W7:=some [[],[0],[1],[2],[],[4],[3,5],[6,0,1,2,3,4,5,6]]
def aay:=[m 13 5,o 14 (.ptrE false (.t 13) (.c (.nilp))),m 15 14,fo 16 5 15,on 17 (.call 90 [.t 16]) 15,or 18 15 17,m 19 18,fo 20 5 19,on 21 (.nilC (.t 20)) 19,fn 22 0 0 21 19,fn 23 3 3 22 19,jz 24 23 19,on 25 (.bin .eql (.t 24) (aj 0)) 19,or 26 19 25,m 27 26,fo 28 5 27,on 29 (.nilC (.t 28)) 27,fn 30 0 0 29 27,fn 31 3 3 30 27,jz 32 31 27,fn 33 7 8 3 27,jz 34 33 27,on 35 (.bin .eql (.t 32) (.t 34)) 27,or 36 27 35]
def W8:=some [[],[0],[1],[2],[3,2,2],[2,4],[5,4],[6],[7,6],[8,6],[9,6],[10,6],[11,6],[6,12],[13,6],[14],[15,14],[16,14],[17,14],[18,14],[14],[20,14],[19,21,14],[14,22]]
def aaz:=[o 4 (.mv bh)]
def aaA:=[m 37 5,f 38 7 8 3,l 39 38,o 40 (.nilC (.t 37)),f 41 0 0 40,f 42 3 3 41,p (.bl none (.t 42) (.t 39))]
def aaB:=[o 4 (.mv T)]
def Bd:aP:=(s (r aaw) (s (.cg W7 aax) (s (s (.cg W8 aay) (.cond (.t 36) (s (r aaz) .ret) .skip)) (s (r aaA) (s (r aaB) .ret)))))
def Ma:List a6:=[.tmp 4]
theorem TI:bE Tryz.prog Tryz.f174 Bd:=e (by kernel_rfl)
theorem VO:bF Tryz.prog Tryz.f174 Ma:=e (by kernel_rfl)
theorem RS:bC Tryz.prog 174:=e (by kernel_rfl)
def aaC:=[b 3 1,o 4 (.mv bh)]
def aaD:=[m 6 0,o 7 (.nilC (.t 6)),f 8 0 0 7,l 9 8,f 10 4 5 3,l 11 10,o 12 (.lk (.i .i64) (.nilp) false (.t 9) (.t 11)),m 5 12]
def W9:=some [[],[0],[1],[2],[],[4],[3,5],[6,0,1,2,3,4,5,6]]
def aaE:=[m 13 5,o 14 (.ptrE false (.t 13) (.c (.nilp)))]
def aaF:=[o 4 (.mv bh)]
def wy:=[m 15 5,m 16 5,o 17 (.nilC (.t 16)),f 18 0 0 17,f 19 8 8 18,l 20 19,f 21 8 9 3,aC 22 6 21,o 23 (.bs 66 6 [.t 22]),o 24 (.dN 66 6 48 (.agg [.int .i64 0,.int .i64 0,.int .i64 0,.int .i64 0,.int .i64 0,.int .i64 0]) (.t 20) (.t 23)),o 25 (.nilC (.t 15)),f 26 0 0 25,f 27 8 8 26,p (.bl none (.t 27) (.t 24))]
def Xa:=some [[],[],[1],[2],[3],[4],[],[6],[7],[5,8],[0,0,1,2,3,4,5,6,7,8,9],[10,0,1,2,3,4,5,6,7,8,9],[11,0,1,2,3,4,5,6,7,8,9],[12,9,9,0,1,2,3,4,5,6,7,8,9]] -- DRAW BAD
def aaG:=[o 4 (.mv T)]
def Be:aP:=(s (r aaC) (s (.cg W9 aaD) (s (s (r aaE) (.cond (.t 14) (s (r aaF) .ret) .skip)) (s (.cg Xa wy) (s (r aaG) .ret)))))
def Mb:List a6:=[.tmp 4]
theorem TJ:bE Tryz.prog Tryz.f175 Be:=e (by kernel_rfl)
theorem VP:bF Tryz.prog Tryz.f175 Mb:=e (by kernel_rfl)
theorem RT:bC Tryz.prog 175:=e (by kernel_rfl)
def aaH:=[b 3 1,o 4 (.mv bh)]
def aaI:=[m 6 0,o 7 (.nilC (.t 6)),f 8 0 0 7,l 9 8,f 10 4 5 3,l 11 10,o 12 (.lk (.i .i64) (.nilp) false (.t 9) (.t 11)),m 5 12]
def Xb:=some [[],[0],[1],[2],[],[4],[3,5],[6,0,1,2,3,4,5,6]]
def aaJ:=[m 13 5,o 14 (.ptrE false (.t 13) (.c (.nilp)))]
def aaK:=[o 4 (.mv bh)]
def aaL:=[m 15 5,m 16 5,f 17 7 8 3,l 18 17,o 19 (.nilC (.t 15)),f 20 0 0 19,f 21 3 3 20,p (.bl none (.t 21) (.t 18)),o 22 (.nilC (.t 16)),f 23 0 0 22,f 24 7 7 23,p (.bl none (.t 24) T)]
def aaM:=[o 4 (.mv T)]
def Bf:aP:=(s (r aaH) (s (.cg Xb aaI) (s (s (r aaJ) (.cond (.t 14) (s (r aaK) .ret) .skip)) (s (r aaL) (s (r aaM) .ret)))))
def Mc:List a6:=[.tmp 4]
theorem TK:bE Tryz.prog Tryz.f176 Bf:=e (by kernel_rfl)
theorem VQ:bF Tryz.prog Tryz.f176 Mc:=e (by kernel_rfl)
theorem RU:bC Tryz.prog 176:=e (by kernel_rfl)
def aaN:=[b 3 1,o 4 (.mv bh)]
def aaO:=[m 6 0,o 7 (.nilC (.t 6)),f 8 0 0 7,l 9 8,f 10 4 5 3,l 11 10,o 12 (.lk (.i .i64) (.nilp) false (.t 9) (.t 11)),m 5 12]
def Xc:=some [[],[0],[1],[2],[],[4],[3,5],[6,0,1,2,3,4,5,6]]
def aaP:=[m 13 5,o 14 (.ptrE false (.t 13) (.c (.nilp))),m 15 14,fo 16 5 15,on 17 (.call 90 [.t 16]) 15,or 18 15 17]
def aaQ:=[o 4 (.mv bh)]
def aaR:=[m 19 5,f 20 2 3 3,l 21 20,o 22 (.nilC (.t 19)),f 23 0 0 22,f 24 6 6 23,p (.bl none (.t 24) (.t 21))]
def aaS:=[o 4 (.mv T)]
def Bg:aP:=(s (r aaN) (s (.cg Xc aaO) (s (s (r aaP) (.cond (.t 18) (s (r aaQ) .ret) .skip)) (s (r aaR) (s (r aaS) .ret)))))
def Md:List a6:=[.tmp 4]
theorem TL:bE Tryz.prog Tryz.f177 Bg:=e (by kernel_rfl)
theorem VR:bF Tryz.prog Tryz.f177 Md:=e (by kernel_rfl)
theorem RV:bC Tryz.prog 177:=e (by kernel_rfl)
def F8:=[l 4 1,o 5 (.len (.t 4)),o 6 (.bin .sub (.t 5) (aj 1)),m 3 6]
def F9:=[m 7 3,o 8 (.bin .geq (.t 7) (aj 0))]
def Ga:=[m 11 0,m 12 3,l 13 1,m 14 3,o 15 (.is 17 (.t 13) (.t 14)),aC 16 17 15,o 17 (.eF (.t 11) [.t 12,.t 16]),no 18 17]
def Gb:=[m 9 3,o 10 (.bin .sub (.t 9) (aj 1)),m 3 10]
def Bh:aP:=(s (r F8) (.block 0 (.loop (s (s (r F9) (.cond (.t 8) .skip (.exit 0))) (s (.block 1 (s (r Ga) (.cond (.t 18) .ret .skip))) (r Gb))))))
def Me:List a6:=[]
theorem TM:bE Tryz.prog Tryz.f178 Bh:=e (by kernel_rfl)
theorem VS:bF Tryz.prog Tryz.f178 Me:=e (by kernel_rfl)
theorem Cg:bC Tryz.prog 178:=e (by kernel_rfl)
def Gc:=[b 1 0,o 2 (.mv bh)]
def Gd:=[o 3 (.va 6 1 (.t 1)),o 4 (.call 125 [.t 3,(.c (.func 211 []))]),no 5 4,m 2 5]
def Bj:aP:=(s (r Gc) (s (r Gd) .ret))
def Mg:List a6:=[.tmp 2]
theorem TO:bE Tryz.prog Tryz.f193 Bj:=e (by kernel_rfl)
theorem VU:bF Tryz.prog Tryz.f193 Mg:=e (by kernel_rfl)
theorem RX:bC Tryz.prog 193:=e (by kernel_rfl)
def Ge:=[o 2 (.mv bh)]
def Gf:=[m 3 0,m 4 0,o 5 (.bin .neq (.t 3) (.t 4)),m 2 5]
def Bk:aP:=(s (r Ge) (s (r Gf) .ret))
def Mh:List a6:=[.tmp 2]
theorem TP:bE Tryz.prog Tryz.f194 Bk:=e (by kernel_rfl)
theorem VV:bF Tryz.prog Tryz.f194 Mh:=e (by kernel_rfl)
theorem RY:bC Tryz.prog 194:=e (by kernel_rfl)
def Gg:=[bg 4 0]
def Gh:=[m 6 0,o 7 (.len (.t 6)),bg 8 0]
def Gi:=[lt 9 8 7]
def Gj:=[m 10 8,m 5 10]
def Gk:=[m 11 1,m 12 0,m 13 5,o 14 (.is 7 (.t 12) (.t 13)),aC 15 7 14,o 16 (.eF (.t 11) [.t 15])]
def Gl:=[m 17 5,m 4 17]
def Gm:=[ad 18 8 1,m 8 18]
def Gn:=[bg 4 (-1)]
def Bl:aP:=(s (r Gg) (s (s (r Gh) (.block 0 (.loop (s (r Gi) (s (.cond (.t 9) .skip (.exit 0)) (s (.block 1 (s (r Gj) (s (r Gk) (.cond (.t 16) (s (r Gl) .ret) .skip)))) (r Gm))))))) (s (r Gn) .ret)))
def Mi:List a6:=[.tmp 4]
theorem TQ:bE Tryz.prog Tryz.f195 Bl:=e (by kernel_rfl)
theorem VW:bF Tryz.prog Tryz.f195 Mi:=e (by kernel_rfl)
theorem RZ:bC Tryz.prog 195:=e (by kernel_rfl)
def Gp:=[o 4 (.mv bh)]
def Gq:=[m 5 0,m 6 1,o 7 (.bin .and (.t 5) (.t 6)),o 8 (.bin .neq (.t 7) (aj 0)),m 4 8]
def Bm:aP:=(s (r Gp) (s (r Gq) .ret))
def Mj:List a6:=[.tmp 4]
theorem TR:bE Tryz.prog Tryz.f196 Bm:=e (by kernel_rfl)
theorem VX:bF Tryz.prog Tryz.f196 Mj:=e (by kernel_rfl)
theorem R0:bC Tryz.prog 196:=e (by kernel_rfl)
def Gr:=[bg 2 0]
def Gs:=[bg 3 0]
def Gt:=[bg 5 0]
def Gu:=[o 6 (.bin .lss (.t 5) (aj 6))]
def Gv:=[m 7 5,m 4 7]
def Gw:=[m 8 0,m 9 4,o 10 (.eF (.t 8) [.t 9]),no 11 10]
def Gx:=[m 12 3,ad 13 12 1,m 3 13]
def wz:=[ad 14 5 1,m 5 14]
def Gy:=[m 15 3,m 2 15]
def Bn:aP:=(s (r Gr) (s (r Gs) (s (s (r Gt) (.block 0 (.loop (s (r Gu) (s (.cond (.t 6) .skip (.exit 0)) (s (.block 1 (s (r Gv) (s (r Gw) (.cond (.t 11) (r Gx) .skip)))) (r wz))))))) (s (r Gy) .ret))))
def Mk:List a6:=[.tmp 2]
theorem TS:bE Tryz.prog Tryz.f197 Bn:=e (by kernel_rfl)
theorem VY:bF Tryz.prog Tryz.f197 Mk:=e (by kernel_rfl)
theorem R1:bC Tryz.prog 197:=e (by kernel_rfl)
def Gz:=[o 6 (.mv bh)]
def GA:=[l 7 1,aC 8 5 2,aC 9 6 3,m 10 0,o 11 (.call 199 [.t 8,.t 9,.t 10]),aC 12 5 2,aC 13 6 4,m 14 0,o 15 (.call 199 [.t 12,.t 13,.t 14]),o 16 (.eF (.t 7) [.t 11,.t 15]),m 6 16]
def Xe:=some [[],[],[],[],[1,2,3],[],[],[],[5,6,7,4],[0,4,8,8],[9,9,0,1,2,3,4,5,6,7,8,9]]
def Bo:aP:=(s (r Gz) (s (.cg Xe GA) .ret))
def Ml:List a6:=[.tmp 6]
theorem TT:bE Tryz.prog Tryz.f198 Bo:=e (by kernel_rfl)
theorem VZ:bF Tryz.prog Tryz.f198 Ml:=e (by kernel_rfl)
theorem R2:bC Tryz.prog 198:=e (by kernel_rfl)
def GB:=[b 3 0,b 4 1,bg 6 0]
def GC:=[m 7 2,o 8 (.ia 6 1 (.t 4) (.t 7)),l 9 8,o 10 (.ia 5 1 (.t 3) (.t 9)),l 11 10,m 6 11]
def Bp:aP:=(s (r GB) (s (r GC) .ret))
def Mm:List a6:=[.tmp 6]
theorem TU:bE Tryz.prog Tryz.f199 Bp:=e (by kernel_rfl)
theorem V0:bF Tryz.prog Tryz.f199 Mm:=e (by kernel_rfl)
theorem R3:bC Tryz.prog 199:=e (by kernel_rfl)
def wA:=[o 4 (.mv (.c (.nils 7)))]
def wB:=[m 8 0,m 9 1,o 10 (.call 195 [.t 8,.t 9]),m 5 10]
def sQ:=[m 11 5,o 12 (.bin .eql (.t 11) (.c (.int .i64 (-1))))]
def wD:=[m 13 0,m 4 13]
def GG:=[m 14 5,ad 15 14 1,m 6 15]
def GH:=[m 16 6,m 17 0,o 18 (.len (.t 17)),lt 19 16 18]
def GI:=[m 22 0,m 23 6,o 24 (.is 7 (.t 22) (.t 23)),aC 25 7 24,o 7 (.alloc (.agg [.int .i64 0,.agg [.int .i64 0,.int .i64 0,.int .i64 0,.int .i64 0,.int .i64 0,.int .i64 0]])),p (.bl (some 7) (.t 7) (.t 25))]
def GJ:=[m 26 1,aC 27 7 7,o 28 (.eF (.t 26) [.t 27]),no 29 28]
def GK:=[m 30 0,m 31 5,aC 32 7 7,o 33 (.is 7 (.t 30) (.t 31)),p (.bl (some 7) (.t 33) (.t 32))]
def GL:=[m 34 5,ad 35 34 1,m 5 35]
def wC:=[m 20 6,ad 21 20 1,m 6 21]
def GD:=[m 36 0,m 37 5,o 38 (.sl 7 (.t 36) (some (.t 37)) none none),p (.js 7 (.agg [.int .i64 0,.agg [.int .i64 0,.int .i64 0,.int .i64 0,.int .i64 0,.int .i64 0,.int .i64 0]]) (.t 38))]
def GF:=[m 39 0,m 40 5,o 41 (.sl 7 (.t 39) none (some (.t 40)) none),m 4 41]
def u5:aP:=(s (r wA) (s (r wB) (s (s (r sQ) (.cond (.t 12) (s (r wD) .ret) .skip)) (s (s (r GG) (.block 0 (.loop (s (s (r GH) (.cond (.t 19) .skip (.exit 0))) (s (.block 1 (s (r GI) (s (r GJ) (.cond (.t 29) (s (r GK) (r GL)) .skip)))) (r wC)))))) (s (r GD) (s (r GF) .ret))))))
def yq:List a6:=[.tmp 4]
theorem Co:bE Tryz.prog Tryz.f200 u5:=e (by kernel_rfl)
theorem CA:bF Tryz.prog Tryz.f200 yq:=e (by kernel_rfl)
theorem Ch:bC Tryz.prog 200:=e (by kernel_rfl)
def GM:=[b 3 0,o 4 (.mv bh)]
def GN:=[f 5 0 0 1,aC 6 5 5,f 7 1 1 3,aC 8 6 7,aC 9 6 2,o 10 (.call 202 [.t 6,.t 8,.t 9]),f 11 1 5 1,l 12 11,o 13 (.bin .gtr (.t 10) (.t 12)),m 4 13]
def Xf:=some [[],[0],[],[2],[],[1,3,4],[],[6],[5,7],[8,5,0,1,2,3,4,5,6,7,8]]
def Br:aP:=(s (r GM) (s (.cg Xf GN) .ret))
def Mo:List a6:=[.tmp 4]
theorem TW:bE Tryz.prog Tryz.f201 Br:=e (by kernel_rfl)
theorem V2:bF Tryz.prog Tryz.f201 Mo:=e (by kernel_rfl)
theorem R5:bC Tryz.prog 201:=e (by kernel_rfl)
def GO:=[b 3 0,b 4 1,b 5 2,bg 6 0]
def GP:=[o 7 (.alloc (.df)),p (.bl none (.t 7) (.c (.func 196 [])))]
def GQ:=[o 8 (.mk 212 [.t 7,.t 3,.t 4,.t 5]),o 9 (.call 197 [.t 8]),m 6 9]
def Bt:aP:=(s (r GO) (s (r GP) (s (r GQ) .ret)))
def Mp:List a6:=[.tmp 6]
theorem TX:bE Tryz.prog Tryz.f202 Bt:=e (by kernel_rfl)
theorem V3:bF Tryz.prog Tryz.f202 Mp:=e (by kernel_rfl)
theorem R6:bC Tryz.prog 202:=e (by kernel_rfl)
def wE:=[m 10 1,ad 11 10 1,m 8 11]
def GR:=[m 12 8,m 13 2,lt 14 12 13]
def GS:=[m 17 8,m 9 17]
def aa6:=[m 18 9,m 19 1,o 20 (.bin .gtr (.t 18) (.t 19)),m 21 20,dj 22 3 21,dj 23 0 21,dj 24 9 21,bQ 25 (.is 1 (.t 23) (.t 24)) 21,ee 26 25 21,dj 27 0 21,dj 28 9 21,bQ 29 (.bin .sub (.t 28) (aj 1)) 21,bQ 30 (.is 1 (.t 27) (.t 29)) 21,ee 31 30 21,bQ 32 (.eF (.t 22) [.t 26,.t 31]) 21,bQ 33 (.bin .lss (.t 32) (aj 0)) 21,and 34 21 33]
def Xg:=some [[],[],[0,1],[2],[3],[3],[3],[5,6,3],[7,3],[3],[3],[10,3],[9,11,3],[12,3],[4,8,13,3,3],[14,3],[3,15]]
def aa7:=[m 37 0,m 38 9,m 39 0,m 40 9,o 41 (.bin .sub (.t 40) (aj 1)),m 42 0,m 43 9,o 44 (.bin .sub (.t 43) (aj 1)),o 45 (.is 1 (.t 42) (.t 44)),l 46 45,m 47 0,m 48 9,o 49 (.is 1 (.t 47) (.t 48)),l 50 49,o 51 (.is 1 (.t 37) (.t 38)),p (.bl none (.t 51) (.t 46)),o 52 (.is 1 (.t 39) (.t 41)),p (.bl none (.t 52) (.t 50))]
def Xh:=some [[],[],[],[],[3],[],[],[6],[5,7],[8],[],[],[10,11],[12],[0,1,0,1,5,6,7,8,9,13],[14,9,0,1,5,6,7,8,9,13],[2,4,0,1,2,3,4,5,6,7,8,9,10,11,12,13,14,15],[16,13,15,0,1,2,3,4,5,6,7,8,9,10,11,12,13,14,15]]
def aa8:=[m 35 9,o 36 (.bin .sub (.t 35) (aj 1)),m 9 36]
def aa9:=[m 15 8,ad 16 15 1,m 8 16]
def u6:aP:=(s (r wE) (.block 0 (.loop (s (s (r GR) (.cond (.t 14) .skip (.exit 0))) (s (.block 1 (s (r GS) (.block 2 (.loop (s (s (.cg Xg aa6) (.cond (.t 34) .skip (.exit 2))) (s (.block 3 (.cg Xh aa7)) (r aa8))))))) (r aa9))))))
def yr:List a6:=[]
theorem Cp:bE Tryz.prog Tryz.f203 u6:=e (by kernel_rfl)
theorem CB:bF Tryz.prog Tryz.f203 yr:=e (by kernel_rfl)
theorem Ci:bC Tryz.prog 203:=e (by kernel_rfl)
def sR:=[m 25 2,m 26 1,o 27 (.bin .sub (.t 25) (.t 26)),o 28 (.bin .eql (.t 27) (aj 1))]
def GU:=[m 29 2,m 10 29]
def GY:=[m 30 3,m 11 30]
def G3:=[m 31 10,m 32 11,lt 33 31 32]
def abu:=[m 34 10,m 35 11,o 36 (.bin .add (.t 34) (.t 35)),o 37 (.conv .u64 (.t 36)),o 38 (.bin .shr (.t 37) (.c (.int .u64 1))),o 39 (.conv .i64 (.t 38)),m 12 39]
def abA:=[m 40 4,m 41 0,m 42 12,o 43 (.is 1 (.t 41) (.t 42)),l 44 43,m 45 0,m 46 1,o 47 (.is 1 (.t 45) (.t 46)),l 48 47,o 49 (.eF (.t 40) [.t 44,.t 48]),o 50 (.bin .lss (.t 49) (aj 0))]
def Xm:=some [[],[],[],[1,2],[3],[],[],[5,6],[7],[0,4,8],[9]]
def abB:=[m 51 12,ad 52 51 1,m 10 52]
def abC:=[m 53 12,m 11 53]
def G7:=[m 54 1,m 13 54]
def abD:=[m 55 13,m 56 10,o 57 (.bin .sub (.t 56) (aj 1)),lt 58 55 57]
def aba:=[m 61 0,m 62 13,m 63 0,m 64 13,ad 65 64 1,m 66 0,m 67 13,ad 68 67 1,o 69 (.is 1 (.t 66) (.t 68)),l 70 69,m 71 0,m 72 13,o 73 (.is 1 (.t 71) (.t 72)),l 74 73,o 75 (.is 1 (.t 61) (.t 62)),p (.bl none (.t 75) (.t 70)),o 76 (.is 1 (.t 63) (.t 65)),p (.bl none (.t 76) (.t 74))]
def Xi:=some [[],[],[],[],[3],[],[],[6],[5,7],[8],[],[],[10,11],[12],[0,1,0,1,5,6,7,8,9,13],[14,9,0,1,5,6,7,8,9,13],[2,4,0,1,2,3,4,5,6,7,8,9,10,11,12,13,14,15],[16,13,15,0,1,2,3,4,5,6,7,8,9,10,11,12,13,14,15]]
def abb:=[m 59 13,ad 60 59 1,m 13 60]
def wF:=[m 77 3,m 78 2,o 79 (.bin .sub (.t 77) (.t 78)),o 80 (.bin .eql (.t 79) (aj 1))]
def GV:=[m 81 1,m 14 81]
def GW:=[m 82 2,m 15 82]
def GX:=[m 83 14,m 84 15,lt 85 83 84]
def abc:=[m 86 14,m 87 15,o 88 (.bin .add (.t 86) (.t 87)),o 89 (.conv .u64 (.t 88)),o 90 (.bin .shr (.t 89) (.c (.int .u64 1))),o 91 (.conv .i64 (.t 90)),m 16 91]
def abd:=[m 92 4,m 93 0,m 94 2,o 95 (.is 1 (.t 93) (.t 94)),l 96 95,m 97 0,m 98 16,o 99 (.is 1 (.t 97) (.t 98)),l 100 99,o 101 (.eF (.t 92) [.t 96,.t 100]),o 102 (.bin .lss (.t 101) (aj 0)),no 103 102]
def Xj:=some [[],[],[],[1,2],[3],[],[],[5,6],[7],[0,4,8],[9],[10]]
def abe:=[m 104 16,ad 105 104 1,m 14 105]
def abf:=[m 106 16,m 15 106]
def GZ:=[m 107 2,m 17 107]
def abg:=[m 108 17,m 109 14,o 110 (.bin .gtr (.t 108) (.t 109))]
def abh:=[m 113 0,m 114 17,m 115 0,m 116 17,o 117 (.bin .sub (.t 116) (aj 1)),m 118 0,m 119 17,o 120 (.bin .sub (.t 119) (aj 1)),o 121 (.is 1 (.t 118) (.t 120)),l 122 121,m 123 0,m 124 17,o 125 (.is 1 (.t 123) (.t 124)),l 126 125,o 127 (.is 1 (.t 113) (.t 114)),p (.bl none (.t 127) (.t 122)),o 128 (.is 1 (.t 115) (.t 117)),p (.bl none (.t 128) (.t 126))]
def Xk:=some [[],[],[],[],[3],[],[],[6],[5,7],[8],[],[],[10,11],[12],[0,1,0,1,5,6,7,8,9,13],[14,9,0,1,5,6,7,8,9,13],[2,4,0,1,2,3,4,5,6,7,8,9,10,11,12,13,14,15],[16,13,15,0,1,2,3,4,5,6,7,8,9,10,11,12,13,14,15]]
def abi:=[m 111 17,o 112 (.bin .sub (.t 111) (aj 1)),m 17 112]
def G0:=[m 129 1,m 130 3,o 131 (.bin .add (.t 129) (.t 130)),o 132 (.conv .u64 (.t 131)),o 133 (.bin .shr (.t 132) (.c (.int .u64 1))),o 134 (.conv .i64 (.t 133)),m 18 134]
def G1:=[m 135 18,m 136 2,o 137 (.bin .add (.t 135) (.t 136)),m 19 137]
def G2:=[bg 20 0,bg 21 0]
def abj:=[m 138 2,m 139 18,o 140 (.bin .gtr (.t 138) (.t 139))]
def abk:=[m 141 19,m 142 3,o 143 (.bin .sub (.t 141) (.t 142)),m 20 143]
def abl:=[m 144 18,m 21 144]
def abm:=[m 145 1,m 20 145]
def abn:=[m 146 2,m 21 146]
def G4:=[m 147 19,o 148 (.bin .sub (.t 147) (aj 1)),m 22 148]
def G5:=[m 149 20,m 150 21,lt 151 149 150]
def abo:=[m 152 20,m 153 21,o 154 (.bin .add (.t 152) (.t 153)),o 155 (.conv .u64 (.t 154)),o 156 (.bin .shr (.t 155) (.c (.int .u64 1))),o 157 (.conv .i64 (.t 156)),m 23 157]
def abp:=[m 158 4,m 159 0,m 160 22,m 161 23,o 162 (.bin .sub (.t 160) (.t 161)),o 163 (.is 1 (.t 159) (.t 162)),l 164 163,m 165 0,m 166 23,o 167 (.is 1 (.t 165) (.t 166)),l 168 167,o 169 (.eF (.t 158) [.t 164,.t 168]),o 170 (.bin .lss (.t 169) (aj 0)),no 171 170]
def Xl:=some [[],[],[],[],[2,3],[1,4],[5],[],[],[7,8],[9],[0,6,10],[11],[12]]
def abq:=[m 172 23,ad 173 172 1,m 20 173]
def abr:=[m 174 23,m 21 174]
def G6:=[m 175 19,m 176 20,o 177 (.bin .sub (.t 175) (.t 176)),m 24 177]
def abt:=[m 178 20,m 179 2,lt 180 178 179,m 181 180,dj 182 2 181,dj 183 24 181,bQ 184 (.bin .lss (.t 182) (.t 183)) 181,and 185 181 184]
def abv:=[m 186 0,m 187 20,m 188 2,m 189 24,m 190 4,o 191 (.call 213 [.t 186,.t 187,.t 188,.t 189,.t 190])]
def abw:=[m 192 1,m 193 20,lt 194 192 193,m 195 194,dj 196 20 195,dj 197 18 195,bQ 198 (.bin .lss (.t 196) (.t 197)) 195,and 199 195 198]
def abx:=[m 200 0,m 201 1,m 202 20,m 203 18,m 204 4,o 205 (.call 204 [.t 200,.t 201,.t 202,.t 203,.t 204])]
def aby:=[m 206 18,m 207 24,lt 208 206 207,m 209 208,dj 210 24 209,dj 211 3 209,bQ 212 (.bin .lss (.t 210) (.t 211)) 209,and 213 209 212]
def abz:=[m 214 0,m 215 18,m 216 24,m 217 3,m 218 4,o 219 (.call 204 [.t 214,.t 215,.t 216,.t 217,.t 218])]
def su:aP:=(s (s (r sR) (.cond (.t 28) (s (r GU) (s (r GY) (s (.block 0 (.loop (s (s (r G3) (.cond (.t 33) .skip (.exit 0))) (.block 1 (s (r abu) (s (.cg Xm abA) (.cond (.t 50) (r abB) (r abC)))))))) (s (s (r G7) (.block 2 (.loop (s (s (r abD) (.cond (.t 58) .skip (.exit 2))) (s (.block 3 (.cg Xi aba)) (r abb)))))) .ret)))) .skip)) (s (s (r wF) (.cond (.t 80) (s (r GV) (s (r GW) (s (.block 4 (.loop (s (s (r GX) (.cond (.t 85) .skip (.exit 4))) (.block 5 (s (r abc) (s (.cg Xj abd) (.cond (.t 103) (r abe) (r abf)))))))) (s (s (r GZ) (.block 6 (.loop (s (s (r abg) (.cond (.t 110) .skip (.exit 6))) (s (.block 7 (.cg Xk abh)) (r abi)))))) .ret)))) .skip)) (s (r G0) (s (r G1) (s (r G2) (s (s (r abj) (.cond (.t 140) (s (r abk) (r abl)) (s (r abm) (r abn)))) (s (r G4) (s (.block 8 (.loop (s (s (r G5) (.cond (.t 151) .skip (.exit 8))) (.block 9 (s (r abo) (s (.cg Xl abp) (.cond (.t 171) (r abq) (r abr)))))))) (s (r G6) (s (s (r abt) (.cond (.t 185) (r abv) .skip)) (s (s (r abw) (.cond (.t 199) (r abx) .skip)) (s (r aby) (.cond (.t 213) (r abz) .skip)))))))))))))
def tR:List a6:=[]
theorem vf:bE Tryz.prog Tryz.f204 su:=e (by kernel_rfl)
theorem vq:bF Tryz.prog Tryz.f204 tR:=e (by kernel_rfl)
theorem vc:bC Tryz.prog 204:=e (by kernel_rfl)
def Hh:=[o 2 (.mv bh)]
def Hi:=[m 3 0,o 4 (.bin .eql (.t 3) (aj 0)),m 5 4,fo 6 0 5,on 7 (.call 160 [.t 6]) 5,on 8 (.un .not (.t 7)) 5,or 9 5 8,m 2 9]
def Bv:aP:=(s (r Hh) (s (r Hi) .ret))
def Mr:List a6:=[.tmp 2]
theorem TZ:bE Tryz.prog Tryz.f211 Bv:=e (by kernel_rfl)
theorem V5:bF Tryz.prog Tryz.f211 Mr:=e (by kernel_rfl)
theorem R8:bC Tryz.prog 211:=e (by kernel_rfl)
def Hj:=[o 6 (.mv bh)]
def Hk:=[l 7 1,aC 8 5 2,aC 9 6 3,m 10 0,o 11 (.call 199 [.t 8,.t 9,.t 10]),m 12 0,o 13 (.ia 6 1 (.t 4) (.t 12)),l 14 13,o 15 (.eF (.t 7) [.t 11,.t 14]),m 6 15]
def Xo:=some [[],[],[],[],[1,2,3],[],[5],[6],[0,4,7,4],[8,8,0,1,2,3,4,5,6,7,8]]
def Bw:aP:=(s (r Hj) (s (.cg Xo Hk) .ret))
def Ms:List a6:=[.tmp 6]
theorem T0:bE Tryz.prog Tryz.f212 Bw:=e (by kernel_rfl)
theorem V6:bF Tryz.prog Tryz.f212 Ms:=e (by kernel_rfl)
theorem R9:bC Tryz.prog 212:=e (by kernel_rfl)
def Hl:=[m 12 2,m 13 1,o 14 (.bin .sub (.t 12) (.t 13)),m 10 14]
def Hm:=[m 15 3,m 16 2,o 17 (.bin .sub (.t 15) (.t 16)),m 11 17]
def Hn:=[m 18 10,m 19 11,o 20 (.bin .neq (.t 18) (.t 19))]
def Ho:=[m 21 10,m 22 11,o 23 (.bin .gtr (.t 21) (.t 22))]
def Hp:=[m 24 0,m 25 2,m 26 10,o 27 (.bin .sub (.t 25) (.t 26)),m 28 2,m 29 11,m 30 4,o 31 (.call 216 [.t 24,.t 27,.t 28,.t 29,.t 30])]
def Hq:=[m 32 10,m 33 11,o 34 (.bin .sub (.t 32) (.t 33)),m 10 34]
def Hr:=[m 35 0,m 36 2,m 37 10,o 38 (.bin .sub (.t 36) (.t 37)),m 39 2,m 40 11,o 41 (.bin .add (.t 39) (.t 40)),m 42 10,o 43 (.bin .sub (.t 41) (.t 42)),m 44 10,m 45 4,o 46 (.call 216 [.t 35,.t 38,.t 43,.t 44,.t 45])]
def Hs:=[m 47 11,m 48 10,o 49 (.bin .sub (.t 47) (.t 48)),m 11 49]
def Ht:=[m 50 0,m 51 2,m 52 10,o 53 (.bin .sub (.t 51) (.t 52)),m 54 2,m 55 10,m 56 4,o 57 (.call 216 [.t 50,.t 53,.t 54,.t 55,.t 56])]
def Bx:aP:=(s (r Hl) (s (r Hm) (s (.block 0 (.loop (s (s (r Hn) (.cond (.t 20) .skip (.exit 0))) (.block 1 (s (r Ho) (.cond (.t 23) (s (r Hp) (r Hq)) (s (r Hr) (r Hs)))))))) (r Ht))))
def Mt:List a6:=[]
theorem T3:bE Tryz.prog Tryz.f213 Bx:=e (by kernel_rfl)
theorem V7:bF Tryz.prog Tryz.f213 Mt:=e (by kernel_rfl)
theorem Sa:bC Tryz.prog 213:=e (by kernel_rfl)
def Hu:=[bg 10 0]
def abE:=[m 11 10,m 12 3,lt 13 11 12]
def abF:=[m 16 0,m 17 1,m 18 10,o 19 (.bin .add (.t 17) (.t 18)),m 20 0,m 21 2,m 22 10,o 23 (.bin .add (.t 21) (.t 22)),m 24 0,m 25 2,m 26 10,o 27 (.bin .add (.t 25) (.t 26)),o 28 (.is 1 (.t 24) (.t 27)),l 29 28,m 30 0,m 31 1,m 32 10,o 33 (.bin .add (.t 31) (.t 32)),o 34 (.is 1 (.t 30) (.t 33)),l 35 34,o 36 (.is 1 (.t 16) (.t 19)),p (.bl none (.t 36) (.t 29)),o 37 (.is 1 (.t 20) (.t 23)),p (.bl none (.t 37) (.t 35))]
def Xp:=some [[],[],[],[1,2],[],[],[],[5,6],[],[],[],[9,10],[8,11],[12],[],[],[],[15,16],[14,17],[18],[0,3,0,1,2,3,8,9,10,11,12,13,19],[20,13,0,1,2,3,8,9,10,11,12,13,19],[4,7,0,1,2,3,4,5,6,7,8,9,10,11,12,13,14,15,16,17,18,19,20,21],[22,19,21,0,1,2,3,4,5,6,7,8,9,10,11,12,13,14,15,16,17,18,19,20,21]]
def abG:=[m 14 10,ad 15 14 1,m 10 15]
def By:aP:=(s (r Hu) (.block 0 (.loop (s (s (r abE) (.cond (.t 13) .skip (.exit 0))) (s (.block 1 (.cg Xp abF)) (r abG))))))
def Mu:List a6:=[]
theorem T4:bE Tryz.prog Tryz.f216 By:=e (by kernel_rfl)
theorem V8:bF Tryz.prog Tryz.f216 Mu:=e (by kernel_rfl)
theorem Sb:bC Tryz.prog 216:=e (by kernel_rfl)
end Go.Proofs.YtcldiigclhgafaaGreat
namespace Go.Proofs.YtcldiigclhgafaaGreat
open Go Go.Abs
open Go.Abs.Enc (enc)
theorem zK(n lo hi:Int):aD Tryz.prog 94 [enc n,enc lo,enc hi] (enc (decide (lo≤n)&&decide (n≤hi))):=by
 refine aD.bA Tryz.func94 SL UD WI (t7 rfl) (fun hwf W0 D0 E1 =>?_);simp only[B8,M5,bp,zz4,Nat.reduceAdd];refine .ao (by decide +kernel) fun K hK =>?_;simp only[I0,ab,simprocAttr];refine .done (hK _ ?_);clear hK K;refine .ao (by decide +kernel) fun K hK =>?_;simp only[I1,ab,simprocAttr];refine .guard (fun h =>?_) (fun h =>?_)
 ·simp only[ab,simprocAttr,h];refine .done (hK _ ?_);clear hK K;refine J.ret ?_;simp only[ab,simprocAttr]
  simp_all
 ·simp only[ab,simprocAttr,h];refine .done (hK _ ?_);clear hK K;refine J.ret ?_;simp only[ab,simprocAttr];simp at h;simp;omega
theorem zH(l:List Int)(n:Int):aD Tryz.prog 36 [enc l,enc n] (enc (decide (n∈l))):=by
 refine aD.bA Tryz.func36 Sm Uf Wj (t7 rfl) (fun hwf W0 D0 E1 =>?_);simp only[BJ,MF,bp,zz4];have hlen:l.length≤maxLen:=((lj l).1 hwf.1).1;simp only[maxLen] at hlen;refine .ao (by decide +kernel) fun K hK =>?_;simp only[HX,ab,simprocAttr];refine .done (hK _ ?_);clear hK K;refine J.seq ?_;refine .ao (by decide +kernel) fun K hK =>?_;simp only[HY,ab,simprocAttr];refine .done (hK _ ?_);clear hK K;refine J.block (J.loop (fun i:Nat=>au [(0,enc l),(1,.int .i64 n),(4,.bool false),(5,.int .i64 i)] []) (fun i=>i≤l.length∧n∉l.take i) (fun i=>l.length-i) 0 ⟨zw7 _,by simp⟩ ?_ (fun i hi =>?_))
 ·refine aF.bM ?_ ?_ ?_ ?_ <;>simp[aX,bK,bJ,a8,aY,I.only,bt]
 ·refine J.seq (J.seq ?_);refine .bu (by decide +kernel) fun K hK =>?_;simp only[HZ,ab,simprocAttr]
  try simp only[bG,ab,simprocAttr]
  refine .done (hK _ ?_);clear hK K;try simp only[ar]
  refine J.bH ?_;simp only[aq,ab,simprocAttr];refine ⟨fun h =>?_,fun h =>?_⟩
  ·have hlt:i<l.length:=by simpa using h
   refine J.skip ?_;try simp only[ar,simprocAttr]
   refine J.seq (J.block ?_);refine .ao (by decide +kernel) fun K hK =>?_;simp only[H0,ab,simprocAttr]
   try simp only[fH 1 hlt rfl,ab,simprocAttr]
   refine .done (hK _ ?_);clear hK K;refine J.bH ?_;simp only[aq,ab,simprocAttr];refine ⟨fun h =>?_,fun h =>?_⟩
   ·refine .ao (by decide +kernel) fun K hK =>?_;simp only[H2,ab,simprocAttr];refine .done (hK _ ?_);clear hK K;refine J.ret ?_;simp only[bL,ar,ab,simprocAttr];simp at h;simp[←h]
   ·refine J.skip ?_;try simp only[ar,bL,simprocAttr]
    refine .bu (by decide +kernel) fun K hK =>?_;simp only[H3,ab,simprocAttr];refine .done (hK _ ?_);clear hK K;try simp only[ar]
    refine ⟨i+1,⟨by omega,fun hm =>?_⟩,by omega,?_⟩
    ·rw[zy3 hlt] at hm;rcases zy1.1 hm with hm | hm
     ·exact hi.2 hm
     ·simp at h hm;exact h hm.symm
    ·rw[cE _ (by omega) (by omega)];refine aF.bM ?_ ?_ ?_ ?_ <;>simp[aX,bK,bJ,a8,aY,I.only,bt]
  ·have hge:i=l.length:=by simp at h;omega
   refine J.exit ?_;try simp only[ar,bL,simprocAttr]
   refine .ao (by decide +kernel) fun K hK =>?_;simp only[H4,ab,simprocAttr];refine .done (hK _ ?_);clear hK K;refine J.ret ?_;simp only[ab,simprocAttr];simp[hge] at hi;simp[hi]
theorem y6(n d:Int)(h0:0<d)(h1:d≤4611686018427387904):IntKind.i64.wrap (n.tmod d+d)=n.tmod d+d∧(n.tmod d+d).tmod d=n%d:=by
 have a1:n.tmod d<d:=Int.tmod_lt_of_pos n h0;have a2:-d<n.tmod d:=by
  have:=Int.tmod_lt_of_pos (-n) h0;rw[Int.neg_tmod] at this;omega
 refine ⟨cE _ (by omega) (by omega),?_⟩;rw[Int.tmod_eq_emod_of_nonneg (by omega),Int.add_emod_right];rw[Int.tmod_def,Int.sub_mul_emod_self_left]
theorem gB(n d:Int)(h0:0<d)(h1:d≤4611686018427387904):aD Tryz.prog 25 [enc n,enc d] (enc (n%d)):=by
 refine aD.bA Tryz.func25 Sf T8 Wc (t7 rfl) (fun hwf W0 D0 E1 =>?_);simp only[BC,My,bp,zz4];have hd:¬ d=0:=by omega
 refine .ao (by decide +kernel) fun K hK =>?_;simp only[HE,ab,simprocAttr];refine .done (hK _ ?_);clear hK K;refine .ao (by decide +kernel) fun K hK =>?_;simp only[HF,ab,simprocAttr]
 try simp only[hd,ab,simprocAttr]
 refine .done (hK _ ?_);clear hK K;refine J.ret ?_;simp only[ab,simprocAttr];rw[(y6 n d h0 h1).1,(y6 n d h0 h1).2]
def bN(c:List Int)(i:Int):Int:=if c=[] then 0 else c.getD (i%c.length).toNat 0
theorem l9(c:List Int)(i:Int)(hc:c.length≤4611686018427387904):aD Tryz.prog 34 [enc c,enc i] (enc (bN c i)):=by
 refine aD.bA Tryz.func34 Sk Ud Wh (t7 rfl) (fun hwf W0 D0 E1 =>?_);simp only[BH,MD,bp,zz4];refine .ao (by decide +kernel) fun K hK =>?_;simp only[HG,ab,simprocAttr];refine .done (hK _ ?_);clear hK K;refine J.seq (J.seq ?_);refine .bu (by decide +kernel) fun K hK =>?_;simp only[HI,ab,simprocAttr]
 try simp only[bG,ab,simprocAttr]
 refine .done (hK _ ?_);clear hK K;try simp only[ar]
 refine J.bH ?_;simp only[aq,ab,simprocAttr];refine ⟨fun h =>?_,fun h =>?_⟩
 ·refine .ao (by decide +kernel) fun K hK =>?_;simp only[HJ,ab,simprocAttr];refine .done (hK _ ?_);clear hK K;refine J.ret ?_;simp only[ar,ab,simprocAttr];simp at h;simp[bN,h]
 ·simp at h;have hpos:0<c.length:=List.length_pos_iff.2 h;have k1:0≤i%(c.length:Int):=zw8 _ (by omega);have k2:i%(c.length:Int)<c.length:=zv6 _ (by omega);have k3:(i%(c.length:Int)).toNat<c.length:=by omega
  refine J.skip ?_;try simp only[ar,simprocAttr]
  refine .ao (by decide +kernel) fun K hK =>?_;simp only[HK,ab,simprocAttr]
  try simp only[bG,zz9,zx1,ab,simprocAttr]
  refine .flat _ (gB i c.length (by omega) (by omega)) rfl ?_
  try simp only[ab,simprocAttr]
  try simp only[JG 1 ⟨k1,k3⟩ rfl,ab,simprocAttr]
  refine .done (hK _ ?_);clear hK K;refine J.ret ?_;simp only[ab,simprocAttr];simp[bN,h,zz1,k3]
def bS(lo hi n:Int):Bool:=decide (lo≤n)&&decide (n≤hi)
def nY(a b:Int):Int:=IntKind.i64.wrap ((BitVec.ofInt IntKind.i64.bits a &&& BitVec.ofInt IntKind.i64.bits b).toNat:Int)
def shl(a:Int)(k:Nat):Int:=IntKind.i64.wrap (a*2^min k IntKind.i64.bits)
theorem OF(m:aR 6 Int):aD Tryz.prog 100 [enc m] (enc (if (List.range 6).all (fun i=>bS 0 4 (m.g i)) then (0:Int) else 10)):=by
 refine aD.bA Tryz.func100 Q6 SV U2 (t7 rfl) (fun hwf W0 D0 E1 =>?_);simp only[An,Lm,bp];refine .ao (by decide +kernel) fun K hK =>?_;simp only[Du,ab,simprocAttr];refine .done (hK _ ?_);clear hK K;refine J.seq ?_;refine .ao (by decide +kernel) fun K hK =>?_;simp only[Dv,ab,simprocAttr];refine .done (hK _ ?_);clear hK K;refine J.block (J.loop (fun i:Nat=>au [(1,.ptr 1 []),(2,.int .i64 0),(3,.int .i64 i)] [(1,.box (enc m))]) (fun j=>j≤6∧∀ i,i<j→bS 0 4 (m.g i)=true) (fun i=>6-i) 0 ⟨by omega,fun k h=>by omega⟩ ?_ (fun i hi =>?_))
 ·refine aF.bM ?_ ?_ ?_ ?_ <;>simp[aX,bK,bJ,a8,al,aY,cu,I.only,ai.only,bt]
 ·refine J.seq (J.seq ?_);refine .bu (by decide +kernel) fun K hK =>?_;simp only[Dw,ab,simprocAttr];refine .done (hK _ ?_);clear hK K;try simp only[ar]
  refine J.bH ?_;simp only[aq,ab,simprocAttr];refine ⟨fun h =>?_,fun h =>?_⟩
  ·have hlt:i<6:=by simp at h;omega
   refine J.skip ?_;try simp only[ar,simprocAttr]
   refine J.seq (J.block ?_);refine .ao (by decide +kernel) fun K hK =>?_;simp only[Dy,ab,simprocAttr]
   try simp only[bG,jv 1 m hlt rfl,eS m hlt,ab,simprocAttr]
   refine .flat _ (zK _ 0 4) rfl ?_
   try simp only[ab,simprocAttr]
   refine .done (hK _ ?_);clear hK K;refine J.bH ?_;simp only[aq,ab,simprocAttr];refine ⟨fun h =>?_,fun h =>?_⟩
   ·refine .ao (by decide +kernel) fun K hK =>?_;simp only[Dz,ab,simprocAttr];refine .done (hK _ ?_);clear hK K;refine J.ret ?_;simp only[bL,ar,ab,simprocAttr];rw[nW i hlt]
    ·simp
    ·simp at h;simp[bS];omega
   ·refine J.skip ?_;try simp only[ar,bL,simprocAttr]
    refine .bu (by decide +kernel) fun K hK =>?_;simp only[DA,ab,simprocAttr];refine .done (hK _ ?_);clear hK K;try simp only[ar]
    refine ⟨i+1,⟨by omega,fun k hk =>?_⟩,by omega,?_⟩
    ·by_cases hk':k=i
     ·subst hk';simpa[bS] using h
     ·exact hi.2 k (by omega)
    ·rw[cE _ (by omega) (by omega)];refine aF.bM ?_ ?_ ?_ ?_ <;>simp[aX,bK,bJ,a8,al,aY,cu,I.only,ai.only,bt]
  ·have hge:i=6:=by simp at h;omega
   subst hge;refine J.exit ?_;try simp only[ar,bL,simprocAttr]
   refine .ao (by decide +kernel) fun K hK =>?_;simp only[DB,ab,simprocAttr];refine .done (hK _ ?_);clear hK K;refine J.ret ?_;simp only[ab,simprocAttr];rw[qv hi.2];simp
structure ca where
 bP:Int
 mark:aR 6 Int
instance:Enc ca where
 enc g:=.agg [.int .i64 g.bP,enc g.mark]
 sz:=7
 aO:=.ew [.one,.ew (List.replicate 6 .one)]
 gf:=true
 done g:=by simp only[I.done,I.eV,Enc.done,zw3]
 size g:=by simp only[I.size,I.sizes,gp,kN,kO]
 kz g:=by simp only[I.aO,I.cX,eO,sF,sG]
 agg _:=rfl
structure b7 where
 eR:aR 5 Int
 eP:Int
 given:List ca
instance:Enc b7 where
 enc m:=.agg [enc m.eR,.int .i64 m.eP,enc m.given]
 sz:=7
 aO:=.ew [.ew (List.replicate 5 .one),.one,.one]
 gf:=true
 done m:=by simp only[I.done,I.eV,Enc.done,zw3]
 size m:=by simp only[I.size,I.sizes,gp,kN,kO,vC]
 kz m:=by simp only[I.aO,I.cX,eO,sF,sG,CU]
 agg _:=rfl
theorem lT{fs:List I}{f off:Nat}{v:I}(h1:f<fs.length)(h:I.sizes (fs.take f)=off):ef fs f off v=some v:=by simp[ef,h,h1]
theorem cG :
  (∀ m:b7,(enc m).dA=some [enc m.eR,.int .i64 m.eP,enc m.given])∧(∀ g:ca,(enc g).dA=some [.int .i64 g.bP,enc g.mark]) ∧
  (∀ (w:aR 5 Int) (n:Int) (g:List ca) v,ef [enc w,.int .i64 n,enc g] 0 0 v=some v)∧(∀ (w:aR 5 Int) (n:Int) (g:List ca) v,ef [enc w,.int .i64 n,enc g] 1 5 v=some v)∧(∀ (w:aR 5 Int) (n:Int) (g:List ca) v,ef [enc w,.int .i64 n,enc g] 2 6 v=some v) ∧
  (∀ (n:Int) (m:aR 6 Int) v,ef [.int .i64 n,enc m] 0 0 v=some v)∧(∀ (n:Int) (m:aR 6 Int) v,ef [.int .i64 n,enc m] 1 1 v=some v) ∧
  (∀ (g:List ca),bY none (enc g)=true)∧(∀ (g:List Int),bY none (enc g)=true)∧(∀ (g:aR 5 Int),bY (some 5) (enc g)=true)∧(∀ (g:aR 6 Int),bY (some 6) (enc g)=true)∧(∀ (g:ca),bY (some 7) (enc g)=true)∧(∀ (g:b7),bY (some 7) (enc g)=true) ∧
  (∀ (fs:List I) x,(x::fs)[0]?=some x)∧(∀ (fs:List I) x n,(x::fs)[n+1]?=fs[n]?)∧(∀ (fs:List I) x,(x::fs)[1]?=fs[0]?)∧(∀ (fs:List I) x,(x::fs)[2]?=fs[1]?) :=
 ⟨fun _=>rfl,fun _=>rfl,fun _ _ _ _=>lT (t7 rfl) rfl,fun w n g v=>lT (t7 rfl) (by simp[I.sizes,gp,kN,kO]),fun w n g v=>lT (t7 rfl) (by simp[I.sizes,I.size,gp,kN,kO]),fun _ _ _=>lT (t7 rfl) rfl,fun _ _ _=>lT (t7 rfl) (by simp[I.sizes,I.size]),
  fun _=>by simp[mq,nh],fun _=>by simp[mq,nh],fun _=>by simp[fQ,vB,kN,kO],fun _=>by simp[fQ,vB,kN,kO],fun _=>by rw[fQ];rfl,fun _=>by rw[fQ];rfl,
  fun _ _=>rfl,fun _ _ _=>rfl,fun _ _=>rfl,fun _ _=>rfl⟩
theorem rY(n lo hi:Int):aD Tryz.prog 121 [enc n,enc lo,enc hi] (enc (bS lo hi n)):=by
 refine aD.bA Tryz.func121 Rf S3 Va (t7 rfl) (fun hwf W0 D0 E1 =>?_);simp only[Aw,Lu,bp,zz4,Nat.reduceAdd];refine .ao (by decide +kernel) fun K hK =>?_;simp only[D9,ab,simprocAttr];refine .done (hK _ ?_);clear hK K;refine .ao (by decide +kernel) fun K hK =>?_;simp only[Ea,ab,simprocAttr];refine .guard (fun h =>?_) (fun h =>?_)
 ·simp only[ab,simprocAttr,h];refine .done (hK _ ?_);clear hK K;refine J.ret ?_;simp only[ab,simprocAttr]
  simp_all[bS]
 ·simp only[ab,simprocAttr,h];refine .done (hK _ ?_);clear hK K;refine J.ret ?_;simp only[ab,simprocAttr];simp at h;simp[bS];omega
theorem zp(n:Int):aD Tryz.prog 160 [enc n] (enc (bS 0 31 n)):=by
 refine aD.bA Tryz.func160 RG Tw VC (t7 rfl) (fun hwf W0 D0 E1 =>?_);simp only[AZ,LY,bp];refine .ao (by decide +kernel) fun K hK =>?_;simp only[Fw,ab,simprocAttr];refine .done (hK _ ?_);clear hK K;refine .ao (by decide +kernel) fun K hK =>?_;simp only[Fx,ab,simprocAttr];refine .flat _ (rY n 0 31) rfl ?_
 try simp only[ab,simprocAttr]
 refine .done (hK _ ?_);clear hK K;refine J.ret ?_;simp only[ab,simprocAttr]
theorem zt(a b:Int):aD Tryz.prog 196 [enc a,enc b] (enc (nY a b != 0)):=by
 refine aD.bA Tryz.func196 R0 TR VX (t7 rfl) (fun hwf W0 D0 E1 =>?_);simp only[Bm,Mj,bp,zz4];refine .ao (by decide +kernel) fun K hK =>?_;simp only[Gp,ab,simprocAttr];refine .done (hK _ ?_);clear hK K;refine .ao (by decide +kernel) fun K hK =>?_;simp only[Gq,ab,simprocAttr];refine .done (hK _ ?_);clear hK K;refine J.ret ?_;simp only[ab,simprocAttr];rfl
theorem uL(w:aR 5 Int)(m:aR 6 Int)(i:Nat)(hi:i<6)(h0:0≤m.g i)(h5:m.g i<5):aD Tryz.prog 199 [enc w,enc m,enc (i:Int)] (enc (w.g (m.g i).toNat)):=by
 refine aD.bA Tryz.func199 R3 TU V0 (t7 rfl) (fun hwf W0 D0 E1 =>?_);simp only[Bp,Mm,bp,zz4,Nat.reduceAdd];refine .ao (by decide +kernel) fun K hK =>?_;simp only[GB,ab,simprocAttr];refine .done (hK _ ?_);clear hK K;refine .ao (by decide +kernel) fun K hK =>?_;simp only[GC,ab,simprocAttr];have hk:(m.g i).toNat<5:=by omega
 try simp only[bG,jv 1 m hi rfl,eS m hi,ab,simprocAttr]
 try simp only[bG,gb 1 w ⟨h0,h5⟩ rfl,eS w hk,ab,simprocAttr]
 refine .done (hK _ ?_);clear hK K;refine J.ret ?_;simp only[ab,simprocAttr]
def eM(p:Nat→Bool):Nat→Nat
 |0=>0
 |n+1=>eM p n+if p n then 1 else 0
theorem vn(p:Nat→Bool):∀ n,eM p n≤n
 |0=>zz7 _
 |n+1=>by have:=vn p n;simp only[eM];split <;>omega
def iP(w:aR 5 Int)(a b:aR 6 Int)(i:Nat):Bool:=nY (w.g (a.g i).toNat) (w.g (b.g i).toNat)==0
def dV(m:aR 6 Int):Bool:=(List.range 6).all fun i=>bS 0 4 (m.g i)
theorem nG{m:aR 6 Int}(h:dV m=true){i:Nat}(hi:i<6):0≤m.g i∧m.g i<5:=by
 simp only[dV,zy8,zx5] at h;have:=h i hi;simp[bS] at this;omega
theorem OP(w:aR 5 Int)(a b:aR 6 Int)(ha:dV a=true)(hb:dV b=true):aD Tryz.prog 129 [enc w,enc a,enc b] (enc (eM (iP w a b) 6:Int)):=by
 refine aD.bA Tryz.func129 Rn Tb Vi (t7 rfl) (fun hwf W0 D0 E1 =>?_);simp only[AF,LC,bp,zz4,Nat.reduceAdd];refine .ao (by decide +kernel) fun K hK =>?_;simp only[Et,ab,simprocAttr];refine .done (hK _ ?_);clear hK K;refine .ao (by decide +kernel) fun K hK =>?_;simp only[Eu,ab,simprocAttr];refine .done (hK _ ?_);clear hK K;refine J.seq (J.seq ?_);refine .bu (by decide +kernel) fun K hK =>?_;simp only[Ev,ab,simprocAttr];refine .done (hK _ ?_);clear hK K;try simp only[ar]
 refine J.block (J.loop (fun i:Nat=>au [(3,.ptr 3 []),(4,.ptr 4 []),(5,.ptr 5 []),(7,.int .i64 (eM (iP w a b) i)),(8,.int .i64 i)] [(3,.box (enc w)),(4,.box (enc a)),(5,.box (enc b))]) (fun i=>i≤6) (fun i=>6-i) 0 (by omega) ?_ (fun i hi =>?_))
 ·simp only[eM];refine aF.bM ?_ ?_ ?_ ?_ <;>simp[aX,bK,bJ,a8,al,aY,cu,I.only,ai.only,bt]
 ·have hc:=vn (iP w a b) i;refine J.seq (J.seq ?_);refine .bu (by decide +kernel) fun K hK =>?_;simp only[Ew,ab,simprocAttr];refine .done (hK _ ?_);clear hK K;try simp only[ar]
  refine J.bH ?_;simp only[aq,ab,simprocAttr];refine ⟨fun h =>?_,fun h =>?_⟩
  ·have hlt:i<6:=by simp at h;omega
   have h1:=nG ha hlt;have h2:=nG hb hlt;refine J.skip ?_;try simp only[ar,simprocAttr]
   refine J.seq (J.block ?_);refine .ao (by decide +kernel) fun K hK =>?_;simp only[Ey,ab,simprocAttr];have k1:(a.g i).toNat<5:=by omega
   have k2:(b.g i).toNat<5:=by omega
   try simp only[bG,jv 1 a hlt rfl,eS a hlt,ab,simprocAttr]
   try simp only[bG,gb 1 w h1 rfl,eS w k1,ab,simprocAttr]
   try simp only[bG,jv 1 b hlt rfl,eS b hlt,ab,simprocAttr]
   try simp only[bG,gb 1 w h2 rfl,eS w k2,ab,simprocAttr]
   refine .done (hK _ ?_);clear hK K;refine J.bH ?_;simp only[aq,ab,simprocAttr];refine ⟨fun h =>?_,fun h =>?_⟩
   ·have hap:iP w a b i=true:=h;refine .bu (by decide +kernel) fun K hK =>?_;simp only[Ez,ab,simprocAttr];refine .done (hK _ ?_);clear hK K;try simp only[ar,bL]
    refine .bu (by decide +kernel) fun K hK =>?_;simp only[v8,ab,simprocAttr];refine .done (hK _ ?_);clear hK K;try simp only[ar]
    refine ⟨i+1,by omega,by omega,?_⟩;rw[cE _ (by omega) (by omega),cE _ (by omega) (by omega)];simp only[eM,hap,if_true];refine aF.bM ?_ ?_ ?_ ?_ <;>simp[aX,bK,bJ,a8,al,aY,cu,I.only,ai.only,bt]
   ·have hap:iP w a b i=false:=h;refine J.skip ?_;try simp only[ar,bL,simprocAttr]
    refine .bu (by decide +kernel) fun K hK =>?_;simp only[v8,ab,simprocAttr];refine .done (hK _ ?_);clear hK K;try simp only[ar]
    refine ⟨i+1,by omega,by omega,?_⟩;rw[cE _ (by omega) (by omega)];simp only[eM,hap,zz6,if_false];refine aF.bM ?_ ?_ ?_ ?_ <;>simp[aX,bK,bJ,a8,al,aY,cu,I.only,ai.only,bt]
  ·have hge:i=6:=by simp at h;omega
   subst hge;refine J.exit ?_;try simp only[ar,bL,simprocAttr]
   refine .ao (by decide +kernel) fun K hK =>?_;simp only[EA,ab,simprocAttr];refine .done (hK _ ?_);clear hK K;refine J.ret ?_;simp only[ab,simprocAttr]
end Go.Proofs.YtcldiigclhgafaaGreat
