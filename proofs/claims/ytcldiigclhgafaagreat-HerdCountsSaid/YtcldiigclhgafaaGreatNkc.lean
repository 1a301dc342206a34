/-
  A part of the proof that the law HerdCounts returns true for every input; conditions: none beyond the statement's own. (part 3 of 7)
-/
import Derived.RangeFuncIn
import Derived.Laws.Externs
import Derived.ProofKit
import Derived.SizedLaws
import Derived.Test.YtcldiigclhgafaaGreatChecked
import Derived.KernelRfl
import Derived.Test.YtcldiigclhgafaaGreatNkb
set_option linter.unusedSimpArgs false
set_option linter.unusedVariables false
set_option maxHeartbeats 16000000
set_option maxRecDepth 100000
namespace Go.Abs
open Go Go.RowKit
open Enc (enc)
mutual
theorem jo{p q:Nat→Bool}(h:∀ n,p n=true→q n=true):∀ x:I,x.only p=true→x.only q=true
 | .agg fs,hx | .tuple fs,hx=>by simp only[I.only] at *;exact iK h fs hx
 | .slice _ es,hx=>by simp only[I.only] at *;exact iK h es hx
 | .ref x,hx=>by simp only[I.only] at *;exact jo h x hx
 | .func _ caps,hx=>by simp only[I.only] at *;exact iK h caps hx
 | .iface _ v,hx=>by simp only[I.only] at *;exact jo h v hx
 | .ptr _ _,hx | .own _ _,hx | .view _ _ _ _ _,hx | .mref _,hx | .dx _,hx=>by simp only[I.only] at *;exact h _ hx
 | .cM ks vs,hx=>by simp only[I.only,zz3] at *;exact ⟨iK h ks hx.1,iK h vs hx.2⟩
 | .bool _,_ | .int _ _,_ | .c6 _,_ | .nilp,_ | .dh,_ | .dW,_ | .raw _,_ | .nils _,_ | .c0 _,_ | .undef,_ | .de,_=>by simp[I.only]
theorem iK{p q:Nat→Bool}(h:∀ n,p n=true→q n=true):∀ xs:List I,I.bZ p xs=true→I.bZ q xs=true
 | [],_=>rfl
 |x::xs,hx=>by
  simp only[I.bZ,zz3] at *;exact ⟨jo h x hx.1,iK h xs hx.2⟩
end
theorem aj.jo{p q:Nat→Bool}(h:∀ n,p n=true→q n=true)(x:aj)(hx:x.only p=true):x.only q=true:=by
 cases x with
 |box y=>simp only[aj.only] at *;exact Abs.jo h y hx
 |bR T sz es=>simp only[aj.only] at *;exact iK h es hx
 |dO o=>rfl
 |c5 T xs=>rfl
 |cC ks vs=>simp only[aj.only,zz3] at *;exact ⟨iK h ks hx.1,iK h vs hx.2⟩
 |it ks vs left cur=>simp only[aj.only,zz3] at *;exact ⟨iK h ks hx.1,iK h vs hx.2⟩
theorem Jg{x:I}(h:x.bj=true):x.cn=true:=by
 cases x <;>first | rfl | simp[I.bj] at h
theorem vC{aD:Bool}{A0:af}{ρ:List (Nat×Nat)}{os:List (Nat×aj)} : ∀ xs:List I,I.bU xs=true→jD aD A0 ρ os xs xs
 | [],_=>trivial
 |x::xs,h=>by
  simp only[I.bU,zz3] at h;exact ⟨.inl ⟨(m5 _ x h.1).symm,kc _ x h.1,Jg h.1⟩,vC xs h.2⟩
structure fE (os os':List (Nat×aj)):Prop where
 same:∀ m,av os' m=av os m
 ok:∀ m x,ak os' m=some x→x.only (av os')=true∧x.eR=true
 oJ:∀ m,av os m=true→1000000≤m
def vn(P:Program)(g:FuncId)(caps:List I)(N:Nat)(item:Nat→List I):Prop :=
 ∀ (Y:Value→List I→List (Nat×aj)→cV→Prop) (v:Value) (al:Nat→List (Nat×aj)→Prop) (Ix:List (Nat×aj)→Prop) (os:List (Nat×aj)),v.oneCell'=true →
  (∀ k os' post,k<N→al k os'→(∀ r os2,(r=.bool true∧al (k+1) os2)∨(r=.bool false∧Ix os2)→post r os2)→Y v (item k) os' post) →
  (∀ k os',al k os'→fE os os')→(∀ os',Ix os'→fE os os')→al 0 os→kQ P g Y (.raw v::caps) os (fun r os'=>r=.tuple []∧(al N os'∨Ix os'))
def dK(o:Obj)(os:List (Nat×aj)):List (Nat×aj):=(1999999,.dO o)::os
theorem l7(o:Obj)(os:List (Nat×aj))(m:Nat):av (dK o os) m=(decide (m=1999999)||av os m):=by
 simp only[dK,av,ak];by_cases h:m=1999999 <;>simp[h]
theorem qc(o:Obj)(os:List (Nat×aj))(m:Nat):ak (dK o os) m=if m=1999999 then some (.dO o) else ak os m:=rfl
theorem fE.dK{os os':List (Nat×aj)}(h:fE os os')(o o':Obj):fE (dK o os) (dK o' os'):=by
 refine ⟨fun m=>by rw[l7,l7,h.same],fun m x hx =>?_,fun m hm =>?_⟩
 ·rw[qc] at hx;split at hx
  ·cases hx;exact ⟨rfl,rfl⟩
  ·obtain ⟨h1,h2⟩:=h.ok m x hx;exact ⟨x.jo (fun n hn=>by rw[l7,hn];simp) h1,h2⟩
 ·rw[l7] at hm;simp only[Bool.or_eq_true,decide_eq_true_eq] at hm;rcases hm with rfl | hm
  ·decide
  ·exact h.oJ m hm
def rQ:List Nat→List I→List (Nat×I)→List (Nat×I)
 |p::ps,v::vs,ts=>rQ ps vs ((p,v)::ts)
 |_,_,ts=>ts
def nh(ρ:List (Nat×Nat))(p:Nat→Bool)(ts:List (Nat×I)):List (Nat×I)→Prop
 | []=>True
 |(k,v)::r=>bO ts k=v.aQ (bD ρ)∧v.only p=true∧nh ρ p ts r
theorem MV{ρ:List (Nat×Nat)}{p:Nat→Bool}{ts:List (Nat×I)} : ∀ {tsR:List (Nat×I)},nh ρ p ts tsR→∀ k,bO tsR k=.de∨(bO ts k=(bO tsR k).aQ (bD ρ)∧(bO tsR k).only p=true)
 | [],_,k=>.inl rfl
 |(j,v)::r,h,k=>by
  simp only[nh] at h;simp only[bO];split
  ·rename_i hk;subst hk;exact .inr ⟨h.1,h.2.1⟩
  ·exact MV h.2.2 k
section
variable {c:cO} {a:Act} {w:World} {D:aT} {E:aW}
theorem aU.zp{A:af}(h:aU c A a w D E){n b:Nat}{o o':Obj}(hn:A.o n=some (.dO o))(aw:E n=some (.op b))(ho:p9 o'=true):aU c (A.aO n (.dO o')) a (w.putObj b o') D E:=by
 have hob:=h.bT n;rw[hn] at hob;obtain ⟨b',k1,k2,k3,k4,k5⟩:=hob;rw[aw] at k1;cases k1;have hnc:o.isCells=false:=by cases o <;>first | rfl | cases k4
 have hlt:b<w.heap.size:=gb k3;have hl:dS w D E (w.putObj b o') D E:=⟨fun _ _ h=>h,fun b1 o1 v _ hv=>vS k3 hnc hv,fun _ _ _ h=>h,fun _ aE l h=>⟨aE,l,h,zz8 _,fun _=>rfl⟩,fun _ _ h=>h,fun _ _ h=>h,fun b1 es ck ae hm=>(World.putObj_heap_other (fun e1=>k5 0 (by rw[←e1];exact ae))).trans hm⟩
 refine ⟨h.sz,h.eT.mono fun B _ hB=>(World.putObj_heap_other (fun e=>by rw[e,k3] at hB;cases hB;cases k4)).trans hB,fun t=>aV.bN hl (h.ef t),h.dQ.trans ⟨rfl,rfl,rfl,by simp,fun k hk=>World.putObj_heap_other (fun e=>hk (e▸k2))⟩,h.da,
  fun b1 o1 ae=>by have:=h.dm b1 o1 ae;simpa using this,fun m =>?_,h.c4,h.dV,h.eZ,h.cN,h.fe,h.lC hl⟩
 simp only[af.aO];by_cases hm:m=n
 ·subst hm;simp only[if_true,di];exact ⟨b,aw,k2,World.putObj_heap_same hlt,ho,k5⟩
 ·simp only[if_neg hm];exact (h.bT m).bN hl rfl fun e b1 he hb=>⟨World.putObj_heap_other (fun e1=>hm (h.c4 m n e _ b1 he aw hb (by rw[e1];rfl))),fun _ ho=>ho⟩
theorem aU.Xv{A:af}(h:aU c A a w D E){n b:Nat}(aw:E n=some (.op b)):aU c ⟨A.t,fun m=>if m=n then none else A.o m⟩ a w D (fun m=>if m=n then none else E m):=by
 have hne:∀ {m:Nat} {e:bS},E m=some e→(∀ b,e≠.op b)→m≠n:=fun he h2 e'=>by
  subst e';rw[aw] at he;cases he;exact h2 _ rfl
 have hl:dS w D E w D (fun m=>if m=n then none else E m):=by
  refine ⟨fun _ _ h=>h,fun _ _ _ _ h=>h,fun m b aS he =>?_,fun m aE l he=>⟨aE,l,?_,zz8 _,fun _=>rfl⟩,fun m b he =>?_,fun m b he =>?_,fun _ _ _ _ h=>h⟩
  ·simp only[if_neg (hne he (fun b=>by simp))];exact he
  ·simp only[if_neg (hne he (fun b=>by simp))];exact he
  ·simp only[if_neg (hne he (fun b=>by simp))];exact he
  ·simp only[if_neg (hne he (fun b=>by simp))];exact he
 refine ⟨h.sz,h.eT,fun t=>aV.bN hl (h.ef t),h.dQ,h.da,h.dm,fun m =>?_,fun m m' e e' b h1 h2 h3 h4 =>?_,fun m e hm =>?_,h.eZ,h.cN,h.fe,h.fI⟩
 ·by_cases hm:m=n
  ·simp only[hm,if_true,di]
  ·simp only[if_neg hm];exact (h.bT m).bN hl (by simp only[if_neg hm]) fun _ _ _ _=>⟨rfl,fun _ ho=>ho⟩
 ·split at h1
  ·cases h1
  ·split at h2
   ·cases h2
   ·exact h.c4 m m' e e' b h1 h2 h3 h4
 ·by_cases hmn:m=n
  ·left;simp only[hmn,if_true]
  ·simp only[if_neg hmn];exact h.dV m e hm
theorem aU.enter{ts:List (Nat×I)}{os0:List (Nat×aj)}(h:aU c (au ts os0) a w D E)(hfree:ak os0 999999=none)(hE0:c.dD 999999=none){o:Obj}(ho:p9 o=true) :
  ∃ E1,aU c (au ts ((999999,.dO o)::os0)) { a with defers := { target:=.collected w.heap.size,args := #[] } :: a.defers } ((w.alloc (.deferred (some []))).alloc o) D E1∧E1 999999=some (.op (w.heap.size+1))∧∀ xs vs,aJ w D E xs vs→aJ ((w.alloc (.deferred (some []))).alloc o) D E1 xs vs:=by
 have hb:Below w.heap.size w ((w.alloc (.deferred (some []))).alloc o):=((Below.refl _ w).alloc (zz8 _) _).alloc (by simp) _;have h1:=h.grow (D':=D) hb (fun _ _ h=>h) (fun _ _ h _=>h) (fun b o' ae=>by have:=h.dm b o' ae;simp;omega);obtain ⟨W,hW⟩:∃ W,W=(w.alloc (.deferred (some []))).alloc o:=⟨_,rfl⟩
 have hL:W.heap[w.heap.size+1]?=some o:=by
  rw[hW];have:=World.alloc_heap_new (w.alloc (.deferred (some []))) o;rwa [World.size_alloc] at this
 have hK:W.heap[w.heap.size]?=some (.deferred (some [])):=by
  rw[hW];exact (Below.heap_alloc _ _ _ (by simp)).trans (World.alloc_heap_new w _)
 rw[←hW] at h1 hb ⊢;have hEn:E 999999=none:=by have:=h.bT 999999;simp only[au,hfree] at this;exact this
 have hl:dS W D E W D (fun m=>if m=999999 then some (.op (w.heap.size+1)) else E m):=by
  refine ⟨fun _ _ h=>h,fun _ _ _ _ h=>h,fun m b aS he =>?_,fun m aE l he=>⟨aE,l,?_,zz8 _,fun _=>rfl⟩,fun m b he =>?_,fun m b he =>?_,fun _ _ _ _ h=>h⟩
  all_goals
   have:m≠999999:=fun e=>by rw[e,hEn] at he;cases he
   simp only[if_neg this];exact he
 have hsz:c.fm.heap.size≤w.heap.size:=h.dQ.size;have nb:∀ {m:Nat} {e:bS} {b:Nat},E m=some e→e.aE=some b→b<w.heap.size:=fun he hb'=>h.fX he hb';refine ⟨fun m=>if m=999999 then some (.op (w.heap.size+1)) else E m,⟨h1.sz,?_,fun t=>aV.bN hl (h1.ef t),h1.dQ,h1.da,h1.dm,fun m =>?_,fun m m' e e' b g1 g2 g3 g4 =>?_,fun m e hm =>?_,h1.eZ,h1.cN,h1.fe,h1.fI⟩,by simp,fun xs vs hx=>aJ.bN hl xs vs (aJ.bN (dS.grow hb fun _ _ h=>h) xs vs hx)⟩
 ·obtain ⟨Bs,k1,k2,k3⟩:=h1.eT;refine ⟨w.heap.size::Bs,by simp only[zz9];rw[←k1],List.nodup_cons.2 ⟨fun hin =>?_,k2⟩,fun B hB =>?_⟩
  ·obtain ⟨Bs',j1,_,j3⟩:=h.eT;have e1:Bs=Bs':=by
    have:Bs.map (fun B=>({ target:=.collected B,args := #[] } : Deferred))=Bs'.map (fun B => { target:=.collected B,args := #[] }):=by rw[←k1,←j1]
    exact (List.map_inj_right (fun x y hxy=>by simpa using hxy)).1 this
   rw[e1] at hin;have:=gb (j3 _ hin).2;omega
  ·rcases zx8.1 hB with rfl | hB
   ·exact ⟨hsz,hK⟩
   ·exact k3 B hB
 ·simp only[au,ak];by_cases hm:m=999999
  ·subst hm;simp only[if_true,di];exact ⟨_,rfl,.inl (by omega),hL,ho,fun o' ae=>by have:=h.dm _ o' ae;omega⟩
  ·simp only[if_neg hm];exact (h1.bT m).bN hl (by simp only[if_neg hm]) fun _ _ _ _=>⟨rfl,fun _ ho=>ho⟩
 ·by_cases hm:m=999999 <;>by_cases hm':m'=999999
  ·rw[hm,hm']
  ·simp only[if_pos hm,t7] at g1;simp only[if_neg hm'] at g2;subst g1;simp only[bS.aE,t7] at g3;have:=nb g2 g4;omega
  ·simp only[if_neg hm] at g1;simp only[if_pos hm',t7] at g2;subst g2;simp only[bS.aE,t7] at g4;have:=nb g1 g3;omega
  ·simp only[if_neg hm] at g1;simp only[if_neg hm'] at g2;exact h.c4 m m' e e' b g1 g2 g3 g4
 ·have hmn:m≠999999:=fun e=>by rw[e,hE0] at hm;cases hm
  simp only[if_neg hmn];exact h.dV m e hm
theorem di.mV{M M':Nat→Prop}{n:Nat}{x:Option aj}(h:di M w D E n x)(hM:∀ e b,E n=some e→e.aE=some b→M' b):di M' w D E n x:=by
 unfold di at *;split
 ·exact h
 ·obtain ⟨b,cs,T,h1,_,h3⟩:=h;exact ⟨b,cs,T,h1,hM _ b h1 rfl,h3⟩
 ·obtain ⟨aE,h1,h2,h3⟩:=h;refine ⟨aE,h1,h2,?_⟩;split
  ·exact h3
  ·obtain ⟨cs,pre,rest,_,h4⟩:=h3;exact ⟨cs,pre,rest,hM _ _ h1 rfl,h4⟩
 ·obtain ⟨b,h1,_,h3⟩:=h;exact ⟨b,h1,hM _ b h1 rfl,h3⟩
 ·obtain ⟨b,es,ck,h1,_,h3⟩:=h;exact ⟨b,es,ck,h1,hM _ b h1 rfl,h3⟩
 ·obtain ⟨r,b,es,ck,si,se,la,h1,_,h3⟩:=h;exact ⟨r,b,es,ck,si,se,la,h1,hM _ r h1 rfl,h3⟩
 ·obtain ⟨aE,h1,h2,h3⟩:=h;refine ⟨aE,h1,h2,?_⟩;split
  ·exact h3
  ·obtain ⟨cs,m,_,h4⟩:=h3;exact ⟨cs,m,hM _ _ h1 rfl,h4⟩
theorem aU.Kq{os:List (Nat×aj)} : ∀ (ps:List Nat) (vs:List Value) (xs:List I) (ts:List (Nat×I)) (a:Act),aU c (au ts os) a w D E→(∀ p∈ps,p<c.n)→aJ w D E xs vs→ps.length=vs.length →
  aU c (au (rQ ps xs ts) os) { a with tmps:=(ps.zip vs).foldl (fun t q=>t.setIfInBounds q.1 q.2) a.tmps } w D E
 | [],[],xs,ts,a,h,_,hv,_=>by
  cases xs with
  |nil=>exact h
  |cons x xs=>simp[aJ] at hv
 | [],_::_,_,_,_,_,_,_,hl=>by simp at hl
 |_::_,[],_,_,_,_,_,_,hl=>by simp at hl
 |p::ps,v::vs,xs,ts,a,h,hp,hv,hl=>by
  cases xs with
  |nil=>simp[aJ] at hv
  |cons x xs =>
   simp only[aJ] at hv;obtain ⟨v',rest,cs,e,h1,h2,h3⟩:=hv;simp only[List.cons.injEq] at e;obtain ⟨rfl,rfl⟩:=e;have h4:=h.put (hp p (by simp)) (mW h1 h2);rw[tR] at h4;have:=aU.Kq ps vs xs ((p,x)::ts) (a.put (some p) v) h4 (fun q hq=>hp q (by simp[hq])) h3 (by simpa using hl);exact this
end
end Go.Abs
namespace Go.Abs
open Go Go.RowKit
def jx:b9→Bool
 | .mv _ | .pick .. | .bin .. | .eqv .. | .conv .. | .un .. | .fl .. | .ix .. | .lenT _ | .bld .. | .ext .. | .mk .. | .nilC _ | .ptrE .. =>true
 | .ld .. | .fa .. | .ia .. | .is .. | .len _ | .va .. | .bs .. | .sl .. | .cap _ | .bs0 _ | .lk .. =>true
 |_=>false
def oY:b9→Bool
 | .alloc _ | .box _ | .br .. | .call .. | .eF .. | .c7 .. =>true
 |op=>jx op
def qa(hs:List FuncId):b9→Bool
 | .alloc _ | .box _=>true
 | .call f _ => !hs.contains f
 |op=>jx op
abbrev eB:=List (Nat×List Nat)
def jj(L:eB)(s:Nat):Option (List Nat):=(L.find? fun q=>q.1==s).map (·.2)
def eA(L:eB)(A:af):Prop:=∀ s ns,jj L s=some ns→(A.t s).only (fun n=>ns.contains n)=true
def rA(L:eB):aM→Option (List Nat)
 | .t s=>jj L s
 | .c x=>if x.bj then some [] else none
def uS(a:Option (List Nat))(ns:List Nat):Bool:=match a with
 |some ms=>ms.all fun m=>ns.contains m
 |none=>false
def im(L:eB)(g:aC):Bool:=match g.dst with
 |none=>true
 |some d=>match jj L d with
  |none=>true
  |some ns=>match g.op with
   | .mv x | .nilC x | .fa _ _ x | .ia _ _ x _=>uS (rA L x) ns
   | .bin .. | .len _ | .bs .. | .bs0 _ | .conv .. | .lenT _=>true
   | .box _ | .alloc _=>ns.contains d
   |_=>false
def nQ:b9→Option (List Nat)
 | .ld _ (.t x) | .fa _ _ (.t x) | .ia _ _ (.t x) _ | .is _ (.t x) _ | .len (.t x) | .va _ _ (.t x) | .sl _ (.t x) _ _ _ | .cap (.t x) | .lk _ _ _ (.t x) _=>some [x]
 | .bs _ _ ps=>if (ps.all fun x=>match x with | .t _=>true | .c _=>false)=true then some (kh ps) else none
 | .bs0 _=>some []
 |op=>if op.gK=0∧jx op=true then some [] else none
def sC(L:eB)(g:aC)(p:Nat→Bool):Bool:=match nQ g.op with
 |some xs=>xs.all fun s=>match jj L s with | some ns=>ns.all p | none=>false
 |none=>false
def o5(hs:List FuncId)(L:eB)(g h:aC):Bool:=qa hs h.op||match h.op with
 | .br _ (.t y) _=>match nQ g.op with
  |some []=>true
  |_=>match jj L y with
   |some ms=>sC L g fun n => !ms.contains n
   |none=>false
 | .br .. =>match nQ g.op with
  |some []=>true
  |_=>false
 | .c7 _ _ _ _ s _=>sC L g (fun _=>false)||uS (rA L s) []
 |_=>false
def nN(hs:List FuncId)(L:eB)(g h:aC):Bool:=jx g.op&&(o5 hs L g h&&((match g.dst with
  |some d => !h.db.contains d&&h.dst != some d
  |none=>true)&&(match h.dst with
  |some d => !g.db.contains d
  |none=>true)))
theorem xG{op:b9}(h:jx op=true)(A:af)(dst:Option Nat)(rest:List aC)(k:af→cQ):bn A dst op rest k=cY (bt A op) fun v=>k (A.aP dst v):=by
 cases op <;>first | rfl | cases h
inductive cg (P:Program) (hs:List FuncId) (K:af→Prop):cQ→Prop where
 |done {A:af} : K A→cg P hs K (.done A)
 |flat {f:FuncId} {avs cargs:List I} {a2:Option (List I)} {dst:Option Nat} {rest:List aC} {A:af} (r:I):aB P f cargs r→r.flat=true→cg P hs K (aA rest (A.aP dst r))→cg P hs K (.call f avs (some cargs) a2 dst rest A)
 |lead {f:FuncId} {avs cargs:List I} {a1:Option (List I)} {dst:Option Nat} {rest:List aC} {A:af} (r:I):aB P f cargs r→cg P hs K (aA rest (A.aP dst r))→cg P hs K (.call f avs a1 (some cargs) dst rest A)
 |bT {f:FuncId} {avs:List I} {a1 a2:Option (List I)} {dst:Option Nat} {rest:List aC} {ts:List (Nat×I)} {os0:List (Nat×aj)} (ρ:List (Nat×Nat)) (cargs:List I) (post:cV):cH P f cargs [] post →
   gh ρ [] os0→jD false (au ts os0) ρ [] avs cargs→(∀ r os',post r os'→eK false ρ [] os0 r os') →
   (∀ r os',post r os'→cg P hs K (aA rest ((au ts (dL ρ os'++os0)).aP dst (r.aQ (bD ρ)))))→cg P hs K (.call f avs a1 a2 dst rest (au ts os0))
 |any {p:Nat→Prop} {k:Nat→cQ} : (∀ m,p m→cg P hs K (k m))→cg P hs K (.any p k)
 |yq {f:FuncId} {avs:List I} {a1 a2:Option (List I)} {dst:Option Nat} {rest:List aC} {ts:List (Nat×I)} {os0:List (Nat×aj)} (aD:Bool) (ρ:List (Nat×Nat)) (os:List (Nat×aj)) (cargs:List I) (post:cV):hs.contains f=true→cH P f cargs os post →
   gh ρ os os0→jD aD (au ts (cJ (kb ρ os) os0)) ρ os avs cargs→(∀ r os',post r os'→eK aD ρ os os0 r os') →
   (∀ r os',post r os'→cg P hs K (aA rest ((au ts (dL ρ os'++os0)).aP dst (r.aQ (bD ρ)))))→cg P hs K (.call f avs a1 a2 dst rest (au ts os0))
theorem Xu(os:List (Nat×aj)):cJ [] os=os:=by simp[cJ]
section
variable {P:Program} {hs:List FuncId} {K:af→Prop} {Y:Value→List I→List (Nat×aj)→cV→Prop}
theorem cg.Ap{p:Nat→Prop}{k:Nat→cQ}(h:cg P hs K (.any p k)):∀ m,p m→cg P hs K (k m):=by cases h;assumption
theorem eA.put{L:eB}{A B:af}(h:eA L A)(ht:∀ k,B.t k=A.t k){dst:Option Nat}{v:I}(hv:∀ d,dst=some d→∀ ns,jj L d=some ns→v.only (fun n=>ns.contains n)=true):eA L (B.aP dst v):=by
 intro s ns hs';cases dst with
 |none=>exact (ht s).symm▸h s ns hs'
 |some d =>
  simp only[af.aP,af.put];by_cases ae:s=d
  ·rw[if_pos ae];exact hv d rfl ns (ae▸hs')
  ·rw[if_neg ae,ht];exact h s ns hs'
theorem r4{L:eB}{A:af}(h:eA L A){x:aM}{ns:List Nat}(hx:uS (rA L x) ns=true):(ah A x).only (fun n=>ns.contains n)=true:=by
 cases x with
 |c x =>
  simp only[rA] at hx;split at hx
  ·rename_i hc;exact kc _ x hc
  ·cases hx
 |t s =>
  simp only[rA] at hx;cases hl:jj L s with
  |none=>rw[hl] at hx;cases hx
  |some ms =>
   rw[hl] at hx;simp only[uS,zx9] at hx;exact jo (fun n hn=>hx n (by simpa using hn)) _ (h s ms hl)
theorem P4{op:BinOp}{x y v:I}(p:Nat→Bool)(h:cL op x y=some v):v.only p=true:=by
 unfold cL at h
 (repeat' split at h) <;>first | (cases h;done) | (simp only[t7] at h;subst h;rfl)
theorem yH{p:Nat→Bool} : ∀ {xs:List I} {i:Nat} {x:I},I.bZ p xs=true→xs[i]?=some x→x.only p=true
 | [],_,_,_,h=>by simp at h
 |a::xs,0,x,h,e=>by
  simp only[I.bZ,zz3] at h;simp only[List.getElem?_cons_zero,t7] at e;exact e▸h.1
 |a::xs,i+1,x,h,e=>by
  simp only[I.bZ,zz3] at h;exact yH (xs:=xs) h.2 (by simpa using e)
theorem JV{L:eB}{A:af}{g:aC}(h:eA L A)(hg:im L g=true){v:I}(hv:bt A g.op=some v):∀ d,g.dst=some d→∀ ns,jj L d=some ns→v.only (fun n=>ns.contains n)=true:=by
 intro d ae ns hn;obtain ⟨dst,op,gd⟩:=g;simp only at ae hv;subst ae;simp only[im,hn] at hg;cases op <;>simp only at hg <;>(try (cases hg;done)) <;>simp only[bt] at hv <;>(try (cases hv;done))
 case mv x=>simp only[t7] at hv;exact hv▸r4 h hg
 case nilC x =>
  have:=r4 h hg;generalize ah A x=u at hv this;cases u <;>simp only[mX] at hv <;>first | (cases hv;done) | (simp only[t7] at hv;exact hv▸this)
 case bin op x y=>exact P4 _ hv
 case conv k x=>split at hv <;>first | (cases hv;done) | (simp only[t7] at hv;subst hv;rfl)
 case lenT x=>split at hv <;>first | (cases hv;done) | (simp only[t7] at hv;subst hv;rfl)
 case len x=>(repeat' split at hv) <;>first | (cases hv;done) | (simp only[t7] at hv;subst hv;rfl)
 case bs0 e=>simp only[t7] at hv;subst hv;rfl
 case bs e ps =>
  split at hv
  ·split at hv
   ·rename_i hc;simp only[t7] at hv;subst hv;simp only[I.only];exact kI _ _ hc.2
   ·cases hv
  ·cases hv
 case fa f off x =>
  have hx:=r4 h hg;split at hv
  ·rename_i fs he;rw[he] at hx;simp only[I.only] at hx;split at hv
   ·rename_i u hu;split at hv
    ·simp only[t7] at hv;subst hv;simp only[I.only];exact yH hx hu
    ·cases hv
   ·cases hv
  ·rename_i n q he;rw[he] at hx;simp only[I.only] at hx;split at hv
   ·split at hv
    ·simp only[t7] at hv;subst hv;simpa only[I.only] using hx
    ·cases hv
   ·cases hv
  ·cases hv
 case ia n esz x i =>
  have hx:=r4 h hg;split at hv
  case h_2=>cases hv
  split at hv
  case isFalse=>cases hv
  split at hv
  ·rename_i fs he;rw[he] at hx;simp only[I.only] at hx;split at hv
   ·simp only[zz1] at hv;obtain ⟨u,hu,rfl⟩:=hv;simp only[I.only];exact yH hx hu
   ·cases hv
  ·rename_i m q he;rw[he] at hx;simp only[I.only] at hx;split at hv
   ·split at hv
    ·simp only[t7] at hv;subst hv;simpa only[I.only] using hx
    ·cases hv
   ·cases hv
  ·cases hv
def su(A:af)(dst:Option Nat)(s:I)(B:af):Prop:=(∀ t,dst≠some t→B.t t=A.t t)∧(s.only (fun _=>false)=true→ep A B)
def oq(A:af)(dst:Option Nat)(s:I)(R:(af→cQ)→cQ):Prop :=
 (∀ k,R k=.fail)∨(∃ B,(∀ k,R k=k B)∧su A dst s B)∨∃ (p:Nat→Prop) (bp:Nat→af),(∀ k,R k=.any p fun m=>k (bp m))∧∀ m,su A dst s (bp m)
theorem rP{A B:af}{dst:Option Nat}{v:I}{t:Nat}(ht:∀ k,B.t k=A.t k)(h:dst≠some t):(B.aP dst v).t t=A.t t:=by
 cases dst with
 |none=>exact ht t
 |some d =>
  have:t≠d:=fun e=>h (by rw[e]);simp only[af.aP,af.put,if_neg this];exact ht t
theorem Pz(A:af)(dst:Option Nat)(esz bytes:Nat)(z s:I)(es ys:List I):oq A dst s (gu A dst esz bytes z es ys):=by
 cases dst with
 |none=>exact .inl fun _=>rfl
 |some d =>
  cases ho:A.o d with
  |some y=>exact .inl fun k=>by simp only[gu,ho]
  |none =>
   by_cases hc:(es.length+ys.length)*bytes≤140737488355328∧es.length+ys.length≤maxLen
   ·refine .inr (.inr ⟨_,fun m=>(A.aO d (.box (.agg (es++(ys++List.replicate m z))))).aP (some d) (.view d [] esz 0 (es.length+ys.length)),fun k=>by simp only[gu,ho];rw[if_pos hc],fun m=>⟨fun t ht=>rP (A:=A) (B:=A.aO d _) (fun _=>rfl) ht,fun _ n y hy =>?_⟩⟩);have:n≠d:=fun e=>by rw[e,ho] at hy;cases hy
    rw[iN];simp only[af.aO,if_neg this];exact hy
   ·exact .inl fun k=>by simp only[gu,ho];rw[if_neg hc]
theorem PB(A:af)(dst:Option Nat)(esz bytes:Nat)(z s:I)(es ys:Option (List I)):oq A dst s (fq A dst esz bytes z s es ys):=by
 cases es with
 |none=>exact .inl fun _=>rfl
 |some es =>
  cases ys with
  |none=>exact .inl fun _=>rfl
  |some ys =>
   by_cases h0:ys=[]
   ·exact .inr (.inl ⟨A.aP dst s,fun k=>by simp only[fq,if_pos h0],fun t ht=>rP (A:=A) (fun _=>rfl) ht,fun _ n y hy=>by rw[iN];exact hy⟩)
   ·have gg:=fun s'=>Pz A dst esz bytes z s' es ys;cases s
    case nils=>simp only[oq,fq,if_neg h0];exact gg _
    case c0=>simp only[oq,fq,if_neg h0];exact gg _
    case view n p sz lo l =>
     cases ho:A.o n with
     |none=>exact .inl fun k=>by simp only[fq,if_neg h0,ho]
     |some y =>
      cases y with
      |box b =>
       cases hb:b.at p with
       |none=>exact .inl fun k=>by simp only[fq,if_neg h0,ho,hb]
       |some c =>
        cases c
        case agg fs =>
         by_cases h1:lo+l+ys.length≤fs.length
         ·by_cases h2:sz=esz∧I.cU ys=I.cU ((fs.drop (lo+l)).take ys.length)
          ·exact .inr (.inl ⟨(A.aO n (.box (iP b p (lo+l) fs ys))).aP dst (.view n p esz lo (l+ys.length)),fun k=>by simp only[fq,if_neg h0,ho,hb,if_pos h1];rw[if_pos h2],fun t ht=>rP (A:=A) (B:=A.aO n _) (fun _=>rfl) ht,fun h=>by simp[I.only] at h⟩)
          ·exact .inl fun k=>by simp only[fq,if_neg h0,ho,hb,if_pos h1];rw[if_neg h2]
         ·simp only[oq,fq,if_neg h0,ho,hb,if_neg h1];exact gg _
        all_goals exact .inl fun k=>by simp only[fq,if_neg h0,ho,hb]
      |_=>exact .inl fun k=>by simp only[fq,if_neg h0,ho]
    all_goals exact .inl fun k=>by simp only[fq,if_neg h0]
theorem Aw(A:af)(dst:Option Nat)(e esz bytes:Nat)(z:I)(s x:aM)(rest:List aC):oq A dst (ah A s) (bn A dst (.c7 e esz bytes z s x) rest):=by
 generalize hs:ah A s=zD;cases zD
 case own n l =>
  cases hx:ah A x
  case slice sz ys =>
   cases ho:A.o n with
   |none=>exact .inl fun k=>by simp only[bn,hs,hx,ho]
   |some y =>
    cases y with
    |bR T sz' es =>
     by_cases hc:yw e esz bytes l sz ys T sz' es
     ·exact .inr (.inl ⟨(A.aO n (.bR e esz (es++ys))).aP dst (.own n (es.length+ys.length)),fun k=>by simp only[bn,hs,hx,ho];rw[if_pos hc],fun t ht=>rP (A:=A) (B:=A.aO n _) (fun _=>rfl) ht,fun h=>by simp[I.only] at h⟩)
     ·exact .inl fun k=>by simp only[bn,hs,hx,ho];rw[if_neg hc]
    |c5 T xs =>
     by_cases hc:yx e esz bytes l ys T xs z
     ·exact .inr (.inl ⟨(A.aO n (.c5 e (xs++rr ys))).aP dst (.own n (xs.length+ys.length)),fun k=>by simp only[bn,hs,hx,ho];rw[if_pos hc],fun t ht=>rP (A:=A) (B:=A.aO n _) (fun _=>rfl) ht,fun h=>by simp[I.only] at h⟩)
     ·exact .inl fun k=>by simp only[bn,hs,hx,ho];rw[if_neg hc]
    |_=>exact .inl fun k=>by simp only[bn,hs,hx,ho]
  all_goals exact .inl fun k=>by simp only[bn,hs,hx]
 all_goals (simp only[oq,bn,hs];exact PB ..)
theorem yS{A:af}{d:Nat}{v:I}{n:Nat}{y:aj}{dst:Option Nat}{u:I}(h:dst≠some d):((A.put d v).aO n y).aP dst u=((A.aO n y).aP dst u).put d v:=by
 cases dst with
 |none=>rfl
 |some e =>
  have:e≠d:=fun he=>h (by rw[he]);simp only[af.aP,af.put,af.aO,af.mk.injEq,and_true]
  funext k
  by_cases h1:k=e <;>by_cases h2:k=d <;>simp_all
theorem akL{A:af}{d:Nat}{v:I}{dst:Option Nat}{u:I}(h:dst≠some d):(A.put d v).aP dst u=(A.aP dst u).put d v:=by
 cases dst with
 |none=>rfl
 |some e =>
  have:e≠d:=fun he=>h (by rw[he]);simp only[af.aP,af.put,af.mk.injEq,and_true]
  funext k
  by_cases h1:k=e <;>by_cases h2:k=d <;>simp_all
theorem PA{A:af}{d:Nat}{v:I}{dst:Option Nat}(h:dst≠some d)(esz bytes:Nat)(z:I)(es ys:List I)(k:af→cQ):gu (A.put d v) dst esz bytes z es ys k=gu A dst esz bytes z es ys fun B=>k (B.put d v):=by
 cases dst with
 |none=>rfl
 |some e =>
  simp only[gu];have:(A.put d v).o=A.o:=rfl;rw[this];cases A.o e with
  |some _=>rfl
  |none =>
   simp only;split
   ·simp only[yS h]
   ·rfl
theorem PC{A:af}{d:Nat}{v:I}{dst:Option Nat}(h:dst≠some d)(esz bytes:Nat)(z s:I)(es ys:Option (List I))(k:af→cQ):fq (A.put d v) dst esz bytes z s es ys k=fq A dst esz bytes z s es ys fun B=>k (B.put d v):=by
 have ho:(A.put d v).o=A.o:=rfl;cases es with
 |none=>rfl
 |some es =>
  cases ys with
  |none=>rfl
  |some ys =>
   simp only[fq];split
   ·rw[akL h]
   ·cases s <;>simp only[PA h,ho]
    rename_i n p sz lo l;cases A.o n with
    |none=>rfl
    |some y =>
     cases y with
     |box b =>
      simp only;cases b.at p with
      |none=>rfl
      |some c =>
       cases c <;>simp only[yS h]
     |_=>rfl
theorem PE{A:af}{d:Nat}{v:I}{dst:Option Nat}(h:dst≠some d){e esz bytes:Nat}{z:I}{s x:aM}(hag:eg A (A.put d v) (s.sl++x.sl))(rest rest':List aC)(k:af→cQ) :
  bn (A.put d v) dst (.c7 e esz bytes z s x) rest k=bn A dst (.c7 e esz bytes z s x) rest' fun B=>k (B.put d v):=by
 have ho:(A.put d v).o=A.o:=rfl;have hsrc:∀ y,eD (A.put d v) esz y=eD A esz y:=fun y=>by cases y <;>rfl
 simp only[bn,dq hag.l,dq hag.r,hsrc];cases ah A s <;>simp only[PC h]
 rename_i n l;cases ah A x <;>simp only[ho]
 cases A.o n with
 |none=>rfl
 |some y=>cases y <;>simp only[yS h]
theorem cg.CM{L:eB}{f:FuncId}{avs:List I}{a1 a2:Option (List I)}{dst:Option Nat}{rest:List aC}{A:af}(hi:eA L A)(ae:∀ d,dst=some d→jj L d=none)(h:cg P hs K (.call f avs a1 a2 dst rest A)) :
  bh P Y false (fun B=>cg P hs K (aA rest B)∧eA L B) (.call f avs a1 a2 dst [] A):=by
 have no:∀ {v:I},∀ d,dst=some d→∀ ns,jj L d=some ns→v.only (fun n=>ns.contains n)=true:=fun d e ns hn=>by rw[ae d e] at hn;cases hn
 cases h with
 |flat r hc hf hw=>exact .flat r hc hf (.done ⟨hw,hi.put (fun _=>rfl) no⟩)
 |lead r hc hw=>exact .lead r hc (.done ⟨hw,hi.put (fun _=>rfl) no⟩)
 |bT ρ cargs post hc hg ha hb hw=>exact .bT false ρ [] cargs post rfl hc hg (by simp only[kb,zx3,Xu];exact ha) hb fun r os' hp=>.done ⟨hw r os' hp,hi.put (B:=au _ (dL ρ os'++_)) (fun _=>rfl) no⟩
 |yq aD ρ os cargs post _ hc hg ha hb hw=>exact .bT aD ρ os cargs post rfl hc hg ha hb fun r os' hp=>.done ⟨hw r os' hp,hi.put (B:=au _ (dL ρ os'++_)) (fun _=>rfl) no⟩
theorem cg.one{L:eB}{A:af}{g:aC}{rest:List aC}(hi:eA L A)(ho:oY g.op=true)(hL:im L g=true)(h:cg P hs K (bn A g.dst g.op rest (aA rest))):bh P Y false (fun B=>cg P hs K (aA rest B)∧eA L B) (bn A g.dst g.op [] (aA [])):=by
 have hval:=fun v (hv:bt A g.op=some v)=>JV hi hL hv;obtain ⟨dst,op,gd⟩:=g;simp only at ho h hval ⊢;have pure:jx op=true→bh P Y false (fun B=>cg P hs K (aA rest B)∧eA L B) (bn A dst op [] (aA [])):=by
  intro hsm;rw[xG hsm] at h ⊢;cases hv:bt A op with
  |none=>rw[hv] at h;cases h
  |some v=>rw[hv] at h;exact .done ⟨h,hi.put (fun _=>rfl) (hval v hv)⟩
 have unl:(∀ ns d,dst=some d→jj L d=some ns→im L ⟨dst,op,gd⟩=false)→∀ d,dst=some d→jj L d=none:=fun h1 d ae=>by
  cases hn:jj L d with
  |none=>rfl
  |some ns=>rw[h1 ns d ae hn] at hL;cases hL
 cases op with
 |alloc z =>
  cases dst with
  |none=>simp only[bn] at h;cases h
  |some d =>
   simp only[bn] at h ⊢;split at h
   case h_2=>cases h
   refine .done ⟨h,hi.put (B:=A.aO d _) (dst:=some d) (fun _=>rfl) fun d' e ns hn =>?_⟩;simp only[t7] at e;subst e;simpa only[im,hn,I.only] using hL
 |box x =>
  cases dst with
  |none=>simp only[bn] at h;cases h
  |some d =>
   simp only[bn] at h ⊢;split at h
   case h_2=>cases h
   split at h
   case isFalse=>cases h
   rename_i hv;rw[if_pos hv];refine .done ⟨h,hi.put (B:=A.aO d _) (dst:=some d) (fun _=>rfl) fun d' e ns hn =>?_⟩;simp only[t7] at e;subst e;simpa only[im,hn,I.only] using hL
 |br s x v =>
  cases dst with
  |some d=>simp only[bn] at h;cases h
  |none =>
   simp only[bn] at h ⊢;split at h
   case h_2=>cases h
   rename_i n p hx;split at h
   case h_2=>cases h
   rename_i b hb;split at h
   case h_2=>cases h
   rename_i old hold;split at h
   case isFalse=>cases h
   rename_i hok;simp only[if_pos hok];exact .done ⟨h,fun s ns hn=>hi s ns hn⟩
 |call f args=>exact cg.CM hi (unl fun ns d e hn=>by subst e;simp only[im,hn]) h
 |eF x args =>
  have hu:=unl fun ns d e hn=>by subst e;simp only[im,hn]
  simp only[bn] at h ⊢;split at h
  ·exact cg.CM hi hu h
  ·cases h
  ·cases h
 |c7 e esz bytes z s x =>
  have hu:=unl fun ns d e hn=>by subst e;simp only[im,hn]
  have tD:∀ B,su A dst (ah A s) B→eA L B:=fun B hB t ns hn=>by
   rw[hB.1 t fun e=>by rw[hu t e] at hn;cases hn];exact hi t ns hn
  have hf:=Aw A dst e esz bytes z s x;rcases hf rest with h1 | ⟨B,h1,h2⟩ | ⟨p,bp,h1,h2⟩
  ·rw[h1] at h;cases h
  ·rw[h1] at h;have:bn A dst (.c7 e esz bytes z s x) [] (aA [])=aA [] B:=(show bn A dst (.c7 e esz bytes z s x) [] (aA [])=bn A dst (.c7 e esz bytes z s x) rest (aA []) from rfl).trans (h1 _);rw[this];exact .done ⟨h,tD B h2⟩
  ·rw[h1] at h;have:bn A dst (.c7 e esz bytes z s x) [] (aA [])=.any p fun m=>aA [] (bp m):=(show bn A dst (.c7 e esz bytes z s x) [] (aA [])=bn A dst (.c7 e esz bytes z s x) rest (aA []) from rfl).trans (h1 _);rw[this];exact .any rfl fun m hm=>.done ⟨h.Ap m hm,tD _ (h2 m)⟩
 |_=>first | exact pure rfl | cases ho
def gq(g:aC)(A:af)(v:I):Prop:=(gC A g∧v=.undef)∨(pass A g∧bt A g.op=some v)
theorem cg.zw{A:af}{g:aC}{rest:List aC}(hs':jx g.op=true)(h:cg P hs K (aA (g::rest) A)):∃ v,gq g A v∧cg P hs K (aA rest (A.aP g.dst v)):=by
 have step:pass A g→cg P hs K (bn A g.dst g.op rest (aA rest))→∃ v,gq g A v∧cg P hs K (aA rest (A.aP g.dst v)):=by
  intro hp h;rw[xG hs'] at h;cases hv:bt A g.op with
  |none=>rw[hv] at h;cases h
  |some v=>rw[hv] at h;exact ⟨v,.inr ⟨hp,hv⟩,h⟩
 simp only[aA] at h;split at h
 ·rename_i hg;exact step (by simp only[pass,hg]) h
 ·rename_i t b hg;split at h
  ·rename_i b' hb;split at h
   ·rename_i hbb;subst hbb;exact step (by simp only[pass,hg];exact hb) h
   ·rename_i hbb;exact ⟨_,.inl ⟨by simp only[gC,hg];exact .inl (by rw[hb,vH hbb]),rfl⟩,h⟩
  ·rename_i hb;exact ⟨_,.inl ⟨by simp only[gC,hg];exact .inr hb,rfl⟩,h⟩
  ·cases h
theorem sB{A:af}{g:aC}{rest:List aC}(hn:gC A g):aA (g::rest) A=aA rest (A.aP g.dst .undef):=by
 simp only[aA];cases hg:g.guard with
 |none=>simp only[gC,hg] at hn
 |some tb =>
  obtain ⟨t,b⟩:=tb;simp only[gC,hg] at hn;rcases hn with hn | hn
  ·simp only[hn];rw[if_neg (by cases b <;>simp)]
  ·simp only[hn]
theorem gq.to{A:af}{g:aC}{rest:List aC}{v:I}(hs':jx g.op=true)(h:gq g A v):aA (g::rest) A=aA rest (A.aP g.dst v):=by
 rcases h with ⟨hn,rfl⟩ | ⟨hp,hv⟩
 ·exact sB hn
 ·rw[ov hp,xG hs',hv];rfl
theorem Xd{A A':af}{p:Nat→Bool}(ho:∀ n,p n=true→A'.o n=A.o n){x:I}(hx:x.only p=true):cD A' x=cD A x:=by
 cases x <;>simp only[cD]
 rename_i n q;rw[ho n (by simpa[I.only] using hx)]
mutual
theorem Ya{A A':af}{p:Nat→Bool}(ho:∀ n,p n=true→A'.o n=A.o n):∀ {x:I},x.only p=true→a6 false A' x=a6 false A x
 | .own n k,h=>by simp only[a6];rw[ho n (by simpa[I.only] using h)]
 | .func f caps,h=>by simp only[a6];rw[tf ho (xs:=caps) (by simpa[I.only] using h)]
 | .agg fs,h=>by simp only[a6];rw[tf ho (xs:=fs) (by simpa[I.only] using h)]
 | .undef,_ | .de,_ | .bool _,_ | .int _ _,_ | .c6 _,_ | .nilp,_ | .dh,_ | .dW,_ | .raw _,_ | .nils _,_ | .c0 _,_ | .slice _ _,_ | .tuple _,_ | .ref _,_ | .iface _ _,_ | .ptr _ _,_ | .view _ _ _ _ _,_ | .mref _,_ | .dx _,_ | .cM _ _,_=>by simp[a6]
theorem tf{A A':af}{p:Nat→Bool}(ho:∀ n,p n=true→A'.o n=A.o n):∀ {xs:List I},I.bZ p xs=true→bV false A' xs=bV false A xs
 | [],_=>rfl
 |x::xs,h=>by
  simp only[I.bZ,zz3] at h;simp only[bV,Ya ho h.1,tf ho h.2]
end
theorem J5{p:Nat→Bool}{f:aM→I} : ∀ {xs:List aM},(∀ x∈xs,(f x).only p=true)→I.bZ p (xs.map f)=true
 | [],_=>rfl
 |x::xs,h=>by
  simp only[zz9,I.bZ,zz3];exact ⟨h x (by simp),J5 fun y hy=>h y (by simp[hy])⟩
theorem aiF{A A':af}{p:Nat→Bool}(ho:∀ n,p n=true→A'.o n=A.o n){x:I}(hx:x.only p=true):gA A' x=gA A x:=by
 cases x with
 |mref n=>simp only[gA];rw[ho n (by simpa[I.only] using hx)]
 |raw v=>cases v <;>first | rfl | (rename_i o;cases o <;>rfl)
 |_=>rfl
theorem akB{A A':af}{op:b9}{xs:List Nat}{p:Nat→Bool}(hm:nQ op=some xs)(h:eg A A' op.db)(hx:∀ s∈xs,(A.t s).only p=true)(ho:∀ n,p n=true→A'.o n=A.o n):bt A' op=bt A op:=by
 have gN:op.gK=0→bt A' op=bt A op:=fun hc=>yQ hc h;have dl:=fun {x:I} (hx:x.only p=true)=>Xd ho hx;unfold nQ at hm;split at hm
 ·rename_i s x;simp only[t7] at hm;subst hm;have e:=h x (by simp[b9.db,aM.sl]);simp only[bt,ah,e,dl (hx x (by simp))]
 ·rename_i f off x;simp only[t7] at hm;subst hm;have e:=h x (by simp[b9.db,aM.sl]);have k:=hx x (by simp);simp only[bt,ah,e];generalize A.t x=u at k ⊢;cases u with
  |ptr n q=>simp only[dl (x:=.ptr n q) k]
  |ref c=>cases c <;>rfl
  |_=>rfl
 ·rename_i n esz x i;simp only[t7] at hm;subst hm;have e:=h x (by simp[b9.db,aM.sl]);have ei:=dq (x:=i) (fun m hm=>h m (by simp[b9.db,hm]));have k:=hx x (by simp);simp only[bt,ei];generalize ah A i=w;simp only[ah,e];generalize A.t x=u at k ⊢;cases u with
  |ptr n q=>simp only[dl (x:=.ptr n q) k]
  |ref c=>cases c <;>rfl
  |_=>rfl
 ·rename_i esz x i;simp only[t7] at hm;subst hm;have e:=h x (by simp[b9.db,aM.sl]);have ei:=dq (x:=i) (fun m hm=>h m (by simp[b9.db,hm]));have k:=hx x (by simp);simp only[bt,ei];generalize ah A i=w;simp only[ah,e];generalize A.t x=u at k ⊢;cases u with
  |own n l=>simp only[ho n (by simpa[I.only] using k)]
  |view n q=>simp only[dl (x:=.ptr n q) (by simpa[I.only] using k)]
  |_=>rfl
 ·rename_i x;simp only[t7] at hm;subst hm;have e:=h x (by simp[b9.db,aM.sl]);have k:=hx x (by simp);simp only[bt,ah,e];generalize A.t x=u at k ⊢;cases u with
  |own n l=>simp only[ho n (by simpa[I.only] using k)]
  |_=>rfl
 ·rename_i n esz x;simp only[t7] at hm;subst hm;have e:=h x (by simp[b9.db,aM.sl]);have k:=hx x (by simp);simp only[bt,ah,e];generalize A.t x=u at k ⊢;cases u with
  |ptr n q=>simp only[dl (x:=.ptr n q) k]
  |ref c=>cases c <;>rfl
  |_=>rfl
 ·rename_i esz x lo hi mx;simp only[t7] at hm;subst hm;have e:=h x (by simp[b9.db,aM.sl]);have e1:=pW (x:=lo) (fun m hm=>h m (by simp[b9.db,hm]));have e2:=pW (x:=hi) (fun m hm=>h m (by simp[b9.db,hm]));have e3:=pW (x:=mx) (fun m hm=>h m (by simp[b9.db,hm]));have k:=hx x (by simp);simp only[bt,e1,e2,e3];generalize lo.map (ah A)=w1;generalize hi.map (ah A)=w2;generalize mx.map (ah A)=w3;simp only[ah,e];generalize A.t x=u at k ⊢;cases u with
  |view n q=>simp only[dl (x:=.ptr n q) (by simpa[I.only] using k)]
  |_=>rfl
 ·rename_i x;simp only[t7] at hm;subst hm;have e:=h x (by simp[b9.db,aM.sl]);have k:=hx x (by simp);simp only[bt,ah,e];generalize A.t x=u at k ⊢;cases u with
  |view n q=>simp only[dl (x:=.ptr n q) (by simpa[I.only] using k)]
  |_=>rfl
 ·rename_i ty z ok x kk;simp only[t7] at hm;subst hm;have e:=h x (by simp[b9.db,aM.sl]);have ek:=dq (x:=kk) (fun m hm=>h m (by simp[b9.db,hm]));have k:=hx x (by simp);simp only[bt,ek];generalize ah A kk=w;simp only[ah,e,aiF ho k]
 ·rename_i esz ps;split at hm
  case isFalse=>cases hm
  rename_i hall;simp only[t7] at hm;subst hm;have hev:ps.map (ah A')=ps.map (ah A):=mN h;have hon:I.bZ p (ps.map (ah A))=true:=J5 fun x hx'=>by
   have h1:=zx9.1 hall x hx';cases x with
   |c _=>cases h1
   |t s=>exact hx s (by simp only[kh,List.mem_flatMap];exact ⟨_,hx',by simp[aM.sl]⟩)
  simp only[bt,hev,tf ho hon]
 ·rfl
 ·split at hm
  ·rename_i hc;exact gN hc.1
  ·cases hm
theorem Ar{L:eB}{A:af}{g:aC}{p:Nat→Bool}(hi:eA L A)(h:sC L g p=true):∃ xs,nQ g.op=some xs∧∀ s∈xs,(A.t s).only p=true:=by
 unfold sC at h;split at h
 case h_2=>cases h
 rename_i xs hm;refine ⟨xs,hm,fun s hs' =>?_⟩;have h1:=zx9.1 h s hs';split at h1
 case h_2=>cases h1
 rename_i ns hn;exact jo (fun n h2=>zx9.1 h1 n (by simpa using h2)) _ (hi s ns hn)
theorem gq.ya{A A':af}{g:aC}{v:I}{xs:List Nat}{p:Nat→Bool}(h:gq g A v)(hm:nQ g.op=some xs)(ha:eg A A' g.db)(hx:∀ s∈xs,(A.t s).only p=true)(ho:∀ n,p n=true→A'.o n=A.o n):gq g A' v:=by
 rcases h with ⟨h,rfl⟩ | ⟨h,k⟩
 ·exact .inl ⟨qk ha h,rfl⟩
 ·exact .inr ⟨nW ha h,by rw[akB hm (aC.kJ ha) hx ho];exact k⟩
theorem gq.tD{L:eB}{A:af}{g:aC}{v:I}(hi:eA L A)(hg:im L g=true)(h:gq g A v):eA L (A.aP g.dst v):=by
 rcases h with ⟨_,rfl⟩ | ⟨_,k⟩
 ·exact hi.put (fun _=>rfl) fun _ _ _ _=>rfl
 ·exact hi.put (fun _=>rfl) (JV hi hg k)
theorem gq.cN{A A':af}{g:aC}{v:I}(h:gq g A v)(hu:ep A A')(ha:eg A A' g.db):gq g A' v:=by
 rcases h with ⟨h,rfl⟩ | ⟨h,k⟩
 ·exact .inl ⟨qk ha h,rfl⟩
 ·exact .inr ⟨nW ha h,Kp hu (aC.kJ ha) k⟩
theorem IX{L:eB}{g h:aC}(hi:nN hs L g h=true):jx g.op=true∧o5 hs L g h=true∧(∀ d,g.dst=some d→d∉h.db)∧(∀ d,g.dst=some d→h.dst≠some d)∧(∀ d,h.dst=some d→d∉g.db):=by
 simp only[nN,zz3] at hi;obtain ⟨h1,h2,h3,h4⟩:=hi;refine ⟨h1,h2,fun d ae =>?_,fun d ae =>?_,fun d ae =>?_⟩
 ·rw[ae] at h3;simp at h3;exact h3.1
 ·rw[ae] at h3;simp at h3;exact h3.2
 ·rw[ae] at h4;simpa using h4
theorem AA{aD:Bool}{A A':af}{ρ:List (Nat×Nat)}{os:List (Nat×aj)}(hu:ep A A'):∀ {xs cs:List I},jD aD A ρ os xs cs→jD aD A' ρ os xs cs
 | [],[],_=>trivial
 |x::xs,c::cs,h=>⟨h.1.imp id fun h=>DK hu h,AA hu h.2⟩
 | [],_::_,h=>h.elim
 |_::_,[],h=>h.elim
theorem aiM{A:af}{d:Option Nat}{v:I}{ts:List (Nat×I)}{os:List (Nat×aj)}(h:A.aP d v=au ts os):∃ ts2,A=au ts2 os∧∀ X:List (Nat×aj),(au ts2 X).aP d v=au ts X:=by
 cases d with
 |none=>exact ⟨ts,h,fun _=>rfl⟩
 |some d =>
  have ht:∀ k,(A.aP (some d) v).t k=bO ts k:=fun k=>by rw[h];rfl
  have ho:A.o=ak os:=by
   have:(A.aP (some d) v).o=ak os:=by rw[h];rfl
   rwa [iN] at this
  refine ⟨(d,A.t d)::ts,?_,fun X =>?_⟩
  ·cases A with
   |mk t o =>
    simp only[au,af.mk.injEq];refine ⟨funext fun k =>?_,ho⟩;have:=ht k;simp only[af.aP,af.put] at this;simp only[bO];by_cases hk:k=d
    ·subst hk;simp
    ·rw[if_neg hk] at this;have hk':¬ d=k:=fun e=>hk e.symm;simp only[hk,if_false];exact this
  ·simp only[af.aP,af.put,au,af.mk.injEq,and_true]
   funext k
   have:=ht k;simp only[af.aP,af.put] at this;by_cases hk:k=d
   ·subst hk;simp at this ⊢;exact this
   ·have hk':¬ d=k:=fun e=>hk e.symm;simp only[bO,hk,if_false]
theorem akz{ρ:List (Nat×Nat)}{os0 os':List (Nat×aj)}{r:I}(hb:eK false ρ [] os0 r os'){n:Nat}{x:aj}(hx:ak os0 n=some x):ak (dL ρ os'++os0) n=some x:=by
 rw[rE];cases hp:pre ρ os' n with
 |none=>exact hx
 |some m =>
  obtain ⟨h1,h2⟩:=mi hp;have:=(hb.qh m h1 (by simp[av,ak])).1;rw[h2,hx] at this;cases this
theorem cg.Sc{A B:af}{j:aC}{v:I}{f:FuncId}{args:List aM}{dst:Option Nat}{rest:List aC}(hj:jx j.op=true)(hv:gq j A v)(hB:B=A.aP j.dst v)(hf:hs.contains f=false)(hag:eg A B (kh args))(ae:∀ d,j.dst=some d→dst≠some d)(hr:∀ d,dst=some d→d∉j.db)
  (h:cg P hs K (.call f (args.map (ah B)) (bV true B (args.map (ah B))) (bV false B (args.map (ah B))) dst rest B)):cg P hs K (.call f (args.map (ah A)) (bV true A (args.map (ah A))) (bV false A (args.map (ah A))) dst (j::rest) A):=by
 have eo:B.o=A.o:=by rw[hB,iN]
 have cN:ep B A:=fun n x hx=>by rwa [←eo]
 have up':ep A B:=fun n x hx=>by rwa [eo]
 have eav:args.map (ah B)=args.map (ah A):=mN hag;rw[eav] at h;have cont:∀ r:I,cg P hs K (aA rest (B.aP dst r))→cg P hs K (aA (j::rest) (A.aP dst r)):=fun r hw=>by
  have h1:gq j (A.aP dst r) v:=hv.cN (fun n x hx=>by rwa [iN]) (m3 hr);rw[h1.to hj,qy (fun d hd'=>fun e=>ae d e hd'),←hB];exact hw
 generalize e1:bV true B (args.map (ah A))=a1 at h;generalize e2:bV false B (args.map (ah A))=a2 at h;generalize hBm:B=B0 at h;cases h with
 |flat r hc hfl hw =>
  subst hBm;rw[lZ cN e1];exact .flat r hc hfl (cont r hw)
 |lead r hc hw =>
  subst hBm;rw[lZ cN e2];exact .lead r hc (cont r hw)
 |bT ρ cargs post hc hg ha hb hw =>
  rename_i ts os0;rw[hB] at hBm;obtain ⟨ts2,hA,hts⟩:=aiM hBm;have hA':=hA;clear cont;subst hA;refine .bT ρ cargs post hc hg (AA (A:=au ts os0) (A':=au ts2 os0) (fun n x hx=>hx) ha) hb fun r os' hp =>?_;have h1:gq j ((au ts2 (dL ρ os'++os0)).aP dst (r.aQ (bD ρ))) v:=hv.cN (fun n x hx=>by
   rw[iN];exact akz (hb r os' hp) hx) (fun k hk=>by
    have:=m3 (A:=au ts2 (dL ρ os'++os0)) (v:=r.aQ (bD ρ)) hr k hk;rw[this];rfl)
  rw[h1.to hj,qy (fun d hd'=>fun e=>ae d e hd'),hts];exact hw r os' hp
 |yq aD ρ os cargs post hfs =>
  rw[hf] at hfs;cases hfs
theorem cg.swap{L:eB}{A:af}{j g:aC}{rest:List aC}(hinv:eA L A)(hi:nN hs L j g=true)(hw:cg P hs K (aA (j::g::rest) A)):cg P hs K (aA (g::j::rest) A):=by
 obtain ⟨hj,hl,i1,i2,i3⟩:=IX hi;obtain ⟨v,hv,hw⟩:=cg.zw hj hw;have ag:eg (A.aP j.dst v) A g.db:=(m3 i1).symm;have ag':eg A (A.aP j.dst v) g.db:=m3 i1;have cN:ep (A.aP j.dst v) A:=fun n x hx=>by rwa [iN] at hx
 have up':∀ (d:Option Nat) (u:I),ep A (A.aP d u):=fun d u n x hx=>by rwa [iN]
 by_cases hsg:jx g.op=true
 ·obtain ⟨u,hu,hw⟩:=cg.zw hsg hw;rw[(hu.cN cN ag).to hsg,(hv.cN (up' _ _) (m3 i3)).to hj,←qy i2];exact hw
 ·-- the guard
  have guard:(gC (A.aP j.dst v) g∧aA (g::rest) (A.aP j.dst v)=aA rest ((A.aP j.dst v).aP g.dst .undef))∨(pass (A.aP j.dst v) g∧aA (g::rest) (A.aP j.dst v)=bn (A.aP j.dst v) g.dst g.op rest (aA rest))∨aA (g::rest) (A.aP j.dst v)=.fail:=by
   cases hg:g.guard with
   |none=>exact .inr (.inl ⟨by simp only[pass,hg],by simp only[aA,hg]⟩)
   |some tb =>
    obtain ⟨t,b⟩:=tb;cases ht:(A.aP j.dst v).t t with
    |bool b' =>
     by_cases hbb:b'=b
     ·subst hbb;have hp:pass (A.aP j.dst v) g:=by simp only[pass,hg,ht]
      exact .inr (.inl ⟨hp,ov hp⟩)
     ·have hn:gC (A.aP j.dst v) g:=by simp only[gC,hg];exact .inl (by rw[ht,vH hbb])
      exact .inl ⟨hn,sB hn⟩
    |undef =>
     have hn:gC (A.aP j.dst v) g:=by simp only[gC,hg];exact .inr ht
     exact .inl ⟨hn,sB hn⟩
    |_=>exact .inr (.inr (by simp only[aA,hg,ht]))
  rcases guard with ⟨hn,he⟩ | ⟨hp,he⟩ | he
  ·rw[he] at hw;rw[sB (qk ag hn),(hv.cN (up' _ _) (m3 i3)).to hj,←qy i2];exact hw
  ·rw[he] at hw;rw[ov (nW ag hp)];obtain ⟨dst,op,gd⟩:=g;simp only at hw hsg i2 i3 ⊢;cases op with
   |alloc z =>
    cases dst with
    |none=>simp only[bn] at hw;cases hw
    |some d =>
    simp only[bn] at hw ⊢;split at hw
    case h_2=>cases hw
    rename_i ho;rw[iN] at ho;simp only[ho];have h1:gq j ((A.aO d (.box z)).put d (.ptr d [])) v:=hv.cN (fun n y hy=>by
     have:n≠d:=fun he=>by rw[he,ho] at hy;cases hy
     simp only[af.put,af.aO,this,if_false];exact hy) (fun k hk=>by
     have:k≠d:=fun he=>i3 d rfl (he▸hk);simp only[af.put,af.aO,this,if_false])
    rw[h1.to hj];have e:((A.aP j.dst v).aO d (.box z)).put d (.ptr d [])=((A.aO d (.box z)).put d (.ptr d [])).aP j.dst v:=by
     cases hgd:j.dst with
     |none=>rfl
     |some e =>
      have hne:e≠d:=fun he=>i2 e hgd (by rw[he]);simp only[af.aP,af.put,af.aO,af.mk.injEq,and_true]
      funext k
      by_cases h1:k=e <;>by_cases h2:k=d <;>simp_all
    rw[←e];exact hw
   |box x =>
    have ex:ah (A.aP j.dst v) x=ah A x:=dq (aC.kJ ag');cases dst with
    |none=>simp only[bn] at hw;cases hw
    |some d =>
    simp only[bn] at hw ⊢;split at hw
    case h_2=>cases hw
    rename_i ho;rw[iN] at ho;simp only[ho];rw[ex] at hw;split at hw
    case isFalse=>cases hw
    rename_i hval;rw[if_pos hval];have h1:gq j ((A.aO d (.box (ah A x))).put d (.ptr d [])) v:=hv.cN (fun n y hy=>by
     have:n≠d:=fun he=>by rw[he,ho] at hy;cases hy
     simp only[af.put,af.aO,this,if_false];exact hy) (fun k hk=>by
     have:k≠d:=fun he=>i3 d rfl (he▸hk);simp only[af.put,af.aO,this,if_false])
    rw[h1.to hj];have e:((A.aP j.dst v).aO d (.box (ah A x))).put d (.ptr d [])=((A.aO d (.box (ah A x))).put d (.ptr d [])).aP j.dst v:=by
     cases hgd:j.dst with
     |none=>rfl
     |some e =>
      have hne:e≠d:=fun he=>i2 e hgd (by rw[he]);simp only[af.aP,af.put,af.aO,af.mk.injEq,and_true]
      funext k
      by_cases h1:k=e <;>by_cases h2:k=d <;>simp_all
    rw[←e];exact hw
   |call f args =>
    simp only[bn] at hw ⊢;refine cg.Sc hj hv rfl (by simpa[o5,qa] using hl) (aC.kJ ag') i2 i3 hw
   |br s y u =>
    cases dst with
    |some d=>simp only[bn] at hw;cases hw
    |none =>
    have ey:ah (A.aP j.dst v) y=ah A y:=dq (aC.kJ ag').l;have eu:ah (A.aP j.dst v) u=ah A u:=dq (aC.kJ ag').r;simp only[bn] at hw ⊢;rw[ey,eu,iN] at hw;cases hx:ah A y <;>simp only[hx] at hw ⊢ <;>try (cases hw;done)
    rename_i n q;cases ho:A.o n with
    |none=>rw[ho] at hw;cases hw
    |some ob =>
    rw[ho] at hw;cases ob <;>simp only at hw ⊢ <;>try (cases hw;done)
    rename_i b;cases hb:b.at q with
    |none=>rw[hb] at hw;cases hw
    |some old =>
    rw[hb] at hw;simp only at hw ⊢;split at hw
    case isFalse=>cases hw
    rename_i hok;rw[if_pos hok];have h1:gq j (A.aO n (.box (b.dM q (ah A u)))) v:=by
     have none0:nQ j.op=some []→gq j (A.aO n (.box (b.dM q (ah A u)))) v:=fun hm=>hv.ya (p:=fun _=>false) hm (fun _ _=>rfl) (fun s hs'=>by cases hs') (fun m hm=>by cases hm);cases y with
     |c y =>
      simp only[o5,qa,jx,Bool.false_or] at hl;split at hl
      ·rename_i hm;exact none0 hm
      ·cases hl
     |t y =>
      simp only[o5,qa,jx,Bool.false_or] at hl;split at hl
      ·rename_i hm;exact none0 hm
      ·split at hl
       case h_2=>cases hl
       rename_i ms hms;obtain ⟨xs,hm,hx2⟩:=Ar hinv hl;refine hv.ya hm (fun _ _=>rfl) hx2 fun m hm2 =>?_;have hn:=hinv y ms hms;simp only[ah] at hx;rw[hx] at hn;have:m≠n:=fun e=>by subst e;simp[I.only] at hn hm2;exact hm2 hn
       simp only[af.aO,if_neg this]
    rw[h1.to hj];have e:(A.aP j.dst v).aO n (.box (b.dM q (ah A u)))=(A.aO n (.box (b.dM q (ah A u)))).aP j.dst v:=by cases j.dst <;>rfl
    rw[←e];exact hw
   |c7 e esz bytes z s x =>
    have hag:eg A (A.aP j.dst v) (s.sl++x.sl):=aC.kJ ag';have he2:bn (A.aP j.dst v) dst (.c7 e esz bytes z s x) rest (aA rest)=bn A dst (.c7 e esz bytes z s x) (j::rest) fun B=>aA rest (B.aP j.dst v):=by
     cases hjd:j.dst with
     |none=>rfl
     |some d =>
      rw[hjd] at hag;exact PE (fun e=>i2 d hjd e) hag rest (j::rest) (aA rest)
    rw[he2] at hw;have kC:∀ B,su A dst (ah A s) B→aA (j::rest) B=aA rest (B.aP j.dst v):=fun B hB=>by
     have hagB:eg A B j.db:=fun k hk=>hB.1 k fun e=>i3 k e hk;have:gq j B v:=by
      simp only[o5,qa,jx,Bool.false_or,Bool.or_eq_true] at hl;rcases hl with hl | hl
      ·obtain ⟨xs,hm,hx2⟩:=Ar hinv hl;exact hv.ya hm hagB hx2 fun m hm2=>by cases hm2
      ·have:=r4 hinv hl;exact hv.cN (hB.2 (by simpa using this)) hagB
     rw[this.to hj]
    rcases Aw A dst e esz bytes z s x (j::rest) with h1 | ⟨B,h1,h2⟩ | ⟨p,bp,h1,h2⟩
    ·rw[h1] at hw;cases hw
    ·rw[h1] at hw ⊢;rw[kC B h2];exact hw
    ·rw[h1] at hw ⊢;exact .any fun m hm=>by rw[kC _ (h2 m)];exact hw.Ap m hm
   |_=>first | exact absurd rfl hsg | (simp[o5,qa,jx] at hl)
  ·rw[he] at hw;cases hw
theorem cg.pK{L:eB}{g:aC} : ∀ {l:List aC} {r:List aC} {A:af},eA L A→(∀ j∈l,nN hs L j g=true∧im L j=true)→cg P hs K (aA (l++g::r) A)→cg P hs K (aA (g::(l++r)) A)
 | [],r,A,_,_,h=>h
 |j::l,r,A,hinv,hi,h=>by
  have hj:=(IX (hi j (by simp)).1).1;obtain ⟨v,hv,h2⟩:=cg.zw (g:=j) (rest:=l++g::r) hj h;have h3:=cg.pK (l:=l) (r:=r) (hv.tD hinv (hi j (by simp)).2) (fun k hk=>hi k (by simp[hk])) h2;refine cg.swap hinv (hi j (by simp)).1 ?_;rw[hv.to hj];exact h3
end
def rI:List Nat→Bool
 | []=>true
 |a::l => !l.contains a&&rI l
def qO(hs:List FuncId)(L:eB)(gs:List aC)(cl:List Nat):List Nat→List Nat→Bool
 |_,[]=>true
 |before,i::σ=>(before.all fun j=>(cl.getD i 0).testBit j||nN hs L (gs.getD j default) (gs.getD i default))&&qO hs L gs cl (i::before) σ
def uk(hs:List FuncId)(L:eB)(on:List (List Nat))(gs:List aC)(cl:List Nat)(σ:List Nat):Bool :=
 (Nat.beq σ.length gs.length&&(rI σ&&(σ.all (fun i=>decide (i<gs.length))&&((List.range gs.length).all (fun i=>σ.contains i)&&gs.all fun g=>oY g.op&&im L g))))&&(qO hs L gs cl [] σ&&(List.range gs.length).all fun i=>(on.getD i []).all (fun k=>decide (k<i))&&Nat.beq (cl.getD i 0) (oi cl (on.getD i [])))
theorem ym:∀ {l:List Nat},rI l=true→l.Nodup
 | [],_=>List.nodup_nil
 |a::l,h=>by
  simp only[rI,zz3,Bool.not_eq_true',List.contains_eq_mem,decide_eq_false_iff_not] at h;exact List.nodup_cons.2 ⟨h.1,ym h.2⟩
theorem vt{hs:List FuncId}{L:eB}{gs:List aC}{cl:List Nat} : ∀ {σ before:List Nat},qO hs L gs cl before σ=true→∀ s1 i s2,σ=s1++i::s2→∀ j,j∈before∨j∈s1→(cl.getD i 0).testBit j=true∨nN hs L (gs.getD j default) (gs.getD i default)=true
 | [],_,_,s1,i,s2,e,_,_=>by cases s1 <;>cases e
 |a::σ,before,h,s1,i,s2,e,j,hj=>by
  simp only[qO,zz3,zx9,Bool.or_eq_true] at h;cases s1 with
  |nil =>
   simp only[zy7,List.cons.injEq] at e;obtain ⟨rfl,rfl⟩:=e;rcases hj with hj | hj
   ·exact h.1 j hj
   ·cases hj
  |cons b s1 =>
   simp only[zy1,List.cons.injEq] at e;obtain ⟨rfl,rfl⟩:=e;refine vt h.2 s1 i s2 rfl j ?_;rcases hj with hj | hj
   ·exact .inl (List.mem_cons_of_mem _ hj)
   ·rcases zx8.1 hj with hj | hj
    ·exact .inl (by rw[hj];exact List.mem_cons_self)
    ·exact .inr hj
def fb(σ:List Nat)(listed:Array Bool):List Nat:=σ.filter fun i => !listed.getD i true
def jP(gs:List aC)(σ:List Nat)(listed:Array Bool):List aC:=(fb σ listed).map fun i=>gs.getD i default
theorem Mn{σ:List Nat}{listed:Array Bool}{i:Nat}(hn:σ.Nodup)(hi:i∈σ)(hl:i<listed.size)(hu:listed.getD i true=false):∃ s1 s2,σ=s1++i::s2∧fb σ listed=(s1.filter fun j => !listed.getD j true)++i::(s2.filter fun j => !listed.getD j true) ∧
  fb σ (listed.setIfInBounds i true)=(s1.filter fun j => !listed.getD j true)++(s2.filter fun j => !listed.getD j true):=by
 obtain ⟨s1,s2,rfl⟩:=List.append_of_mem hi;have same:∀ j,j≠i→(listed.setIfInBounds i true).getD j true=listed.getD j true:=fun j hj=>getD_set_ne true (Ne.symm hj);have hit:(listed.setIfInBounds i true).getD i true=true:=by simp[hl]
 have hnd:=List.nodup_append.1 hn;have h1:∀ j∈s1,j≠i:=fun j hj=>hnd.2.2 j hj i List.mem_cons_self;have h2:∀ j∈s2,j≠i:=fun j hj e=>(List.nodup_cons.1 hnd.2.1).1 (e▸hj);refine ⟨s1,s2,rfl,?_,?_⟩
 ·simp only[fb,List.filter_append,zw1,hu,Bool.not_false,if_true]
 ·simp only[fb,List.filter_append,zw1,hit,Bool.not_true,zz6,if_false]
  congr 1
  ·exact List.filter_congr fun j hj=>by rw[same j (h1 j hj)]
  ·exact List.filter_congr fun j hj=>by rw[same j (h2 j hj)]
structure Ag (hs:List FuncId) (L:eB) (l:List Oper) (gs:List aC) (σ:List Nat):Prop where
 ub:σ.Nodup
 lt:∀ i∈σ,i<gs.length
 all:∀ i,i<gs.length→i∈σ
 ok:∀ g∈gs,oY g.op=true∧im L g=true
 len:σ.length=gs.length
 nt:∀ i o,l[i]?=some o→∀ k∈c9 o,k<i
 rq:∀ (S:Nat→Prop),(∀ i o,l[i]?=some o→S i→∀ k∈c9 o,S k)→∀ s1 i s2 o,σ=s1++i::s2→l[i]?=some o→(∀ k∈c9 o,S k)→∀ j∈s1,¬ S j→nN hs L (gs.getD j default) (gs.getD i default)=true
theorem akq{hs:List FuncId}{L:eB}{l:List Oper}{gs:List aC}{cl σ:List Nat}(hlen:gs.length=l.length)(h:uk hs L (l.map c9) gs cl σ=true):Ag hs L l gs σ:=by
 simp only[uk,zz3,zx9,decide_eq_true_eq,zw7,List.contains_eq_mem] at h;obtain ⟨⟨h1,h2,h3,h4,h5⟩,h6,h7⟩:=h;have dp:∀ i o,l[i]?=some o→(∀ k∈c9 o,k<i)∧(∀ j,(cl.getD i 0).testBit j=true→j∈c9 o∨∃ k∈c9 o,(cl.getD k 0).testBit j=true):=by
  intro i o ho;have hi:i<l.length:=(zy4.1 ho).1;have h8:=h7 i (by omega);have hon:(l.map c9).getD i []=c9 o:=by simp[zz2,ho]
  rw[hon] at h8;have hb:=Nat.eq_of_beq_eq_true h8.2;exact ⟨h8.1,fun j hj=>uU (by rw[←hb];exact hj)⟩
 refine ⟨ym h2,h3,h4,h5,Nat.eq_of_beq_eq_true h1,fun i o ho=>(dp i o ho).1,?_⟩;intro S hS s1 i s2 o e ho hon j hj hnj;have key:∀ n i o,i≤n→l[i]?=some o→(∀ k∈c9 o,S k)→∀ j,(cl.getD i 0).testBit j=true→S j:=by
  intro n
  induction n with
  |zero =>
   intro i o hi ho hon j hj;obtain ⟨h8,h9⟩:=dp i o ho;rcases h9 j hj with h | ⟨k,hk,_⟩
   ·exact hon j h
   ·have:=h8 k hk;omega
  |succ n ih =>
   intro i o hi ho hon j hj;obtain ⟨h8,h9⟩:=dp i o ho;rcases h9 j hj with h | ⟨k,hk,hjk⟩
   ·exact hon j h
   ·have hki:=h8 k hk;have hkl:k<l.length:=Nat.lt_trans hki (zy4.1 ho).1;obtain ⟨ok,hok⟩:∃ ok,l[k]?=some ok:=⟨l[k],zy0 hkl⟩
    exact ih k ok (by omega) hok (hS k ok hok (hon k hk)) j hjk
 rcases vt h6 s1 i s2 e j (.inr hj) with h | h
 ·exact absurd (key i i o (zz8 _) ho hon j h) hnj
 ·exact h
section
variable {c:cO}
theorem xF{K:af→Prop}{hs:List FuncId}{L:eB}{bd:Array Oper}{Q:Exit→Act→World→Prop}{o:Oper}{g:aC}{rest:List aC}{A:af}{a:Act}{w:World}{Kw:Act→World→Prop}(hg:oB c.P c.n bd o=some g)(hi:eA L A)(ho:oY g.op=true∧im L g=true)(hwp:cg c.P hs K (aA (g::rest) A))(hs':ct c A a w)
  (hK:∀ B a' w',cg c.P hs K (aA rest B)→eA L B→ct c B a' w'→Kw a' w'):if Region.wanted o (yielded bd a.tmps) then o.wpIn c.bp 9 c.P a w Kw Q else (∀ f,o.about c.P w a.eval=some f→c.bp.fn f)∧Kw (a.put o.dst undef) w:=by
 obtain ⟨h1,h2,h3,h4⟩:=pM hg;have step:cg c.P hs K (bn A g.dst g.op rest (aA rest))→o.wpIn c.bp 9 c.P a w Kw Q:=fun h =>
  xH h1 h2.symm (by rw[h2];exact h3) (cg.one (Y:=c.Y) hi ho.1 ho.2 h) hs' (fun B a' w' hw hs2=>by
   cases hw with
   |done hk=>exact hK B a' w' hk.1 hk.2 hs2)
 simp only[aA] at hwp;rcases h4 with ⟨h5,h6⟩ | ⟨j,b,t,h5,h6,h7⟩
 ·rw[h6] at hwp;have hw:Region.wanted o (yielded bd a.tmps)=true:=by simp[Region.wanted,h5]
  rw[hw,if_pos rfl];exact step hwp
 ·rw[h7] at hwp;simp only at hwp;split at hwp
  ·rename_i b' hb';rw[xO hs' h5 h6 hb'];split at hwp
   ·rename_i hbb;subst hbb;simp only[BEq.rfl,if_true];exact step hwp
   ·rename_i hbb;have:(b'==b)=false:=by simpa using hbb
    rw[this];simp only[zz6,if_false];exact ⟨fun f _=>oG c f,hK _ _ _ hwp (hi.put (fun _=>rfl) fun _ _ _ _=>rfl) (by rw[h2];exact hs'.qx h3)⟩
  ·rename_i hb';rw[xP hs' h5 h6 hb'];simp only[zz6,if_false];exact ⟨fun f _=>oG c f,hK _ _ _ hwp (hi.put (fun _=>rfl) fun _ _ _ _=>rfl) (by rw[h2];exact hs'.qx h3)⟩
  ·cases hwp
theorem Pw{K:af→Prop}{fs:List FuncId}{L:eB}{bd:Array Oper}{gs:List aC}{σ:List Nat}{Q:Exit→Act→World→Prop}(hQ:∀ B a w,K B→ct c B a w→Q .normal a w)(hgs:gJ c.P c.n bd bd.toList=some gs)(ae:Ag fs L bd.toList gs σ) :
  ∀ (fuel:Nat) (listed:Array Bool) (A:af) (a:Act) (w:World),listed.size=bd.size→(∀ i o,bd.toList[i]?=some o→listed.getD i false=true→∀ k∈c9 o,listed.getD k false=true)→(fb σ listed).length≤fuel →
   eA L A→cg c.P fs K (aA (jP gs σ listed) A)→ct c A a w→wpAnyIn c.bp 9 c.P .any bd Q fuel listed a w:=by
 obtain ⟨hlen,hat⟩:=ku hgs;have onOf_mem:∀ (o:Oper) (e:Edge),e∈o.after→Region.binds .any e=true→e.on∈c9 o:=fun o e he hb=>by
  simp only[c9,zx2,zw4];exact ⟨e,⟨by simpa using he,hb⟩,rfl⟩
 have of_onOf:∀ (o:Oper) (k:Nat),k∈c9 o→∃ e∈o.after,Region.binds .any e=true∧e.on=k:=fun o k hk=>by
  simp only[c9,zx2,zw4] at hk;obtain ⟨e,⟨h1,h2⟩,h3⟩:=hk;exact ⟨e,by simpa using h1,h2,h3⟩
 have hgl:gs.length=bd.size:=by rw[hlen,zv0]
 have last:∀ (listed:Array Bool) (A:af) (a:Act) (w:World),listed.size=bd.size→Region.ready .any bd listed=[]→cg c.P fs K (aA (jP gs σ listed) A)→ct c A a w→Q .normal a w:=by
  intro listed A a w hsz hr hwp hs;have hnone:fb σ listed=[]:=by
   have all:∀ n,∀ i,i<n→i<bd.size→listed.getD i true=true:=by
    intro n
    induction n with
    |zero=>intro i hi;omega
    |succ n ih =>
     intro i hi his;cases hb:listed.getD i true with
     |true=>rfl
     |false =>
      exfalso
      have ho:bd[i]?=some bd[i]:=Array.getElem?_eq_getElem his;have:i∈Region.ready .any bd listed:=mem_ready.2 ⟨hb,bd[i],ho,fun e he hbd=>by
       have hlt:=ae.nt i bd[i] (by simp) e.on (onOf_mem _ e he hbd);have h1:=ih e.on (by omega) (by omega);have h2:e.on<listed.size:=by omega
       simpa[Array.getD_eq_getD_getElem?,h2] using h1⟩
      rw[hr] at this;cases this
   simp only[fb];refine List.filter_eq_nil_iff.2 fun i hi =>?_;have:=all (i+1) i (by omega) (by rw[←hgl];exact ae.lt i hi);simp only[this,Bool.not_true,zz6,not_false_eq_true]
  simp only[jP,hnone,zx3,aA] at hwp;cases hwp with
  |done hk=>exact hQ A a w hk hs
 intro fuel
 induction fuel with
 |zero =>
  intro listed A a w hsz hcl hcnt hinv hwp hs;have hnone:fb σ listed=[]:=zv4.1 (by omega);have hr:Region.ready .any bd listed=[]:=by
   refine List.eq_nil_iff_forall_not_mem.2 fun i hi =>?_;obtain ⟨h1,o,ho,_⟩:=mem_ready.1 hi;have:i∈fb σ listed:=by
    simp only[fb,zw4,h1,Bool.not_false,and_true];exact ae.all i (by rw[hgl];exact (zx7.1 ho).1)
   rw[hnone] at this;cases this
  exact ⟨hr,last listed A a w hsz hr hwp hs⟩
 |succ fuel ih =>
  intro listed A a w hsz hcl hcnt hinv hwp hs;refine ⟨fun hr=>last listed A a w hsz hr hwp hs,fun i hi =>?_⟩;obtain ⟨hun,o,ho,hall⟩:=mem_ready.1 hi;have hin:i<bd.size:=(zx7.1 ho).1;obtain ⟨s1,s2,hσ,e1,e2⟩:=Mn ae.ub (ae.all i (by omega)) (by omega) hun;have hol:bd.toList[i]?=some o:=by simpa using ho
  obtain ⟨g,hgi,hcg⟩:=hat i o hol;have hon:∀ k∈c9 o,listed.getD k false=true:=fun k hk=>by
   obtain ⟨e,h1,h2,h3⟩:=of_onOf o k hk;exact h3▸hall e h1 h2
  have hgd:gs.getD i default=g:=by simp[zz2,hgi]
  have hwp':cg c.P fs K (aA (g::jP gs σ (listed.setIfInBounds i true)) A):=by
   simp only[jP,e1,zx4,zz9,hgd] at hwp;simp only[jP,e2,zx4];refine cg.pK hinv (fun j hj =>?_) hwp;obtain ⟨k,hk,rfl⟩:=zx2.1 hj;obtain ⟨hk1,hk2⟩:=zw4.1 hk;have:=ae.rq (fun k=>listed.getD k false=true) hcl s1 i s2 o hσ hol hon k hk1 (by
    have hks:k<listed.size:=by
     have:=ae.lt k (by rw[hσ];exact List.mem_append_left _ hk1);omega
    simp[Array.getD_eq_getD_getElem?,hks] at hk2 ⊢;exact hk2)
   rw[hgd] at this;refine ⟨this,(ae.ok _ ?_).2⟩;have hkl:=ae.lt k (by rw[hσ];exact List.mem_append_left _ hk1);rw[zz2,zy0 hkl];exact zx6 _
  unfold wpOpIn;rw[ho];refine xF hcg hinv (ae.ok g (List.mem_of_getElem? hgi)) hwp' hs fun B a' w' hw hiB hs'=>ih _ B a' w' (by simpa using hsz) ?_ ?_ hiB hw hs'
  ·intro m om hom hm k hk;by_cases hmi:m=i
   ·subst hmi;rw[hol,t7] at hom;subst hom;exact getD_set_true (hon k hk)
   ·rw[getD_set_ne false (Ne.symm hmi)] at hm;exact getD_set_true (hcl m om hom hm k hk)
  ·have:(fb σ listed).length=(fb σ (listed.setIfInBounds i true)).length+1:=by
    rw[e1,e2];simp;omega
   omega
def mg(σ:List Nat)(gs:List aC):List aC:=σ.map fun i=>gs.getD i default
theorem J.akP{Q:Exit→af→Prop}{A:af}{on:List (List Nat)}{gs:List aC}(hs:List FuncId)(L:eB)(cl σ:List Nat)(ae:uk hs L on gs cl σ=true)(hi:eA L A)(h:∀ K:af→Prop,(∀ B,Q .normal B→K B)→cg c.P hs K (aA (mg σ gs) A)):J c (.bW (some on) gs) Q A:=by
 intro code hc a w hs';cases code <;>simp only[eV] at hc <;>try (first | (cases hc;done) | ((repeat' split at hc) <;>cases hc;done))
 rename_i id bd draw;split at hc
 ·rename_i gs' hgs;split at hc
  case isFalse=>cases hc
  rename_i hok;simp only[t7,aR.bW.injEq] at hc;obtain ⟨he,rfl⟩:=hc;cases draw with
  |false=>cases he
  |true =>
   simp only[cond_true,t7] at he;subst he;simp only[Bool.not_true,Bool.false_or] at hok;have hp:=akq (ku hgs).1 ae;refine wpIn_region_any hok (Pw (K:=Q .normal) (fun B a w hk hs=>⟨B,hk,hs⟩) hgs hp bd.size (Array.replicate bd.size false) A a _ (by simp) ?_ ?_ hi ?_ ?_)
   ·intro i o _ h
    exfalso
    simp only[Array.getD_eq_getD_getElem?,Array.getElem?_replicate] at h;split at h <;>simp at h
   ·refine zu0 (zv8 _ _) ?_;rw[hp.len,(ku hgs).1,zv0];exact zz8 _
   ·have hall:fb σ (Array.replicate bd.size false)=σ:=by
     simp only[fb];refine List.filter_eq_self.2 fun i hi =>?_;have h1:=hp.lt i hi;rw[(ku hgs).1,zv0] at h1;simp[h1]
    simp only[jP,hall];exact h _ fun _ hb=>hb
   ·obtain ⟨D,E,hs'⟩:=hs';exact ⟨D,E,hs'.grow (w' := { w with drawn:=w.drawn+1 }) ⟨rfl,rfl,rfl,zz8 _,fun _ _=>rfl⟩ (fun _ _ h=>h) (fun _ _ h _=>h) (fun b o h=>hs'.dm b o h)⟩
 ·cases hc
def nO(ts:List (Nat×I)):eB→Prop
 | []=>True
 |(s,ns)::L=>(bO ts s).only (fun n=>ns.contains n)=true∧nO ts L
theorem eA.of{ts:List (Nat×I)}{os:List (Nat×aj)}{L:eB}(h:nO ts L):eA L (au ts os):=by
 intro s ns hn;simp only[au]
 induction L with
 |nil=>cases hn
 |cons q L ih =>
  obtain ⟨s',ns'⟩:=q;simp only[nO] at h;simp only[jj,List.find?_cons] at hn;split at hn
  ·rename_i e;simp only[zy5,t7] at hn;simp only[beq_iff_eq] at e;subst e hn;exact h.1
  ·exact ih h.2 hn
end
end Go.Abs
namespace Go.Abs
open Go Go.RowKit
open Enc (enc)
section
variable {α:Type} [Enc α] {P:Program} {Y:Value→List I→List (Nat×aj)→cV→Prop} {K:af→Prop} {A:af} {rest:List aC} {esz bytes:Nat}
theorem qD{n lo k:Nat}{xs:List α}(ho:A.o n=some (.box (.agg (xs.map enc))))(h:lo+k≤xs.length):eD A esz (.view n [] esz lo k)=some (((xs.drop lo).take k).map enc):=by
 have h1:cD A (.ptr n [])=some (.agg (xs.map enc)):=by simp only[cD,ho];rfl
 simp only[eD,h1,zy3];rw[if_pos ⟨h,trivial⟩,List.map_take,List.map_drop]
theorem MS{xs ys:List α}(h:xs.length=ys.length):I.cU (xs.map enc)=I.cU (ys.map enc):=by
 rw[r0,r0,h]
theorem vy{d:Option Nat}{e:Nat}(z:I)(hs:Enc.sz α=esz){n l:Nat}{xs ys:List α}(hy:ys≠[])(ho:A.o n=some (.box (.agg (xs.map enc))))(hr:l+ys.length≤xs.length) :
  gv A d e esz bytes z (enc ys) rest (.view n [] esz 0 l)=aA rest ((A.aO n (.box (.agg ((xs.take l++(ys++xs.drop (l+ys.length))).map enc)))).aP d (.view n [] esz 0 (l+ys.length))):=by
 have h1:=qD (A:=A) (esz:=esz) (lo:=0) (k:=l) ho (by omega);have h2:(I.agg (xs.map (enc (α:=α)))).at []=some (.agg (xs.map enc)):=rfl;have h3:I.cU (ys.map (enc (α:=α)))=I.cU (((xs.map (enc (α:=α))).drop l).take ys.length):=by
  rw[←List.map_drop,←List.map_take];exact MS (by rw[zy8,zy9];omega)
 simp only[gv,h1,qC A esz ys hs,fq];rw[if_neg (by simpa using hy)];simp only[ho,h2,zy3,zz4];rw[if_pos hr,if_pos ⟨rfl,by rw[zy3,zz4];exact h3⟩];simp only[iP,gp,zy3,zx4,List.map_take,List.map_drop]
end
theorem alr{n:Nat}{p:List Nat}{sz k total i:Nat}(h:i≤k)(hk:k≤total):∃ y,hJ n p sz 0 k total (some (.int .i64 i)) none none=some y:=by
 simp only[hJ,ig];rw[if_pos ⟨by omega,by omega,by omega⟩];split <;>exact ⟨_,rfl⟩
theorem tL(k:Nat):bO [] k=.de:=rfl
def gZ(L:List Nat):List (Nat×I)→List (Nat×I)
 | []=>[]
 |(s,v)::ts=>if L.contains s=true then (s,v)::gZ L ts else gZ L ts
theorem ah6(L:List Nat):gZ L []=[]:=rfl
theorem ah5(L:List Nat)(s:Nat)(v:I)(ts:List (Nat×I)):gZ L ((s,v)::ts)=if L.contains s=true then (s,v)::gZ L ts else gZ L ts:=rfl
theorem Jz(L:List Nat)(t:Nat):∀ ts,bO (gZ L ts) t=.de∨bO (gZ L ts) t=bO ts t
 | []=>.inl rfl
 |(s,v)::ts=>by
  simp only[gZ];have ih:=Jz L t ts;by_cases hs:L.contains s=true
  ·rw[if_pos hs];simp only[bO];split
   ·exact .inr rfl
   ·exact ih
  ·rw[if_neg hs];simp only[bO];split
   ·rename_i e;subst e
    left
    have:∀ ts,bO (gZ L ts) t=.de:=by
     intro ts
     induction ts with
     |nil=>rfl
     |cons q ts ih2 =>
      obtain ⟨s',v'⟩:=q;simp only[gZ];split
      ·rename_i h';simp only[bO];have:t≠s':=fun e=>hs (e▸h');rw[if_neg this];exact ih2
      ·exact ih2
    exact this ts
   ·exact ih
theorem J.fQ(L:List Nat){c:cO}{x:aR}{Q:Exit→af→Prop}{ts:List (Nat×I)}{os:List (Nat×aj)}(h:J c x Q (au (gZ L ts) os)):J c x Q (au ts os):=by
 refine J.sub ?_ h;rintro cc a w ⟨D,E,hs⟩;refine ⟨D,E,hs.sz,hs.eT,fun t =>?_,hs.dQ,hs.da,hs.dm,hs.bT,hs.c4,hs.dV,hs.eZ,hs.cN,hs.fe,hs.fI⟩;simp only[au];rcases Jz L t ts with e | e
 ·rw[e];simp[aV]
 ·rw[e];exact hs.ef t
theorem x4:(∀ L,gZ L []=[])∧(∀ L s v ts,gZ L ((s,v)::ts)=if L.contains s=true then (s,v)::gZ L ts else gZ L ts)∧(∀ (a:Nat) l b,(a::l).contains b=(b==a||l.contains b))∧(∀ b:Nat,([]:List Nat).contains b=false)∧(∀ b,(false||b)=b)∧(∀ b,(true||b)=true)∧(∀ b,(b||true)=true)∧(∀ b,(b||false)=b)∧((false=true)=False) :=
 ⟨ah6,ah5,fun _ _ _=>List.contains_cons,fun _=>rfl,fun _=>rfl,fun _=>rfl,fun b=>by cases b <;>rfl,fun b=>by cases b <;>rfl,by simp⟩
end Go.Abs
namespace Go.Abs
open Go Go.RowKit
open Enc (enc)
def yd:Option aj→Option (List I×List I)
 |some (.cC ks vs)=>some (ks,vs)
 |_=>none
noncomputable def yk(A:af)(n:Nat)(rest:List aC):Option (List I×List I)→cQ
 |some (ks,vs)=>aA rest (A.aO n (.cC ks vs))
 |none=>.fail
noncomputable def yj(A:af)(n:Nat)(ty:cS)(k v:I)(rest:List aC):Option aj→cQ
 |some (.cC ks vs)=>yk A n rest (gl ty k v ks vs)
 |_=>.fail
noncomputable def yi(A:af)(ty:cS)(k v:I)(rest:List aC):I→cQ
 | .mref n=>yj A n ty k v rest (A.o n)
 |_=>.fail
noncomputable def yh(A:af)(d:Nat)(rest:List aC):Option aj→cQ
 |none=>aA rest ((A.aO d (.cC [] [])).put d (.mref d))
 |some _=>.fail
open Classical in
noncomputable def tW(A:af)(d bytes:Nat)(z:I)(rest:List aC):I→cQ
 | .int _ n=>if 0≤n∧n.toNat*bytes≤281474976710656∧n.toNat≤maxLen then aA rest ((A.aO d (.box (.agg (List.replicate n.toNat z)))).put d (.view d [] 1 0 n.toNat)) else .fail
 |_=>.fail
noncomputable def tV(A:af)(d bytes:Nat)(z n:I)(rest:List aC):Option aj→cQ
 |none=>tW A d bytes z rest n
 |some _=>.fail
noncomputable def za(A:af)(d:Nat)(rest:List aC):I→cQ
 | .cM ks vs=>aA rest ((A.aO d (.it ks vs (List.range ks.length) none)).put d (.dx d))
 |_=>.fail
noncomputable def uI(A:af)(d:Nat)(x:I)(rest:List aC):Option aj→cQ
 |none=>za A d rest x
 |some _=>.fail
def wz:Option aj→Option I
 |some (.it ks vs _ cur)=>nC ks vs cur
 |_=>none
def wy(A:af):I→Option I
 | .dx n=>wz (A.o n)
 |_=>none
open Classical in
noncomputable def ql(A:af)(d:Option Nat)(n:Nat)(rest:List aC):Option aj→cQ
 |some (.it ks vs left _)=>if left=[] then aA rest (A.aP d (.tuple [.bool false])) else
   .any (fun i=>i∈left) fun i=>match ks[i]?,vs[i]? with
    |some kk,some x=>aA rest ((A.aO n (.it ks vs (left.filter (· != i)) (some i))).aP d (.tuple [.bool true,kk,x]))
    |_,_=>.fail
 |_=>.fail
noncomputable def yp(A:af)(d:Option Nat)(rest:List aC):I→cQ
 | .dx n=>ql A d n rest (A.o n)
 |_=>.fail
section
variable (d:Option Nat) (rest:List aC) (A:af)
theorem ajz(x:aM):bQ A d (.nilC x) rest=cY (mX (ah A x)) (ds d rest A):=rfl
theorem ajD(neg:Bool)(x y:aM):bQ A d (.ptrE neg x y) rest=cY (m0 neg (ji (ah A x)) (ji (ah A y))) (ds d rest A):=rfl
theorem ajt(ty:cS)(z:I)(ok:Bool)(m k:aM):bQ A d (.lk ty z ok m k) rest=cY (rB ty z ok (ah A k) (gA A (ah A m))) (ds d rest A):=rfl
theorem aiH(n:Nat):gA A (.mref n)=yd (A.o n):=by
 simp only[gA];cases A.o n with
 |none=>rfl
 |some y=>cases y <;>rfl
theorem ajx(ty:cS)(m k v:aM):bQ A none (.gB ty m k v) rest=yi A ty (ah A k) (ah A v) rest (ah A m):=by
 simp only[bQ,bn];cases ah A m <;>rfl
theorem ajv(d:Nat):bQ A (some d) .jM rest=yh A d rest (A.o d):=by
 simp only[bQ,bn];cases A.o d <;>rfl
theorem ajw(d e bytes:Nat)(z:I)(n:aM):bQ A (some d) (.ka e bytes z n) rest=tV A d bytes z (ah A n) rest (A.o d):=by
 simp only[bQ,bn];cases A.o d with
 |some _=>rfl
 |none=>simp only[tV];cases ah A n <;>rfl
theorem ajE(d:Nat)(x:aM):bQ A (some d) (.kg x) rest=uI A d (ah A x) rest (A.o d):=by
 simp only[bQ,bn];cases A.o d with
 |some _=>rfl
 |none=>simp only[uI];cases ah A x <;>rfl
theorem aji(x:aM):bQ A d (.ent x) rest=cY (wy A (ah A x)) (ds d rest A):=by
 simp only[bQ,bn,bt];cases ah A x <;>rfl
theorem ajB(x:aM):bQ A d (.iH x) rest=yp A d rest (ah A x):=by
 simp only[bQ,bn];cases ah A x <;>rfl
end
theorem dT :
  (∀ d rest A x,bQ A d (.nilC x) rest=cY (mX (ah A x)) (ds d rest A))∧(∀ n p,mX (.ptr n p)=some (.ptr n p))∧(∀ x,mX (.ref x)=some (.ref x)) ∧
  (∀ d rest A neg x y,bQ A d (.ptrE neg x y) rest=cY (m0 neg (ji (ah A x)) (ji (ah A y))) (ds d rest A))∧(ji .nilp=some true)∧(∀ n p,ji (.ptr n p)=some false)∧(∀ x,ji (.ref x)=some false) ∧
  (m0 false (some true) (some true)=some (.bool true))∧(m0 false (some false) (some true)=some (.bool false))∧(m0 true (some true) (some true)=some (.bool false))∧(m0 true (some false) (some true)=some (.bool true)) ∧
  (∀ d rest A ty z ok m k,bQ A d (.lk ty z ok m k) rest=cY (rB ty z ok (ah A k) (gA A (ah A m))) (ds d rest A))∧(∀ A n,gA A (.mref n)=yd (A.o n))∧(∀ A ks vs,gA A (.cM ks vs)=some (ks,vs))∧(∀ ks vs,yd (some (.cC ks vs))=some (ks,vs)) ∧
  (∀ ty z ok k ks vs,rB ty z ok k (some (ks,vs))=rC ok (gz ty z k ks vs))∧(∀ v b,rC false (some (v,b))=some v)∧(∀ v b,rC true (some (v,b))=some (.tuple [v,.bool b])) ∧
  (∀ rest A ty m k v,bQ A none (.gB ty m k v) rest=yi A ty (ah A k) (ah A v) rest (ah A m))∧(∀ A ty k v rest n,yi A ty k v rest (.mref n)=yj A n ty k v rest (A.o n))∧(∀ A n ty k v rest ks vs,yj A n ty k v rest (some (.cC ks vs))=yk A n rest (gl ty k v ks vs)) ∧
  (∀ A n rest ks vs,yk A n rest (some (ks,vs))=aA rest (A.aO n (.cC ks vs))) ∧
  (∀ rest A d,bQ A (some d) .jM rest=yh A d rest (A.o d))∧(∀ A d rest,yh A d rest none=aA rest ((A.aO d (.cC [] [])).put d (.mref d))) ∧
  (∀ rest A d e bytes z n,bQ A (some d) (.ka e bytes z n) rest=tV A d bytes z (ah A n) rest (A.o d))∧(∀ A d bytes z n rest,tV A d bytes z n rest none=tW A d bytes z rest n) ∧
  (∀ rest A d x,bQ A (some d) (.kg x) rest=uI A d (ah A x) rest (A.o d))∧(∀ A d x rest,uI A d x rest none=za A d rest x)∧(∀ A d rest ks vs,za A d rest (.cM ks vs)=aA rest ((A.aO d (.it ks vs (List.range ks.length) none)).put d (.dx d))) ∧
  (∀ d rest A x,bQ A d (.ent x) rest=cY (wy A (ah A x)) (ds d rest A))∧(∀ A n,wy A (.dx n)=wz (A.o n))∧(∀ ks vs l cur,wz (some (.it ks vs l cur))=nC ks vs cur) ∧
  (∀ d rest A x,bQ A d (.iH x) rest=yp A d rest (ah A x))∧(∀ A d rest n,yp A d rest (.dx n)=ql A d n rest (A.o n)) :=
 ⟨ajz,fun _ _=>rfl,fun _=>rfl,ajD,rfl,fun _ _=>rfl,fun _=>rfl,rfl,rfl,rfl,rfl,ajt,aiH,fun _ _ _=>rfl,fun _ _=>rfl,fun _ _ _ _ _ _=>rfl,fun _ _=>rfl,fun _ _=>rfl,
  fun rest A ty m k v=>ajx rest A ty m k v,fun _ _ _ _ _ _=>rfl,fun _ _ _ _ _ _ _ _=>rfl,fun _ _ _ _ _=>rfl,fun rest A d=>ajv rest A d,fun _ _ _=>rfl,fun rest A d e bytes z n=>ajw rest A d e bytes z n,fun _ _ _ _ _ _=>rfl,
  fun rest A d x=>ajE rest A d x,fun _ _ _ _=>rfl,fun _ _ _ _ _=>rfl,aji,fun _ _=>rfl,fun _ _ _ _=>rfl,ajB,fun _ _ _ _=>rfl⟩
theorem cA:(∀ n p z lo k,b8 none (.view n p z lo k)=true)∧(∀ n,b8 none (.mref n)=true)∧(∀ n p,b8 none (.ptr n p)=true)∧(∀ x,b8 none (.ref x)=true)∧b8 none .nilp=true∧b8 none .dh=true∧b8 none (.raw (.map none))=true∧(∀ ks vs,b8 none (.cM ks vs)=true)∧(∀ {α:Type} [Enc α] (l:List α),b8 none (enc l)=true) :=
 ⟨fun _ _ _ _ _=>rfl,fun _=>rfl,fun _ _=>rfl,fun _=>rfl,rfl,rfl,rfl,fun _ _=>rfl,fun l=>by simp[lb,nB]⟩
theorem JG{A:af}{d bytes:Nat}{z:I}{rest:List aC}{n:Nat}(h1:n*bytes≤281474976710656)(h2:n≤maxLen):tW A d bytes z rest (.int .i64 n)=aA rest ((A.aO d (.box (.agg (List.replicate n z)))).put d (.view d [] 1 0 n)):=by
 simp only[tW,Int.toNat_natCast];rw[if_pos ⟨Int.natCast_nonneg n,h1,h2⟩]
section
variable {α:Type} [Enc α] [DecidableEq α] {ty:cS}
theorem wJ(aw:∀ x y:α,cv ty (enc x) (enc y)=some (decide (x=y)))(k:α):∀ (ks:List α) (i:Nat),fh ty (enc k) (ks.map enc) i=some ((ks.findIdx? fun x=>decide (k=x)).map (· + i))
 | [],i=>rfl
 |x::ks,i=>by
  simp only[zz9,fh,aw,List.findIdx?_cons];by_cases h:k=x
  ·simp[h]
  ·simp only[h,decide_false,zz6,if_false];rw[wJ aw k ks (i+1)];cases ks.findIdx? fun x=>decide (k=x) with
   |none=>rfl
   |some j=>simp;omega
theorem x8(aw:∀ x y:α,cv ty (enc x) (enc y)=some (decide (x=y)))(z:I)(k:α)(ks:List α)(vs:List I) :
  gz ty z (enc k) (ks.map enc) vs=match ks.findIdx? fun x=>decide (k=x) with
   |some i=>(vs[i]?).map fun v=>(v,true)
   |none=>some (z,false):=by
 simp only[gz,aw,Option.isSome_some,if_true,wJ aw];cases ks.findIdx? fun x=>decide (k=x) <;>rfl
theorem JH(aw:∀ x y:α,cv ty (enc x) (enc y)=some (decide (x=y)))(k:α)(v:I)(hv:v.cn=true)(ks:List α)(vs:List I) :
  gl ty (enc k) v (ks.map enc) vs=match ks.findIdx? fun x=>decide (k=x) with
   |some i=>some (ks.map enc,vs.set i v)
   |none=>some ((ks++[k]).map enc,vs++[v]):=by
 simp only[gl,aw,Option.isSome_some,hv,Jg (ec k),and_self,if_true,wJ aw];cases ks.findIdx? fun x=>decide (k=x) with
 |none=>simp
 |some i=>rfl
omit [Enc α] in
theorem DN{k:α}{ks:List α} : (ks.findIdx? fun x=>decide (k=x)).isSome=decide (k∈ks):=by
 induction ks with
 |nil=>rfl
 |cons x ks ih =>
  simp only[List.findIdx?_cons,zx8];by_cases h:k=x
  ·simp[h]
  ·simp only[h,decide_false,zz6,if_false,Option.isSome_map,ih,false_or]
theorem x9(aw:∀ x y:α,cv ty (enc x) (enc y)=some (decide (x=y)))(k:α)(ks:List α):gz ty (.bool false) (enc k) (ks.map enc) (List.replicate ks.length (.bool true))=some (.bool (decide (k∈ks)),decide (k∈ks)):=by
 rw[x8 aw,←DN];cases h:ks.findIdx? fun x=>decide (k=x) with
 |none=>rfl
 |some i =>
  have:=(List.findIdx?_eq_some_iff_getElem.1 h).1;simp[this]
def lJ{α:Type}[DecidableEq α](ks:List α)(k:α):List α:=if k∈ks then ks else ks++[k]
omit [Enc α] in
theorem aiL{ks:List α}{k x:α} : x∈lJ ks k↔x=k∨x∈ks:=by
 unfold lJ;split
 ·rename_i h;exact ⟨.inr,fun h2=>h2.elim (fun e=>e▸h) id⟩
 ·simp[or_comm]
theorem JI(aw:∀ x y:α,cv ty (enc x) (enc y)=some (decide (x=y)))(k:α)(ks:List α):gl ty (enc k) (.bool true) (ks.map enc) (List.replicate ks.length (.bool true))=some ((lJ ks k).map enc,List.replicate (lJ ks k).length (.bool true)):=by
 rw[JH aw k _ rfl];have hm:=DN (k:=k) (ks:=ks);cases h:ks.findIdx? fun x=>decide (k=x) with
 |none =>
  rw[h] at hm;have:k∉ks:=by simpa using hm.symm
  simp only[lJ,if_neg this]
  congr 2
  rw[zz7,List.length_singleton,List.replicate_succ']
 |some i =>
  rw[h] at hm;have:k∈ks:=by simpa using hm.symm
  simp only[lJ,if_pos this]
  congr 2
  have:=(List.findIdx?_eq_some_iff_getElem.1 h).1;exact List.ext_getElem (by simp) fun j h1 h2=>by
   simp only[List.getElem_set,List.getElem_replicate];split <;>rfl
end
section
variable {α:Type} [Enc α]
theorem AB{xs:List α}{i:Nat}(d:α)(h:i<xs.length):jE i [] (some (xs.map enc))=some (enc (xs.getD i d)):=by
 simp[jE,oy,h,I.at,zz2]
theorem M8{A:af}{n i:Nat}{xs:List α}(v u:α){rest:List aC}(hA:Enc.fP α=false)(h:i<xs.length):dj A none n [i] (.agg (xs.map enc)) (enc v) rest (some (enc u))=aA rest (A.aO n (.box (.agg ((xs.set i v).map enc)))):=by
 rw[ee (dU v) (by rw[lb,hA];rfl) ((eQ v).trans (eQ u).symm)];have h2:(xs.map (enc (α:=α)))[i]?=some (enc (xs[i])):=by simp[h]
 simp only[I.dM,h2,List.map_set]
end
theorem M9{A:af}{n i:Nat}{xs:List Bool}(h:i<xs.length)(v u:Bool)(rest:List aC):dj A none n [i] (.agg (xs.map enc)) (.bool v) rest (some (.bool u))=aA rest (A.aO n (.box (.agg ((xs.set i v).map enc)))):=M8 v u rfl h
theorem og{A:af}{n i:Nat}{xs:List Int}(h:i<xs.length)(v u:Int)(rest:List aC):dj A none n [i] (.agg (xs.map enc)) (.int .i64 v) rest (some (.int .i64 u))=aA rest (A.aO n (.box (.agg ((xs.set i v).map enc)))):=M8 v u rfl h
theorem sH{xs:List Bool}{i:Nat}(h:i<xs.length):jE i [] (some (xs.map enc))=some (.bool (xs.getD i false)):=AB false h
theorem gT{xs:List Int}{i:Nat}(h:i<xs.length):jE i [] (some (xs.map enc))=some (.int .i64 (xs.getD i 0)):=AB 0 h
theorem oO{m sz lo l i:Nat}{fs:List I}(h:i<l):jK m [] sz lo l sz (i:Int) (some fs)=some (.ptr m [lo+i]):=by rw[x2 h];rfl
theorem X4{α:Type}[Enc α]{A:af}{m n sz k:Nat}{xs:List α}(ho:A.o n=some (.box (.agg (xs.map enc))))(hs:Enc.sz α=sz)(hk:k=xs.length):df A (m+1) (.view n [] sz 0 k)=some (enc xs):=by
 subst hk hs;have h1:cD A (.ptr n [])=some (.agg (xs.map enc)):=by simp only[cD,ho];rfl
 simp only[df,I.bj,zz6,if_false,h1];have h2:((xs.map (enc (α:=α))).drop 0).take xs.length=xs.map enc:=by rw[List.drop_zero,zw8 (by simp)]
 rw[h2,if_pos (iW xs),gi]
theorem kW:(∀ {α:Type} [Enc α] (x:α),(enc x).bj=true)∧(∀ n p z lo k,(I.view n p z lo k).bj=false)∧(∀ n,(I.mref n).bj=false)∧(∀ n p,(I.ptr n p).bj=false)∧(∀ n k,(I.own n k).bj=false) :=
 ⟨@ec,fun _ _ _ _ _=>rfl,fun _=>rfl,fun _ _=>rfl,fun _ _=>rfl⟩
end Go.Abs
namespace Go.Abs
open Go Go.RowKit
open Enc (enc)
theorem aF.Pr{A:af}{d n T z:Nat}(ae:A.t d=.nils z)(hn:A.o n=none)(hlt:n<1000000):aF A ((A.aO n (.c5 T [])).put d (.own n 0)):=by
 rintro c a w ⟨D,E,h⟩;have aw:E n=none:=by have:=h.bT n;rw[hn] at this;exact this
 have hl:dS w D E w D (fun m=>if m=n then some (.rw none 0) else E m):=by
  have ev:∀ {m:Nat} {e:bS},E m=some e→(if m=n then some (.rw none 0) else E m)=some e:=fun {m e} he=>by
   have:m≠n:=fun e=>by rw[e,aw] at he;cases he
   rw[if_neg this];exact he
  refine ⟨fun _ _ h=>h,fun _ _ _ _ h=>h,fun m b aS he=>ev he,fun m aE l he =>?_,fun m b he=>ev he,fun m b he=>ev he,fun _ _ _ _ h=>h⟩
  ·have:m≠n:=fun e=>by rw[e,aw] at he;cases he
   exact ⟨aE,l,by simp only[if_neg this];exact he,zz8 _,fun _=>rfl⟩
 refine ⟨D,fun m=>if m=n then some (.rw none 0) else E m,h.sz,h.eT,fun t =>?_,h.dQ,h.da,h.dm,fun m =>?_,fun m m' e e' b h1 h2 h3 h4 =>?_,fun m e hm =>?_,h.eZ,h.cN,h.fe,h.fI⟩
 ·simp only[af.put,af.aO];by_cases ht:t=d
  ·subst ht;simp only[if_true];have hv:=h.ef t;rw[ae] at hv;obtain ⟨cs,q1,q2⟩:=hv;simp only[ai] at q2;subst q2;refine ⟨[.slice none 0 0],by simpa[bM,I.isAgg] using q1,?_⟩;simp only[ai,if_true];exact ⟨none,0,rfl,zz8 _,⟨_,_,_,rfl⟩,fun _=>trivial⟩
  ·simp only[if_neg ht];exact aV.bN hl (h.ef t)
 ·simp only[af.put,af.aO];by_cases hm:m=n
  ·subst hm;simp only[if_true,di];exact ⟨none,by simp,by simp,trivial⟩
  ·simp only[if_neg hm];exact (h.bT m).bN hl (by simp only[if_neg hm]) fun _ _ _ _=>⟨rfl,fun _ ho=>ho⟩
 ·by_cases hm:m=n <;>by_cases hm':m'=n
  ·rw[hm,hm']
  ·simp only[if_pos hm,t7] at h1;subst h1;simp[bS.aE] at h3
  ·simp only[if_pos hm',t7] at h2;subst h2;simp[bS.aE] at h4
  ·simp only[if_neg hm] at h1;simp only[if_neg hm'] at h2;exact h.c4 m m' e e' b h1 h2 h3 h4
 ·have hmn:m≠n:=fun e=>by rw[e,h.kB (.inr hlt)] at hm;cases hm
  simp only[if_neg hmn];exact h.dV m e hm
theorem aF.Am{ts:List (Nat×I)}{os:List (Nat×aj)}(d n T z:Nat)(ae:bO ts d=.nils z)(hn:ak os n=none){B:af}(h:aF (au ((d,.own n 0)::ts) ((n,.c5 T [])::os)) B)(hlt:n<1000000:=by decide):aF (au ts os) B :=
 ((aF.Pr (A:=au ts os) (T:=T) ae hn hlt).trans (by rw[mb,tR];exact aF.refl _)).trans h
theorem aF.Ps{A:af}{m n T z:Nat}{p:List Nat}{b:I}(hm:A.o m=some (.box b))(hp:b.at p=some (.nils z))(hn:A.o n=none)(hlt:n<1000000):aF A ((A.aO n (.c5 T [])).aO m (.box (b.dM p (.own n 0)))):=by
 rintro c a w ⟨D,E,h⟩;have aw:E n=none:=by have:=h.bT n;rw[hn] at this;exact this
 have hmn:m≠n:=fun e=>by rw[e,hn] at hm;cases hm
 have hl:dS w D E w D (fun m=>if m=n then some (.rw none 0) else E m):=by
  have ev:∀ {m:Nat} {e:bS},E m=some e→(if m=n then some (.rw none 0) else E m)=some e:=fun {m e} he=>by
   have:m≠n:=fun e=>by rw[e,aw] at he;cases he
   rw[if_neg this];exact he
  refine ⟨fun _ _ h=>h,fun _ _ _ _ h=>h,fun m b aS he=>ev he,fun m aE l he =>?_,fun m b he=>ev he,fun m b he=>ev he,fun _ _ _ _ h=>h⟩
  ·have:m≠n:=fun e=>by rw[e,aw] at he;cases he
   exact ⟨aE,l,by simp only[if_neg this];exact he,zz8 _,fun _=>rfl⟩
 refine ⟨D,fun m=>if m=n then some (.rw none 0) else E m,h.sz,h.eT,fun t=>aV.bN hl (h.ef t),h.dQ,h.da,h.dm,fun k =>?_,fun m m' e e' b h1 h2 h3 h4 =>?_,fun m e hm =>?_,h.eZ,h.cN,h.fe,h.fI⟩
 ·simp only[af.aO];by_cases hk:k=m
  ·subst hk;have ho:=h.bT k;rw[hm] at ho;obtain ⟨b',cs,T',h1,h2,h3,h4,h5⟩:=ho;obtain ⟨q1,q2⟩:=yY (y:=.own n 0) (ai.bN hl _ _ h4) hp (fun bC ae=>by
    simp only[ai] at ae;subst ae;simp only[ai,if_true];exact ⟨none,0,rfl,zz8 _,⟨_,_,_,rfl⟩,fun _=>trivial⟩) rfl
   simp only[if_true,di];exact ⟨b',cs,T',by rw[q2];simp only[if_neg hmn];exact h1,h2,h3,q1,h5⟩
  ·simp only[if_neg hk];by_cases hkn:k=n
   ·subst hkn;simp only[if_true,di];exact ⟨none,by simp,by simp,trivial⟩
   ·simp only[if_neg hkn];exact (h.bT k).bN hl (by simp only[if_neg hkn]) fun _ _ _ _=>⟨rfl,fun _ ho=>ho⟩
 ·by_cases hm:m=n <;>by_cases hm':m'=n
  ·rw[hm,hm']
  ·simp only[if_pos hm,t7] at h1;subst h1;simp[bS.aE] at h3
  ·simp only[if_pos hm',t7] at h2;subst h2;simp[bS.aE] at h4
  ·simp only[if_neg hm] at h1;simp only[if_neg hm'] at h2;exact h.c4 m m' e e' b h1 h2 h3 h4
 ·have hmn:m≠n:=fun e=>by rw[e,h.kB (.inr hlt)] at hm;cases hm
  simp only[if_neg hmn];exact h.dV m e hm
theorem aF.Pt{ts:List (Nat×I)}{os:List (Nat×aj)}(m n T z:Nat)(p:List Nat)(b:I)(hm:ak os m=some (.box b))(hp:b.at p=some (.nils z))(hn:ak os n=none){B:af}(h:aF (au ts ((m,.box (b.dM p (.own n 0)))::(n,.c5 T [])::os)) B)(hlt:n<1000000:=by decide):aF (au ts os) B :=
 ((aF.Ps (A:=au ts os) (T:=T) hm hp hn hlt).trans (by rw[mb,mb];exact aF.refl _)).trans h
theorem vx{A:af}{d:Option Nat}{e bytes n l:Nat}{xs:List Int}{y:Int}{rest:List aC}(hl:l=xs.length)(h1:xs.length+1≤maxLen)(h2:(xs.length+1)*bytes≤140737488355328) :
  pF A d e 1 bytes (.int .i64 0) n l e xs rest (enc [y])=aA rest ((A.aO n (.c5 e (xs++[y]))).aP d (.own n (xs.length+1))):=by
 show pF A d e 1 bytes (.int .i64 0) n l e xs rest (.slice 1 [.int .i64 y])=_
 simp only[pF];rw[if_pos ⟨hl,rfl,rfl,rfl,rfl,by simp,h1,h2⟩];rfl
def fL(n k:Nat):I→I
 | .own n' k'=>if n'=n∧k'=k then .view n [] 1 0 k else .own n' k'
 |v=>v
def fK(n:Nat):I→I
 | .own n' k'=>if n'=n∧k'=0 then .nils 1 else .own n' k'
 |v=>v
def iQ(f:I→I):aj→aj
 | .box v=>.box (f v)
 |y=>y
def nV(n k:Nat)(v:I):Prop:=v=.own n k∨v.only (fun j=>j != n)=true
def ajZ(n k:Nat)(y:aj):Prop:=y=.box (.own n k)∨y.only (fun j=>j != n)=true
theorem r6{n k:Nat}{v:I}(h:v.only (fun j=>j != n)=true):fL n k v=v:=by
 cases v <;>try rfl
 rename_i n' k';simp only[I.only,bne_iff_ne,ne_eq] at h;simp only[fL,h,false_and,if_false]
theorem zE{n:Nat}{v:I}(h:v.only (fun j=>j != n)=true):fK n v=v:=by
 cases v <;>try rfl
 rename_i n' k';simp only[I.only,bne_iff_ne,ne_eq] at h;simp only[fK,h,false_and,if_false]
theorem qd(f:I→I)(hf:f .de=.de)(ts:List (Nat×I))(t:Nat):bO (ts.map fun q=>(q.1,f q.2)) t=f (bO ts t):=by
 induction ts with
 |nil=>exact hf.symm
 |cons q ts ih =>
  obtain ⟨k,v⟩:=q;simp only[zz9,bO];split
  ·rfl
  ·exact ih
theorem tK(f:aj→aj)(os:List (Nat×aj))(t:Nat):ak (os.map fun q=>(q.1,f q.2)) t=(ak os t).map f:=by
 induction os with
 |nil=>rfl
 |cons q os ih =>
  obtain ⟨k,v⟩:=q;simp only[zz9,ak];split
  ·rfl
  ·exact ih
theorem di.dF{M:Nat→Prop}{w:World}{D:aT}{E E':aW}{p:Nat→Bool}(hp:∀ n,p n=true→E' n=E n){m:Nat}(aw:E' m=E m){y:aj}(hon:y.only p=true)(ho:di M w D E m (some y)):di M w D E' m (some y):=by
 cases y with
 |box x =>
  obtain ⟨b,cs,T,k1,k2,k3,k4,k5⟩:=ho;exact ⟨b,cs,T,aw.trans k1,k2,k3,ai.dF hp _ _ (by simpa[aj.only] using hon) k4,k5⟩
 |bR T sz es =>
  obtain ⟨aE,k1,k2,k3⟩:=ho;refine ⟨aE,aw.trans k1,k2,?_⟩;cases aE with
  |none=>exact k3
  |some bc =>
   obtain ⟨b,cap⟩:=bc;obtain ⟨cs,pre,rest,q1,q2,q3,q4,q5⟩:=k3;exact ⟨cs,pre,rest,q1,q2,q3,aL.dF hp _ _ (by simpa[aj.only] using hon) q4,q5⟩
 |c5 T xs =>
  obtain ⟨aE,k1,k2,k3⟩:=ho;exact ⟨aE,aw.trans k1,k2,k3⟩
 |dO x =>
  obtain ⟨b,k1,k2⟩:=ho;exact ⟨b,aw.trans k1,k2⟩
 |cC ks vs =>
  obtain ⟨b,es,ck,k1,k2,k3,k4,k5,k6,k7⟩:=ho;simp only[aj.only,zz3] at hon;exact ⟨b,es,ck,aw.trans k1,k2,k3,k4,aJ.dF hp _ _ hon.1 k5,aJ.dF hp _ _ hon.2 k6,k7⟩
 |it ks vs left cur =>
  obtain ⟨r,b,es,ck,si,se,la,k1,k2,k3,k4,k5,k6,k7⟩:=ho;simp only[aj.only,zz3] at hon;exact ⟨r,b,es,ck,si,se,la,aw.trans k1,k2,k3,k4,aJ.dF hp _ _ hon.1 k5,aJ.dF hp _ _ hon.2 k6,k7⟩
theorem rZ(xs:List Int):(I.agg (xs.map enc)).aS=.ej (List.replicate xs.length .one):=by
 show cW.ej (I.cU _)=_
 congr 1
 induction xs with
 |nil=>rfl
 |cons x xs ih=>simp only[zz9,I.cU,ih,zv9,List.replicate_succ];rfl
theorem rR{w:World}{D:aT}{E:aW} : ∀ {xs:List Int},(∀ x∈xs,IntKind.i64.min≤x∧x≤IntKind.i64.max)→aL w D E (xs.map enc) (xs.map (Value.int .i64))
 | [],_=>rfl
 |x::xs,h=>⟨[.int .i64 x],xs.map (Value.int .i64),rfl,⟨rfl,h x (by simp)⟩,rR fun y hy=>h y (by simp[hy])⟩
theorem aF.Ns{ts:List (Nat×I)}{os:List (Nat×aj)}{n T:Nat}{B:af}(hn:ak os n=some (.c5 T []))
  (h:aF (au (ts.map fun q=>(q.1,fK n q.2)) (os.map fun q=>(q.1,iQ (fK n) q.2))) B):aF (au ts os) B:=by
 refine aF.trans ?_ h;rintro c a w ⟨D,E,hs⟩;obtain ⟨aE,aw,-,hblk⟩:=hs.r7 (n:=n) (T:=T) (xs:=[]) hn;have hnone:aE=none:=by
  cases aE with
  |none=>rfl
  |some bc=>obtain ⟨b,cap⟩:=bc;obtain ⟨_,_,_,_,_,h,_⟩:=hblk;exact absurd rfl h
 subst hnone;have conv:∀ (v:I) (cs:List Value),ai w D E v cs→ai w D E (fK n v) cs:=fun v cs hr=>by
  cases v <;>try exact hr
  rename_i n' k';simp only[fK];split
  ·rename_i hh;obtain ⟨rfl,rfl⟩:=hh;obtain ⟨blk',l,q3,q4,q5,q6⟩:=hr;rw[aw] at q3;simp only[t7,bS.rw.injEq,List.length_nil] at q3;obtain ⟨rfl,rfl⟩:=q3;exact q6 rfl
  ·exact hr
 refine ⟨D,E,hs.sz,hs.eT,fun t =>?_,hs.dQ,hs.da,hs.dm,fun m =>?_,hs.c4,hs.dV,hs.eZ,hs.cN,hs.fe,hs.fI⟩
 ·show aV w D E (bO _ t) _
  rw[qd _ rfl];have:=hs.ef t;simp only[au] at this;revert this;generalize bO ts t=v;intro hv;cases v <;>try exact hv
  rename_i n' k';obtain ⟨cs,q1,q2⟩:=hv;have:=conv _ _ q2
  revert this;simp only[fK];split
  ·intro this;exact ⟨cs,q1,this⟩
  ·intro this;exact ⟨cs,q1,this⟩
 ·show di _ w D E m (ak _ m)
  rw[tK];have:=hs.bT m;simp only[au] at this;revert this;cases ak os m with
  |none=>exact id
  |some y =>
   cases y <;>try exact id
   rename_i x;rintro ⟨b,cs,T,k1,k2,k3,k4,k5⟩;refine ⟨b,cs,T,?_,k2,k3,conv _ _ k4,k5⟩;rw[k1];have:(fK n x).aS=x.aS:=by
    cases x <;>try rfl
    simp only[fK];split <;>rfl
   rw[this]
theorem J.Nr{c:cO}{x:aR}{Q:Exit→af→Prop}{ts:List (Nat×I)}{os:List (Nat×aj)}{n T:Nat}{xs:List Int}(hn:ak os n=some (.c5 T xs))(hne:xs≠[])(hlt:n<1000000)
  (ht:∀ t,nV n xs.length (bO ts t)) (ho:∀ m y,ak os m=some y→m≠n→ajZ n xs.length y)
  (h:∀ q:Nat,J c x Q (au (ts.map fun p=>(p.1,fL n xs.length p.2)) ((n,.box (.agg ((xs++List.replicate q 0).map enc)))::os.map fun p=>(p.1,iQ (fL n xs.length) p.2)))):J c x Q (au ts os):=by
 rintro code hc a w ⟨D,E,hs⟩;obtain ⟨aE,aw,hr,hblk⟩:=hs.r7 (n:=n) hn;cases aE with
 |none=>exact absurd hblk hne
 |some bc =>
 obtain ⟨b,cap⟩:=bc;obtain ⟨cs,q,hM,hb,hcs,-,hcap,hmax,hD⟩:=hblk;have hp:∀ j,(fun j=>j != n) j=true→(fun j=>if j=n then some (bS.aD b (.ej (List.replicate (xs.length+q) .one))) else E j) j=E j:=fun j hj=>by
  have:j≠n:=by simpa using hj
  simp only[if_neg this]
 have conv:∀ cs0,ai w D E (.own n xs.length) cs0→ai w D (fun j=>if j=n then some (bS.aD b (.ej (List.replicate (xs.length+q) .one))) else E j) (.view n [] 1 0 xs.length) cs0:=fun cs0 hr=>by
  obtain ⟨blk',l,q3,q4,q5,q6⟩:=hr;rw[aw] at q3;simp only[t7,bS.rw.injEq] at q3;obtain ⟨rfl,rfl⟩:=q3;have:=q6 rfl;refine ⟨b,_,0,List.replicate (xs.length+q) .one,if_pos rfl,rfl,rfl,?_,by rw[List.length_replicate];omega,by rw[List.length_replicate];omega,fun s hs =>?_⟩
  ·rw[this,List.length_replicate];simp only[Nat.zero_mul,Nat.add_zero,Nat.sub_zero,hcap]
  ·rw[List.eq_of_mem_replicate hs];rfl
 refine h q code hc a w ⟨D,fun j=>if j=n then some (.aD b (.ej (List.replicate (xs.length+q) .one))) else E j,hs.sz,hs.eT,fun t =>?_,hs.dQ,hs.da,hs.dm,fun m =>?_,fun m m' e e' b1 h1 h2 h3 h4 =>?_,fun m e hm =>?_,hs.eZ,hs.cN,hs.fe,hs.fI⟩
 ·show aV w D _ (bO _ t) _
  rw[qd _ rfl];have hv:=hs.ef t;simp only[au] at hv;rcases ht t with h1 | h1
  ·rw[h1] at hv ⊢;simp only[fL,and_self,if_true];obtain ⟨cs0,q1,q2⟩:=hv;exact ⟨cs0,q1,conv _ q2⟩
  ·rw[r6 h1];exact aV.dF hp h1 hv
 ·show di _ w D _ m (ak _ m)
  simp only[ak];by_cases hm:m=n
  ·subst hm;simp only[if_true];refine ⟨b,cs,T,?_,hM,hb,?_,hD⟩
   ·simp only[if_true];rw[rZ,zz7,List.length_replicate]
   ·show aL w D _ _ _
    rw[hcs];refine rR fun y hy =>?_;rcases zy6.1 hy with hy | hy
    ·exact hr y hy
    ·rw[List.eq_of_mem_replicate hy];decide
  ·simp only[if_neg hm];rw[tK];have hob:=hs.bT m;simp only[au] at hob;cases hy:ak os m with
   |none=>rw[hy] at hob;simp only[di,Option.map_none] at hob ⊢;rw[if_neg hm];exact hob
   |some y =>
    rw[hy] at hob;rcases ho m y hy hm with rfl | h1
    ·obtain ⟨b1,cs1,T1,k1,k2,k3,k4,k5⟩:=hob;refine ⟨b1,cs1,T1,?_,k2,k3,?_,k5⟩
     ·simp only[if_neg hm];rw[k1];simp only[fL,and_self,if_true];rfl
     ·simp only[fL,and_self,if_true];exact conv _ k4
    ·have e:iQ (fL n xs.length) y=y:=by
      cases y <;>try rfl
      simp only[aj.only] at h1;simp only[iQ,r6 h1]
     simp only[zy5,e];exact hob.dF hp (if_neg hm) h1
 ·have cut:∀ m e,(if m=n then some (bS.aD b (.ej (List.replicate (xs.length+q) .one))) else E m)=some e→∃ e2,E m=some e2∧e2.aE=e.aE:=fun m e he=>by
   by_cases hm:m=n
   ·subst hm;rw[if_pos rfl] at he;cases he;exact ⟨_,aw,rfl⟩
   ·rw[if_neg hm] at he;exact ⟨e,he,rfl⟩
  obtain ⟨e2,k1,k2⟩:=cut m e h1;obtain ⟨e3,k3,k4⟩:=cut m' e' h2;exact hs.c4 m m' e2 e3 b1 k1 k3 (k2.trans h3) (k4.trans h4)
 ·have hmn:m≠n:=fun e=>by rw[e,hs.kB (.inr hlt)] at hm;cases hm
  simp only[if_neg hmn];exact hs.dV m e hm
end Go.Abs
namespace Go.Abs
open Go Go.RowKit
def Jj(n:Nat)(cl:List Nat)(i:Nat):Bool:=(List.range n).all fun j=>j==i||(cl.getD i 0).testBit j
def um(hs:List FuncId)(L:eB)(on:List (List Nat))(gs:List aC)(cl:List Nat)(σ:List Nat):Bool :=
 (Nat.beq σ.length gs.length&&(rI σ&&(σ.all (fun i=>decide (i<gs.length))&&((List.range gs.length).all (fun i=>σ.contains i)&&(List.range gs.length).all fun i=>oY (gs.getD i default).op&&(im L (gs.getD i default)||(Jj gs.length cl i&&σ.getLast?==some i))))))&&(qO hs L gs cl [] σ&&(List.range gs.length).all fun i=>(on.getD i []).all (fun k=>decide (k<i))&&Nat.beq (cl.getD i 0) (oi cl (on.getD i [])))
structure Ah (hs:List FuncId) (L:eB) (l:List Oper) (gs:List aC) (σ:List Nat):Prop where
 ub:σ.Nodup
 lt:∀ i∈σ,i<gs.length
 all:∀ i,i<gs.length→i∈σ
 ok:∀ i,i<gs.length→oY (gs.getD i default).op=true
 tE:∀ i o,l[i]?=some o→im L (gs.getD i default)=true∨(σ.getLast?=some i∧∀ (S:Nat→Prop),(∀ i o,l[i]?=some o→S i→∀ k∈c9 o,S k)→(∀ k∈c9 o,S k)→∀ j,j<gs.length→j≠i→S j)
 len:σ.length=gs.length
 nt:∀ i o,l[i]?=some o→∀ k∈c9 o,k<i
 rq:∀ (S:Nat→Prop),(∀ i o,l[i]?=some o→S i→∀ k∈c9 o,S k)→∀ s1 i s2 o,σ=s1++i::s2→l[i]?=some o→(∀ k∈c9 o,S k)→∀ j∈s1,¬ S j→nN hs L (gs.getD j default) (gs.getD i default)=true
theorem akp{hs:List FuncId}{L:eB}{l:List Oper}{gs:List aC}{cl σ:List Nat}(hlen:gs.length=l.length)(h:um hs L (l.map c9) gs cl σ=true):Ah hs L l gs σ:=by
 simp only[um,zz3,zx9,decide_eq_true_eq,zw7,List.contains_eq_mem] at h;obtain ⟨⟨h1,h2,h3,h4,h5⟩,h6,h7⟩:=h;have dp:∀ i o,l[i]?=some o→(∀ k∈c9 o,k<i)∧(∀ j,(cl.getD i 0).testBit j=true→j∈c9 o∨∃ k∈c9 o,(cl.getD k 0).testBit j=true):=by
  intro i o ho;have hi:i<l.length:=(zy4.1 ho).1;have h8:=h7 i (by omega);have hon:(l.map c9).getD i []=c9 o:=by simp[zz2,ho]
  rw[hon] at h8;have hb:=Nat.eq_of_beq_eq_true h8.2;exact ⟨h8.1,fun j hj=>uU (by rw[←hb];exact hj)⟩
 have keyS:∀ (S:Nat→Prop),(∀ i o,l[i]?=some o→S i→∀ k∈c9 o,S k)→∀ n i o,i≤n→l[i]?=some o→(∀ k∈c9 o,S k)→∀ j,(cl.getD i 0).testBit j=true→S j:=by
  intro S hS n
  induction n with
  |zero =>
   intro i o hi ho hon j hj;obtain ⟨h8,h9⟩:=dp i o ho;rcases h9 j hj with h | ⟨k,hk,_⟩
   ·exact hon j h
   ·have:=h8 k hk;omega
  |succ n ih =>
   intro i o hi ho hon j hj;obtain ⟨h8,h9⟩:=dp i o ho;rcases h9 j hj with h | ⟨k,hk,hjk⟩
   ·exact hon j h
   ·have hki:=h8 k hk;have hkl:k<l.length:=Nat.lt_trans hki (zy4.1 ho).1;obtain ⟨ok,hok⟩:∃ ok,l[k]?=some ok:=⟨l[k],zy0 hkl⟩
    exact ih k ok (by omega) hok (hS k ok hok (hon k hk)) j hjk
 refine ⟨ym h2,h3,h4,fun i hi=>(h5 i hi).1,fun i o ho =>?_,Nat.eq_of_beq_eq_true h1,fun i o ho=>(dp i o ho).1,?_⟩
 ·have hi:i<gs.length:=by rw[hlen];exact (zy4.1 ho).1
  have h5o:=(h5 i hi).2;rw[Bool.or_eq_true] at h5o;rcases h5o with h | h
  ·exact .inl h
  ·rw[zz3] at h;obtain ⟨h,hla⟩:=h;refine .inr ⟨by simpa using hla,fun S hS hon j hj hji =>?_⟩;simp only[Jj,zx9,zw7,Bool.or_eq_true,beq_iff_eq] at h;rcases h j hj with e | e
   ·exact absurd e hji
   ·exact keyS S hS i i o (zz8 _) ho hon j e
 intro S hS s1 i s2 o e ho hon j hj hnj;have key:=keyS S hS;rcases vt h6 s1 i s2 e j (.inr hj) with h | h
 ·exact absurd (key i i o (zz8 _) ho hon j h) hnj
 ·exact h
section
variable {c:cO}
theorem Px{K:af→Prop}{fs:List FuncId}{L:eB}{bd:Array Oper}{gs:List aC}{σ:List Nat}{Q:Exit→Act→World→Prop}(hQ:∀ B a w,K B→ct c B a w→Q .normal a w)(hgs:gJ c.P c.n bd bd.toList=some gs)(ae:Ah fs L bd.toList gs σ) :
  ∀ (fuel:Nat) (listed:Array Bool) (A:af) (a:Act) (w:World),listed.size=bd.size→(∀ i o,bd.toList[i]?=some o→listed.getD i false=true→∀ k∈c9 o,listed.getD k false=true)→(fb σ listed).length≤fuel →
   (fb σ listed=[]∨eA L A)→cg c.P fs K (aA (jP gs σ listed) A)→ct c A a w→wpAnyIn c.bp 9 c.P .any bd Q fuel listed a w:=by
 obtain ⟨hlen,hat⟩:=ku hgs;have onOf_mem:∀ (o:Oper) (e:Edge),e∈o.after→Region.binds .any e=true→e.on∈c9 o:=fun o e he hb=>by
  simp only[c9,zx2,zw4];exact ⟨e,⟨by simpa using he,hb⟩,rfl⟩
 have of_onOf:∀ (o:Oper) (k:Nat),k∈c9 o→∃ e∈o.after,Region.binds .any e=true∧e.on=k:=fun o k hk=>by
  simp only[c9,zx2,zw4] at hk;obtain ⟨e,⟨h1,h2⟩,h3⟩:=hk;exact ⟨e,by simpa using h1,h2,h3⟩
 have hgl:gs.length=bd.size:=by rw[hlen,zv0]
 have last:∀ (listed:Array Bool) (A:af) (a:Act) (w:World),listed.size=bd.size→Region.ready .any bd listed=[]→cg c.P fs K (aA (jP gs σ listed) A)→ct c A a w→Q .normal a w:=by
  intro listed A a w hsz hr hwp hs;have hnone:fb σ listed=[]:=by
   have all:∀ n,∀ i,i<n→i<bd.size→listed.getD i true=true:=by
    intro n
    induction n with
    |zero=>intro i hi;omega
    |succ n ih =>
     intro i hi his;cases hb:listed.getD i true with
     |true=>rfl
     |false =>
      exfalso
      have ho:bd[i]?=some bd[i]:=Array.getElem?_eq_getElem his;have:i∈Region.ready .any bd listed:=mem_ready.2 ⟨hb,bd[i],ho,fun e he hbd=>by
       have hlt:=ae.nt i bd[i] (by simp) e.on (onOf_mem _ e he hbd);have h1:=ih e.on (by omega) (by omega);have h2:e.on<listed.size:=by omega
       simpa[Array.getD_eq_getD_getElem?,h2] using h1⟩
      rw[hr] at this;cases this
   simp only[fb];refine List.filter_eq_nil_iff.2 fun i hi =>?_;have:=all (i+1) i (by omega) (by rw[←hgl];exact ae.lt i hi);simp only[this,Bool.not_true,zz6,not_false_eq_true]
  simp only[jP,hnone,zx3,aA] at hwp;cases hwp with
  |done hk=>exact hQ A a w hk hs
 intro fuel
 induction fuel with
 |zero =>
  intro listed A a w hsz hcl hcnt hinv hwp hs;have hnone:fb σ listed=[]:=zv4.1 (by omega);have hr:Region.ready .any bd listed=[]:=by
   refine List.eq_nil_iff_forall_not_mem.2 fun i hi =>?_;obtain ⟨h1,o,ho,_⟩:=mem_ready.1 hi;have:i∈fb σ listed:=by
    simp only[fb,zw4,h1,Bool.not_false,and_true];exact ae.all i (by rw[hgl];exact (zx7.1 ho).1)
   rw[hnone] at this;cases this
  exact ⟨hr,last listed A a w hsz hr hwp hs⟩
 |succ fuel ih =>
  intro listed A a w hsz hcl hcnt hinv hwp hs;refine ⟨fun hr=>last listed A a w hsz hr hwp hs,fun i hi =>?_⟩;obtain ⟨hun,o,ho,hall⟩:=mem_ready.1 hi;have hin:i<bd.size:=(zx7.1 ho).1;obtain ⟨s1,s2,hσ,e1,e2⟩:=Mn ae.ub (ae.all i (by omega)) (by omega) hun;have hinv:eA L A:=by
   rcases hinv with h | h
   ·rw[e1] at h;simp at h
   ·exact h
  have hol:bd.toList[i]?=some o:=by simpa using ho
  obtain ⟨g,hgi,hcg⟩:=hat i o hol;have hon:∀ k∈c9 o,listed.getD k false=true:=fun k hk=>by
   obtain ⟨e,h1,h2,h3⟩:=of_onOf o k hk;exact h3▸hall e h1 h2
  have hgd:gs.getD i default=g:=by simp[zz2,hgi]
  have hwp':cg c.P fs K (aA (g::jP gs σ (listed.setIfInBounds i true)) A):=by
   simp only[jP,e1,zx4,zz9,hgd] at hwp;simp only[jP,e2,zx4];refine cg.pK hinv (fun j hj =>?_) hwp;obtain ⟨k,hk,rfl⟩:=zx2.1 hj;obtain ⟨hk1,hk2⟩:=zw4.1 hk;have:=ae.rq (fun k=>listed.getD k false=true) hcl s1 i s2 o hσ hol hon k hk1 (by
    have hks:k<listed.size:=by
     have:=ae.lt k (by rw[hσ];exact List.mem_append_left _ hk1);omega
    simp[Array.getD_eq_getD_getElem?,hks] at hk2 ⊢;exact hk2)
   rw[hgd] at this;have hkl:=ae.lt k (by rw[hσ];exact List.mem_append_left _ hk1);have hks:k<bd.size:=by omega
   refine ⟨this,?_⟩;rcases ae.tE k bd[k] (by simp) with h | h
   ·exact h
   ·exfalso
    have h9:=h.1;rw[hσ,List.getLast?_append] at h9;have hne:(i::s2).getLast?=some k:=by
     cases h10:(i::s2).getLast? with
     |none=>simp at h10
     |some q=>rw[h10] at h9;simpa using h9
    have hk2:k∈i::s2:=List.mem_of_getLast? hne;have hnd:=ae.ub;rw[hσ] at hnd;exact (List.nodup_append.1 hnd).2.2 k hk1 k hk2 rfl
  unfold wpOpIn;rw[ho];have hgm:g∈gs:=List.mem_of_getElem? hgi;have hokg:oY g.op=true:=by
   have:=ae.ok i (by omega)
   rwa [hgd] at this
  have hcl':∀ m om,bd.toList[m]?=some om→(listed.setIfInBounds i true).getD m false=true→∀ k∈c9 om,(listed.setIfInBounds i true).getD k false=true:=by
   intro m om hom hm k hk;by_cases hmi:m=i
   ·subst hmi;rw[hol,t7] at hom;subst hom;exact getD_set_true (hon k hk)
   ·rw[getD_set_ne false (Ne.symm hmi)] at hm;exact getD_set_true (hcl m om hom hm k hk)
  have hfu:(fb σ (listed.setIfInBounds i true)).length≤fuel:=by
   have:(fb σ listed).length=(fb σ (listed.setIfInBounds i true)).length+1:=by
    rw[e1,e2];simp;omega
   omega
  rcases ae.tE i o hol with hlb | ⟨hla,hlb⟩
  ·rw[hgd] at hlb;exact xF hcg hinv ⟨hokg,hlb⟩ hwp' hs fun B a' w' hw hiB hs'=>ih _ B a' w' (by simpa using hsz) hcl' hfu (.inr hiB) hw hs'
  ·have hnil:fb σ (listed.setIfInBounds i true)=[]:=by
    simp only[fb];refine List.filter_eq_nil_iff.2 fun j hj =>?_;have hjl:=ae.lt j hj;by_cases hji:j=i
    ·subst hji;have:j<listed.size:=by omega
     simp[this]
    ·have h5:=hlb (fun k=>listed.getD k false=true) hcl hon j hjl hji;have hjs:j<listed.size:=by omega
     have h6:(listed.setIfInBounds i true).getD j true=listed.getD j true:=getD_set_ne true (Ne.symm hji);rw[h6];simp[Array.getD_eq_getD_getElem?,hjs] at h5 ⊢;exact h5
   have hin0:eA [] A:=fun s ns h=>by cases h
   exact xF (L:=[]) hcg hin0 ⟨hokg,by simp[im,jj];cases g.dst <;>rfl⟩ hwp' hs fun B a' w' hw hiB hs'=>ih _ B a' w' (by simpa using hsz) hcl' hfu (.inl hnil) hw hs'
theorem J.akQ{Q:Exit→af→Prop}{A:af}{on:List (List Nat)}{gs:List aC}(hs:List FuncId)(L:eB)(cl σ:List Nat)(ae:um hs L on gs cl σ=true)(hi:eA L A)(h:∀ K:af→Prop,(∀ B,Q .normal B→K B)→cg c.P hs K (aA (mg σ gs) A)):J c (.bW (some on) gs) Q A:=by
 intro code hc a w hs';cases code <;>simp only[eV] at hc <;>try (first | (cases hc;done) | ((repeat' split at hc) <;>cases hc;done))
 rename_i id bd draw;split at hc
 ·rename_i gs' hgs;split at hc
  case isFalse=>cases hc
  rename_i hok;simp only[t7,aR.bW.injEq] at hc;obtain ⟨he,rfl⟩:=hc;cases draw with
  |false=>cases he
  |true =>
   simp only[cond_true,t7] at he;subst he;simp only[Bool.not_true,Bool.false_or] at hok;have hp:=akp (ku hgs).1 ae;refine wpIn_region_any hok (Px (K:=Q .normal) (fun B a w hk hs=>⟨B,hk,hs⟩) hgs hp bd.size (Array.replicate bd.size false) A a _ (by simp) ?_ ?_ (.inr hi) ?_ ?_)
   ·intro i o _ h
    exfalso
    simp only[Array.getD_eq_getD_getElem?,Array.getElem?_replicate] at h;split at h <;>simp at h
   ·refine zu0 (zv8 _ _) ?_;rw[hp.len,(ku hgs).1,zv0];exact zz8 _
   ·have hall:fb σ (Array.replicate bd.size false)=σ:=by
     simp only[fb];refine List.filter_eq_self.2 fun i hi =>?_;have h1:=hp.lt i hi;rw[(ku hgs).1,zv0] at h1;simp[h1]
    simp only[jP,hall];exact h _ fun _ hb=>hb
   ·obtain ⟨D,E,hs'⟩:=hs';exact ⟨D,E,hs'.grow (w' := { w with drawn:=w.drawn+1 }) ⟨rfl,rfl,rfl,zz8 _,fun _ _=>rfl⟩ (fun _ _ h=>h) (fun _ _ h _=>h) (fun b o h=>hs'.dm b o h)⟩
 ·cases hc
end
end Go.Abs
namespace Go.Abs
open Go Go.RowKit
open Enc (enc)
def x3:Option Nat→Code
 |none=>.ret
 |some id=>.exit id
def Dy:Option Nat→Exit
 |none=>.ret
 |some id=>.exit id
def qJ(o:Obj)(A:af)(os:List (Nat×aj)):Prop:=∀ n x,ak (dK o os) n=some x→A.o n=some x∧x.only (av (dK o os))=true∧x.eR=true
def ak9(o:Obj)(In:List (Nat×aj)→Prop)(Ix:Option Nat→List (Nat×aj)→Prop):Exit→af→Prop
 | .normal,A=>∃ os,qJ o A os∧In os
 | .ret,A=>∃ os,qJ o A os∧Ix none os
 | .exit id,A=>∃ os,qJ o A os∧Ix (some id) os
 |_,_=>False
def O9(P:Program)(nn:Nat)(x y:aR)(ps:List Nat)(tsR:List (Nat×I))(N:Nat)(item:Nat→List I)(al:Nat→List (Nat×aj)→Prop)(Ix:Option Nat→List (Nat×aj)→Prop):Prop :=
 ∀ k osb,k<N→al k osb→∀ (w:World) (D:aT) (E:aW) (l:Nat) (o1 o2:Obj),
  J ⟨P,w,D,nn,dC E,E,iG,some l⟩ x (aG (fun B=>B.o 1999999=some (.dO o1)∧J ⟨P,w,D,nn,dC E,E,iG,some l⟩ y (ak9 o2 (al (k+1)) Ix) (B.aO 1999999 (.dO o2))) (fun _ _=>False)) (au (rQ ps (item k) tsR) (dK o1 osb))
section
variable {c:cO} {Q:Exit→af→Prop}
theorem ahH{o:Obj}{A:af}{os:List (Nat×aj)}(h:qJ o A os)(o':Obj):∀ n x,ak (dK o' os) n=some x→(A.aO 1999999 (.dO o')).o n=some x∧x.only (av (dK o' os))=true∧x.eR=true:=fun n x hx=>by
 have e:av (dK o' os)=av (dK o os):=by funext m;rw[l7,l7]
 rw[e];by_cases hn:n=1999999
 ·subst hn;rw[qc,if_pos rfl,t7] at hx;subst hx;exact ⟨by simp[af.aO],rfl,rfl⟩
 ·rw[qc,if_neg hn] at hx;obtain ⟨h1,h2⟩:=h n x (by rw[qc,if_neg hn];exact hx);exact ⟨by simp only[af.aO,if_neg hn];exact h1,h2⟩
theorem J.ly{f:aM}{ps:List Nat}{x y:aR}{ts tsR:List (Nat×I)}{os0 osb0:List (Nat×aj)}{ρ:List (Nat×Nat)}{g:FuncId}{caps:List I}{N:Nat}{item:Nat→List I}
  (al:Nat→List (Nat×aj)→Prop) (Ix:Option Nat→List (Nat×aj)→Prop) (hr:c.m8=none) (hn6:c.n≤1000000)
  (hf:ah (au ts os0) f=.func g caps) (hcl:I.bU caps=true) (hcb:gU c.P g=true) (hit:vn c.P g caps N item) (hlen:∀ k,(item k).length=ps.length)
  (hfree:ak os0 999999=none) (h19:av osb0 1999999=false) (hρ:bD ρ 1999999=999999)
  (hgv:∀ o,gh ρ (dK o osb0) ((999999,.dO o)::os0)) (hts:nh ρ (av osb0) ts tsR)
  (hI:∀ k os,al k os→fE osb0 os) (hIx:∀ e os,Ix e os→fE osb0 os) (h0:al 0 osb0)
  (hround:O9 c.P c.n x y ps tsR N item al Ix)
  (hdone:∀ os,al N os→Q .normal (au ts (dL ρ os++os0))) (hexit:∀ e os,Ix e os→Q (Dy e) (au ts (dL ρ os++os0))) :
  J c (.ly f ps x y) Q (au ts os0):=by
 intro code hc a w hs;cases code <;>simp only[eV] at hc <;>try (first | (cases hc;done) | ((repeat' split at hc) <;>cases hc;done))
 rename_i cf cps cx cy;split at hc
 case h_2=>cases hc
 rename_i f' x' y' hcf hcx hcy;split at hc
 case isFalse=>cases hc
 rename_i hpn;simp only[t7,aR.ly.injEq] at hc;obtain ⟨rfl,rfl,rfl,rfl⟩:=hc;obtain ⟨D,E,hs⟩:=hs;have hF:c.bp=Fence.wide:=by unfold cO.bp;rw[hr]
 have hE0:c.dD 999999=none:=hs.kB (.inr (by decide));have hval:∃ vs:List Value,a.eval cf=.func (.func g) #[] vs.toArray∧aJ w D E caps vs:=by
  have hv:=ca hs hcf;rw[hf] at hv;obtain ⟨cs,q1,q2⟩:=hv;simp only[ai] at q2;obtain ⟨vs,q3,q4⟩:=q2;exact ⟨vs,by simpa[bM,I.isAgg,q3] using q1.symm,q4⟩
 obtain ⟨vs,hval,hvs⟩:=hval;rw[hF];refine wpIn_rangeFunc fun fn hfn =>?_;obtain ⟨rec,hrec⟩:∃ rec:LoopState→Option Code→Loop,rec=fun br pe => { state:=br,pending:=pe,fn,tmps:=a.tmps,params:=cps,assign:=cx,body:=cy,defers:=w.heap.size } :=⟨_,rfl⟩
 obtain ⟨E1,hs1,hE1,hup⟩:=hs.enter hfree hE0 (o:=.loop (rec .ready none)) rfl;obtain ⟨W1,hW1⟩:∃ W1,(w.alloc (.deferred (some []))).alloc (.loop (rec .ready none))=W1:=⟨_,rfl⟩
 rw[hW1] at hs1 hup;obtain ⟨l,hl⟩:∃ l,l=w.heap.size+1:=⟨_,rfl⟩
 rw[←hl] at hE1;obtain ⟨yv,hyv⟩:∃ yv:Value,yv=.func (.yield l) #[] #[]:=⟨_,rfl⟩
 obtain ⟨a1,ha1⟩:∃ a1:Act,a1 = { a with defers := { target:=.collected w.heap.size,args := #[] } :: a.defers } :=⟨_,rfl⟩
 rw[←ha1] at hs1;refine ⟨l,[{ target:=.collected w.heap.size,args := #[] }],W1,{ target:=.fn (.func g) vs.toArray,args := #[yv] },W1,g,#[yv]++vs.toArray,W1,?_,?_,?_,?_,fun _=>by decide,?_⟩
 ·rw[←hW1,hrec,hl];exact run_enterLoop_outer _ _ _ _ _
 ·simp only[resolve,hval,hyv];simp[go_sem]
 ·intro f' _;trivial
 ·simp only[invoke,ze hcb]
 ·-- the iterator's own bargain
  have hG0:=hI 0 osb0 h0;obtain ⟨I',hI'⟩:∃ I':Nat→List (Nat×aj)→Prop,I'=fun k os=>∃ osb,os=dK (.loop (rec .ready none)) osb∧al k osb:=⟨_,rfl⟩
  obtain ⟨Ix',hIx'⟩:∃ Ix':List (Nat×aj)→Prop,Ix'=fun os=>∃ e osb,os=dK (.loop (rec .done (some (x3 e)))) osb∧Ix e osb:=⟨_,rfl⟩
  obtain ⟨os1,hos1⟩:∃ os1,os1=dK (.loop (rec .ready none)) osb0:=⟨_,rfl⟩
  obtain ⟨Y,hY⟩:∃ Y:Value→List I→List (Nat×aj)→cV→Prop,Y=fun v args os post=>v=yv∧∃ k,args=item k∧k<N∧I' k os∧∀ r os2,(r=.bool true∧I' (k+1) os2)∨(r=.bool false∧Ix' os2)→post r os2:=⟨_,rfl⟩
  have kC:∀ k os',I' k os'→fE os1 os':=fun k os' h=>by
   rw[hI'] at h;obtain ⟨osb,rfl,h⟩:=h;rw[hos1];exact (hI k osb h).dK _ _
  have goodx:∀ os',Ix' os'→fE os1 os':=fun os' h=>by
   rw[hIx'] at h;obtain ⟨e,osb,rfl,h⟩:=h;rw[hos1];exact (hIx e osb h).dK _ _
  have hctr:=hit Y yv I' Ix' os1 (by rw[hyv];rfl) (fun k os' post hk h1 h2=>by rw[hY];exact ⟨rfl,k,rfl,hk,h1,h2⟩) kC goodx (by rw[hI'];exact ⟨osb0,hos1,h0⟩);have hgv1:gh ρ os1 ((999999,.dO (.loop (rec .ready none)))::os0):=by rw[hos1];exact hgv _
  obtain ⟨A0,hA0⟩:∃ A0:af,A0=au ts ((999999,.dO (.loop (rec .ready none)))::os0):=⟨_,rfl⟩
  have hand:qL (Calls c.P g) (fun w D E=>∀ n,pB ⟨c.P,w,D,n,dC E,E,Y,none⟩) (.raw yv::caps) os1 (fun r os'=>r=.tuple []∧(I' N os'∨Ix' os')):=fun w D E vs hy hlive hheld hv=>by
   refine (hctr.2 w D E vs hy hlive hheld hv).mono fun e w' ⟨v,he,D',E',r,os',q⟩=>⟨v,D',E',r,os',he,q⟩
  have hshare:=hs1.oc;obtain ⟨Dh,hDh⟩:∃ Dh,Dh=pc (au ts ((999999,.dO (.loop (rec .ready none)))::os0)) D E1:=⟨_,rfl⟩
  rw[←hDh] at hshare;have hsh:=hshare.1;obtain ⟨Eh,hEh⟩:∃ Eh,Eh=aw ρ os1 E1:=⟨_,rfl⟩
  have isrec:av os1 1999999=true:=by rw[hos1,l7];simp
  have hEl:Eh 1999999=some (.op l):=by rw[hEh];simp only[aw,isrec,if_true,hρ];exact hE1
  have EhIn:∀ n e,Eh n=some e→av os1 n=true:=fun n e h=>by
   rw[hEh] at h;simp only[aw] at h;split at h
   ·assumption
   ·cases h
  have hyok:∀ n,pB ⟨c.P,W1,Dh,n,dC Eh,Eh,Y,none⟩:=by
   intro n v' args os' post' hYv w2 D2 E2 vs2 hsince hlive hheld hrvs;rw[hY] at hYv;obtain ⟨rfl,k,rfl,hkN,hIk,hpost⟩:=hYv;have hIk0:=hIk;rw[hI'] at hIk;obtain ⟨osb,rfl,hIk⟩:=hIk;have gk:=kC k _ hIk0;have gkb:=hI k osb hIk;have in2:∀ m,av os1 m=true→E2 m≠none:=fun m hm=>by
    rw[←gk.same m] at hm;cases hx:ak (dK (.loop (rec .ready none)) osb) m with
    |none=>simp[av,hx] at hm
    |some x=>have:=hheld.bT m;rw[hx] at this;exact ud this
   have same2:∀ m e,Eh m=some e→e.eR=true→E2 m=some e:=fun m e he hfx=>by
    rcases hsince.dV m e he with h | ⟨e',h,hle⟩
    ·exact absurd h (in2 m (EhIn m e he))
    ·rw[hle.eq hfx] at h;exact h
   have hEl2:E2 1999999=some (.op l):=same2 _ _ hEl rfl;have hob:=hheld.bT 1999999;rw[qc,if_pos rfl] at hob;obtain ⟨b,j1,_,j3,_,_⟩:=hob;rw[hEl2] at j1;cases j1;have hsz:vs2.toArray.size=cps.size:=by have:=zm hrvs;rw[hlen] at this;simpa using this
   have hyr:=run_yield (P:=c.P) (args:=vs2.toArray) j3 (by rw[hrec];exact hsz);rw[hrec] at hyr;refine ⟨l,hyv,fn,_,cx,cy,hyr,roundIn_of_wpIn trivial ?_⟩;clear hyr
   -- the round's own frame
   obtain ⟨cr,hcr⟩:∃ cr:cO,cr=⟨c.P,w2,D2,c.n,dC E2,E2,iG,some l⟩:=⟨_,rfl⟩
   have hFr:cr.bp=Fence.wide.inRound l:=by rw[hcr];rfl
   have hlat:dS W1 Dh Eh w2 D2 E2:=by
    refine ⟨hsince.cN,hsince.fI.cell,fun m b aS he=>same2 m _ he rfl,fun m aE l he =>?_,fun m b he=>same2 m _ he rfl,fun m b he=>same2 m _ he rfl,hsince.fI.iF⟩;rcases hsince.dV m _ he with h | ⟨e',h,hle⟩
    ·exact absurd h (in2 m (EhIn m _ he))
    ·rcases hle with rfl | ⟨_,_,blk',l',e,rfl,k1,k2⟩
     ·exact ⟨aE,l,h,zz8 _,fun _=>rfl⟩
     ·cases e;exact ⟨blk',l',h,k1,k2⟩
   have hslots:nh ρ (av os1) ts tsR:=by
    have:∀ tsR:List (Nat×I),nh ρ (av osb0) ts tsR→nh ρ (av os1) ts tsR:=by
     intro tsR
     induction tsR with
     |nil=>exact fun h=>h
     |cons q r ih =>
      intro h;obtain ⟨h1,h2,h3⟩:=h;exact ⟨h1,jo (fun n hn=>by rw[hos1,l7,hn];simp) _ h2,ih h3⟩
    exact this tsR hts
   have hsr:aU cr (au tsR (dK (.loop (rec .ready none)) osb)) { tmps:=a.tmps,defers:=[] } w2 D2 E2:=by
    rw[hcr];refine ⟨hs.sz,⟨[],rfl,.nil,fun _ h=>by simp at h⟩,fun t =>?_,fN.refl _ _,fun _ _ h _=>h,hlive,fun m=>(hheld.bT m).mV fun e b he hb=>.inr ⟨m,e,he,hb⟩,hheld.c4,fun _ e h=>.inr ⟨e,h,.refl e⟩,fun m hm =>?_,fun _ _ h=>h,(fun _ _ _ _ h=>h.elim),.refl _ _⟩
    ·rcases MV hslots t with h | ⟨h1,h2⟩
     ·simp only[au];rw[h];simp[aV]
     ·have h3:=hsh.ef t;rw[ha1] at h3;simp only[au] at h3 ⊢;rw[h1] at h3;have h4:=(aV.aQ (w:=W1) (D:=Dh) (p:=av os1) (ρ:=bD ρ) (E:=Eh) (E':=E1) (fun n hn=>by rw[hEh];simp only[aw,hn,if_true]) h2).1 h3;exact aV.bN hlat h4
    ·have hmi:av os1 m=true:=by
      rw[←gk.same m];have:=hheld.bT m;cases hx:ak (dK (.loop (rec .ready none)) osb) m with
      |none=>rw[hx] at this;exact absurd this hm
      |some x=>simp[av,hx]
     have:=gk.oJ m hmi;exact ⟨zu0 hn6 this,this⟩
   have hsp:=aU.Kq cps.toList vs2 (item k) tsR _ hsr (fun p hp=>by rw[hcr];have:=zx9.1 hpn p hp;simpa using this) hrvs (by have:=hsz;simpa using this.symm);have htm:(cps.zip vs2.toArray).foldl (fun t (q:Tmp×Value)=>t.setIfInBounds q.1 q.2) a.tmps=(cps.toList.zip vs2).foldl (fun t q=>t.setIfInBounds q.1 q.2) a.tmps:=by
    rw[←Array.foldl_toList];simp
   have hx:=hround k osb hkN hIk w2 D2 E2 l (.loop (rec .ready none)) (.loop { rec .ready none with state:=.busy });rw[←hcr] at hx;have hx1:=hx cx (by rw[hcr];exact hcx) _ w2 ⟨D2,E2,hsp⟩;rw[hFr] at hx1;simp only[←htm] at hx1;rw[hcr] at hx1;refine wpIn_mono hx1 ?_;rintro e ax wx ⟨B,hq,hsx⟩;rw[←hcr] at hq hsx;cases e <;>simp only[aG] at hq <;>try exact hq.elim
   simp only[Exit.then];obtain ⟨hB1,hB2⟩:=hq;obtain ⟨Dx,Ex,hsx⟩:=hsx;have hElx:Ex 1999999=some (.op l):=by
    have ho:=hsx.bT 1999999;rw[hB1] at ho;rcases hsx.DQ (n:=1999999) (by rw[hcr];exact hEl2) rfl with h | h
    ·exact absurd h (ud ho)
    ·exact h
   have hLx:wx.heap[l]?=some (.loop (rec .ready none)):=by
    have ho:=hsx.bT 1999999;rw[hB1] at ho;obtain ⟨b,k1,_,k3,_⟩:=ho;rw[hElx] at k1;cases k1;exact k3
   refine ⟨_,run_beginRound hLx (by rw[hrec]),?_⟩;have hsb:=hsx.zp (o':=.loop { rec .ready none with state:=.busy }) hB1 hElx rfl;have hy1:=hB2 cy (by rw[hcr];exact hcy) _ _ ⟨Dx,Ex,hsb⟩;rw[hFr] at hy1;rw[hcr] at hy1;refine wpIn_mono hy1 ?_;rintro e a3 w3 ⟨A3,hq3,D3,E3,hs3⟩;rw[←hcr] at hs3
   -- the end of the round
   have a6:∀ (os:List (Nat×aj)) (jump:Option Code),qJ (.loop { rec .ready none with state:=.busy }) A3 os→(post' (.bool jump.isNone) (dK (.loop (rec (if jump.isNone then .ready else .done) jump)) os)) →
     ∃ v w',(Instr.endRound l jump).run c.P w3=.ok v w'∧(fun e w'=>∃ v D' E' r os',e=Ending.returned v∧post' r os'∧aV w' D' E' r v∧lG (fun b=>w2.heap.size≤b∨dC E2 b) w' D' E' (ak os') ∧
      fN (fun b=>w2.heap.size≤b∨dC E2 b) w2 w'∧(∀ b o,D2 b o→D' b o)∧(∀ b o,D' b o→b<w'.heap.size)∧(∀ b o,D' b o→b<w2.heap.size→¬ dC E2 b→D2 b o) ∧
      (∀ n e,E2 n=some e→av os' n=true→∃ e',E' n=some e'∧e.le e')∧iy w2 D2 w') (.returned v) w':=fun os jump hbk hp=>by
    have hA3:A3.o 1999999=some (.dO (.loop { rec .ready none with state:=.busy })):=(hbk 1999999 _ (by rw[qc,if_pos rfl])).1;have hEl3:E3 1999999=some (.op l):=by
     have ho:=hs3.bT 1999999;rw[hA3] at ho;rcases hs3.DQ (n:=1999999) (by rw[hcr];exact hEl2) rfl with h | h
     ·exact absurd h (ud ho)
     ·exact h
    have hL3:w3.heap[l]?=some (.loop { rec .ready none with state:=.busy }):=by
     have ho:=hs3.bT 1999999;rw[hA3] at ho;obtain ⟨b,k1,_,k3,_⟩:=ho;rw[hEl3] at k1;cases k1;exact k3
    have hend:=run_endRound (P:=c.P) jump hL3;have erec:({ rec .ready none with state:=if jump.isNone then LoopState.ready else .done,pending:=jump } : Loop)=rec (if jump.isNone then .ready else .done) jump:=by rw[hrec]
    have hend':(Instr.endRound l jump).run c.P w3=.ok (.bool jump.isNone) (w3.putObj l (.loop (rec (if jump.isNone then .ready else .done) jump))):=by
     rw[hend];rw[hrec]
    have hs4:=hs3.zp (o':=.loop (rec (if jump.isNone then .ready else .done) jump)) hA3 hEl3 rfl;rw[hcr] at hs4;obtain ⟨D',E',_,_,_,q1,q2,q3,q4,q5,q6⟩:=hs4.Jn (ahH hbk _);exact ⟨_,_,hend',_,D',E',.bool jump.isNone,_,rfl,hp,⟨[.bool jump.isNone],by simp[bM,I.isAgg],by simp[ai]⟩,q1,q2,q3,q4,q5,q6⟩
   cases e with
   |normal =>
    obtain ⟨os,hbk,hin⟩:=hq3;exact a6 os none hbk (hpost _ _ (.inl ⟨rfl,by rw[hI'];exact ⟨os,rfl,hin⟩⟩))
   |ret =>
    obtain ⟨os,hbk,hin⟩:=hq3;exact a6 os (some .ret) hbk (hpost _ _ (.inr ⟨rfl,by rw[hIx'];exact ⟨none,os,rfl,hin⟩⟩))
   |exit id =>
    obtain ⟨os,hbk,hin⟩:=hq3;exact a6 os (some (.exit id)) hbk (hpost _ _ (.inr ⟨rfl,by rw[hIx'];exact ⟨some id,os,rfl,hin⟩⟩))
   |goto t=>exact hq3.elim
   |panic ch=>exact hq3.elim
   |outgrown=>exact hq3.elim
  -- the call
  have hargs:fW (aV W1 D E1) (.raw yv::caps) (yv::vs):=by
   exact .cons ⟨[yv],by simp[bM,I.isAgg],by rw[hyv];exact ⟨rfl,rfl⟩⟩ (zi (hup caps vs hvs))
  have hus:=hand.use (ρ:=ρ) hs1 false (fun h=>h.mono) ⟨(fun h=>by cases h),fun _=>by rw[←hDh,←hEh];exact hyok⟩ hgv1 (vC _ (by simp[I.bU,I.bj,hcl]))
   (fun r os' hp=>by
    have gg:fE os1 os':=by
     rcases hp.2 with h | h
     ·exact kC _ _ h
     ·exact goodx _ h
    refine ⟨fun m x hx=>⟨(gg.ok m x hx).1,(gg.ok m x hx).2,fun h=>by cases h⟩,fun m m' h1 h2=>hgv1.inj m m' (by rw[←gg.same];exact h1) (by rw[←gg.same];exact h2),fun m hm=>by rw[gg.same];exact hm,fun m h1 h2=>(by rw[gg.same,h2] at h1;cases h1),(by rw[hp.1];simp[I.only,I.bZ]),fun h=>by cases h⟩) hargs
  have ecl : #[yv]++vs.toArray=(yv::vs).toArray:=by simp
  rw[ecl];refine CallsIn.mono (callsIn_wide.2 hus) ?_;rintro e w3 ⟨v,r,os',D2,E2,rfl,hp,hs2,_,hE2⟩;have key:∀ (o3:Obj) (osb:List (Nat×aj)),os'=dK o3 osb→p9 o3=true→E2 999999=some (.op l)∧w3.heap[l]?=some o3∧∀ o4,p9 o4=true→ct c (au ts (dL ρ osb++os0)) a1 (w3.putObj l o4):=fun o3 osb he h3=>by
   subst he;have hn2:E2 999999=some (.op l):=by
    obtain ⟨e',h1,h2⟩:=hE2 1999999 (.op l) (by rw[←hEh];exact hEl) (by rw[l7];simp);rw[hρ] at h1;rw[h1,h2.eq rfl]
   have eos:dL ρ (dK o3 osb)=(999999,.dO o3)::dL ρ osb:=by simp only[dK,dL,zz9,hρ,aj.aQ]
   rw[eos] at hs2;have ha:(au ts ((999999,aj.dO o3)::dL ρ osb++(999999,.dO (.loop (rec .ready none)))::os0)).o 999999=some (.dO o3):=by simp[au,ak]
   have hgb:∀ m,av osb m=true→bD ρ m≠999999:=fun m hm e=>by
    have h5:av (dK o3 osb) m=true:=by rw[l7,hm];simp
    have g5:fE os1 (dK o3 osb):=by
     rcases hp.2 with h | h
     ·exact kC _ _ h
     ·exact goodx _ h
    have h6:=hgv1.inj m 1999999 (by rw[←g5.same];exact h5) isrec (by rw[hρ];exact e);subst h6;have h7:fE osb0 osb:=by
     rcases hp.2 with h | h
     ·rw[hI'] at h;obtain ⟨osb',h8,h9⟩:=h;simp only[dK,List.cons.injEq] at h8;rw[h8.2];exact hI _ _ h9
     ·rw[hIx'] at h;obtain ⟨e,osb',h8,h9⟩:=h;simp only[dK,List.cons.injEq] at h8;rw[h8.2];exact hIx _ _ h9
    rw[h7.same,h19] at hm;cases hm
   refine ⟨hn2,?_,fun o4 h4 =>?_⟩
   ·have ho:=hs2.bT 999999;rw[ha] at ho;obtain ⟨b,k1,_,k3,_⟩:=ho;rw[hn2] at k1;cases k1;exact k3
   ·have h5:=(hs2.zp (o':=o4) ha hn2 h4).Xv hn2;have hst:(⟨((au ts ((999999,aj.dO o3)::dL ρ osb++(999999,.dO (.loop (rec .ready none)))::os0)).aO 999999 (.dO o4)).t,fun m=>if m=999999 then none else
      ((au ts ((999999,aj.dO o3)::dL ρ osb++(999999,.dO (.loop (rec .ready none)))::os0)).aO 999999 (.dO o4)).o m⟩:af)=au ts (dL ρ osb++os0):=by
     simp only[au,af.aO]
     congr 1
     funext m
     by_cases hm:m=999999
     ·subst hm;simp only[if_true,rE];cases hq:pre ρ osb 999999 with
      |none=>exact hfree.symm
      |some k=>exact absurd (mi hq).2 (hgb k (mi hq).1)
     ·simp only[if_neg hm,zy1,ak,rE]
    rw[hst] at h5;exact ⟨D2,_,h5⟩
  rcases hp.2 with h | h
  ·rw[hI'] at h;obtain ⟨osb,he,hin⟩:=h;obtain ⟨k1,k2,k3⟩:=key _ osb he rfl;refine ⟨none,_,(by have:=run_endLoop (P:=c.P) k2 (by rw[hrec];simp);rw[hrec] at this;exact this),_,hdone osb hin,?_⟩;have:=k3 (.loop { rec .ready none with state:=.exhausted }) rfl;rw[ha1] at this;rw[hrec] at this;exact this
  ·rw[hIx'] at h;obtain ⟨e,osb,he,hin⟩:=h;obtain ⟨k1,k2,k3⟩:=key _ osb he rfl;refine ⟨some (x3 e),_,(by have:=run_endLoop (P:=c.P) k2 (by rw[hrec];simp);rw[hrec] at this;exact this),?_⟩;have:=k3 (.loop { rec .done (some (x3 e)) with state:=.exhausted }) rfl;rw[ha1] at this;rw[hrec] at this;have hq:Jr c Q (Dy e) { a with defers := { target:=.collected w.heap.size,args := #[] } :: a.defers } _:=⟨_,hexit e osb hin,this⟩
   cases e with
   |none=>exact wpIn_ret hq
   |some id=>exact wpIn_exit hq
end
mutual
theorem mj{ρ:Nat→Nat}(h:∀ n,ρ n=n):∀ x:I,x.aQ ρ=x
 | .agg fs | .tuple fs=>by simp only[I.aQ];rw[m6 h fs]
 | .slice _ es=>by simp only[I.aQ];rw[m6 h es]
 | .ref x=>by simp only[I.aQ];rw[mj h x]
 | .func _ caps=>by simp only[I.aQ];rw[m6 h caps]
 | .iface _ v=>by simp only[I.aQ];rw[mj h v]
 | .ptr _ _ | .own _ _ | .view _ _ _ _ _ | .mref _ | .dx _=>by simp only[I.aQ,h]
 | .cM ks vs=>by simp only[I.aQ];rw[m6 h ks,m6 h vs]
 | .bool _ | .int _ _ | .c6 _ | .nilp | .dh | .dW | .raw _ | .nils _ | .c0 _ | .undef | .de=>by simp only[I.aQ]
theorem m6{ρ:Nat→Nat}(h:∀ n,ρ n=n):∀ xs:List I,I.cR ρ xs=xs
 | []=>rfl
 |x::xs=>by simp only[I.cR];rw[mj h x,m6 h xs]
end
theorem aj.mj{ρ:Nat→Nat}(h:∀ n,ρ n=n):∀ x:aj,x.aQ ρ=x
 | .box x=>by simp only[aj.aQ,Abs.mj h]
 | .bR _ _ es=>by simp only[aj.aQ,m6 h]
 | .dO _=>rfl
 | .c5 _ _=>rfl
 | .cC _ _=>by simp only[aj.aQ,m6 h]
 | .it _ _ _ _=>by simp only[aj.aQ,m6 h]
theorem uB(os:List (Nat×aj)):dL [] os=os:=by
 simp only[dL];have:(fun q:Nat×aj=>(bD [] q.1,q.2.aQ (bD [])))=id:=by
  funext q
  rw[aj.mj (ρ:=bD []) (fun n=>rfl)];rfl
 rw[this,List.map_id]
theorem kF(a b:List (Nat×aj))(n:Nat):ak (a++b) n=match ak a n with
  |some x=>some x
  |none=>ak b n:=by
 induction a with
 |nil=>rfl
 |cons q a ih =>
  obtain ⟨k,v⟩:=q;simp only[zy1,ak];split
  ·rfl
  ·exact ih
theorem fE.none{os os':List (Nat×aj)}(h:fE os os'){n:Nat}(hn:n<1000000):ak os' n=none:=by
 cases hx:ak os' n with
 |none=>rfl
 |some x =>
  have h1:av os' n=true:=by simp[av,hx]
  rw[h.same] at h1;exact absurd (h.oJ n h1) (by omega)
theorem aF.cK{ts ts':List (Nat×I)}{os os':List (Nat×aj)}(h1:aY ts ts')(h2:∀ n,ak os n=ak os' n):aF (au ts os) (au ts' os'):=by
 have e:au ts os=au ts os':=by
  simp only[au];congr 1;funext n;exact h2 n
 rw[e];rintro c a w ⟨D,E,hs⟩;refine ⟨D,E,hs.sz,hs.eT,fun t =>?_,hs.dQ,hs.da,hs.dm,hs.bT,hs.c4,hs.dV,hs.eZ,hs.cN,hs.fe,hs.fI⟩;rcases zC h1 t with h | h
 ·simp only[au];rw[h];simp[aV]
 ·have:=hs.ef t;simp only[au] at *;rw[h];exact this
theorem AD{os osk os2 ow:List (Nat×aj)}{ts:List (Nat×I)}(h1:fE os osk)(h2:fE os os2)(how:∀ m,av ow m=true→m<1000000):au ts (dL [] os2++(ow++osk))=au ts (ow++os2):=by
 simp only[au,uB]
 congr 1
 funext n
 simp only[kF];cases hw:ak ow n with
 |none =>
  simp only;cases h3:ak os2 n with
  |some x=>rfl
  |none =>
   simp only;cases h4:ak osk n with
   |none=>rfl
   |some x =>
    have h5:av osk n=true:=by simp[av,h4]
    rw[h1.same,←h2.same] at h5;simp[av,h3] at h5
 |some x =>
  simp only;rw[h2.none (how n (by simp[av,hw]))]
theorem gh.kC{os osk ow:List (Nat×aj)}(h1:fE os osk)(how:∀ m,av ow m=true→m<1000000):gh [] osk (ow++osk):=by
 refine ⟨fun m x hx =>?_,fun m m' _ _ h=>h⟩;have hm:av osk m=true:=by simp[av,hx]
 have hg:=h1.oJ m (by rw[←h1.same];exact hm);obtain ⟨k1,k2⟩:=h1.ok m x hx;refine ⟨?_,k1,k2⟩;rw[aj.mj (ρ:=bD []) (fun n=>rfl)];simp only[bD,kF];cases hw:ak ow m with
 |none=>exact hx
 |some y=>have:=how m (by simp[av,hw]);omega
theorem eK.kC{os osk os2 os0:List (Nat×aj)}{r:I}(h1:fE os osk)(h2:fE os os2)(hr:r.bj=true):eK false [] osk os0 r os2:=by
 refine ⟨fun m x hx=>⟨(h2.ok m x hx).1,(h2.ok m x hx).2,fun h=>by cases h⟩,fun m m' _ _ h=>h,fun m hm=>by rw[h2.same,←h1.same];exact hm,fun m h3 h4 =>?_,kc _ r hr,fun h=>by cases h⟩;rw[h2.same,←h1.same,h4] at h3;cases h3
theorem bh.NC{P:Program}{Y:Value→List I→List (Nat×aj)→cV→Prop}{K:af→Prop}{v:Value}{vs:List I}{dst:Option Nat}{rest:List aC}{ts:List (Nat×I)}{os osk ow:List (Nat×aj)}{In Ix:List (Nat×aj)→Prop}
  (hY:Y v vs osk (fun r os2=>(r=.bool true∧In os2)∨(r=.bool false∧Ix os2))) (hk:fE os osk) (hi:∀ os',In os'→fE os os') (hx:∀ os',Ix os'→fE os os') (hcl:I.bU vs=true) (how:∀ m,av ow m=true→m<1000000)
  (h1:∀ os2,In os2→bh P Y false K (aA rest ((au ts (ow++os2)).aP dst (.bool true)))) (h2:∀ os2,Ix os2→bh P Y false K (aA rest ((au ts (ow++os2)).aP dst (.bool false)))) :
  bh P Y false K (.pO v vs dst rest (au ts (ow++osk))):=by
 refine .zI osk vs _ rfl hY (gh.kC hk how) (vC vs hcl) ?_ ?_
 ·rintro r os' (⟨rfl,h⟩ | ⟨rfl,h⟩)
  ·exact eK.kC hk (hi _ h) rfl
  ·exact eK.kC hk (hx _ h) rfl
 ·rintro r os' (⟨rfl,h⟩ | ⟨rfl,h⟩)
  ·rw[AD hk (hi _ h) how];exact h1 os' h
  ·rw[AD hk (hx _ h) how];exact h2 os' h
theorem CO(A:af)(d:Option Nat)(args:List I)(rest:List aC)(v:Value):sP A d args rest (.raw v)=.pO v args d rest A:=rfl
def kq(w:World):aT:=fun b _=>b<w.heap.size
structure ib (P:Program) (t:TypeId) (α:Type) [Enc α]:Prop where
 cells:P.cellsOf t=Enc.sz α
 Km:0<Enc.sz α
 oZ:∀ {H:Type} {enc0:TypeId×Value→H} {w:World} {fuel:Nat} {cs:List Value} {x:DataW H×List MemPlace},DataW.trod enc0 P w 0 (fun _=>true) true fuel t cs=some x→∃ a:α,ai w (kq w) dD (enc a) cs
theorem ake{P:Program}{t:TypeId}(ht:P.underlying t=some (.int .i64))(hc:P.cellsOf t=1):ib P t Int :=
 ⟨hc,by decide,fun h=>by
  obtain ⟨n,rfl,_,hw⟩:=DataW.trod_int ht h;refine ⟨n,?_⟩;rw[fY,ai];simp only[Lit.wf,zz3,decide_eq_true_eq] at hw;exact ⟨rfl,hw.1,hw.2⟩⟩
theorem CW{α:Type}[Enc α]{w:World}{D:aT}(c:Nat):∀ (n:Nat) (cs:List Value),cs.length=n*c→(∀ i,i<n→∃ a:α,ai w D dD (enc a) ((cs.drop (i*c)).take c))→∃ l:List α,l.length=n∧aL w D dD (l.map enc) cs
 |0,cs,hl,_=>⟨[],rfl,by simp only[Nat.zero_mul,zv4] at hl;subst hl;simp[aL]⟩
 |n+1,cs,hl,h=>by
  obtain ⟨a,ha⟩:=h 0 (by omega);simp only[Nat.zero_mul,List.drop_zero] at ha;obtain ⟨l,h1,h2⟩:=CW c n (cs.drop c) (by rw[zy9,hl,Nat.succ_mul];omega) (fun i hi=>by
   obtain ⟨b,hb⟩:=h (i+1) (by omega);refine ⟨b,?_⟩;rw[List.drop_drop]
   rwa [Nat.succ_mul,Nat.add_comm] at hb)
  refine ⟨a::l,by simp[h1],?_⟩;simp only[zz9,aL];exact ⟨cs.take c,cs.drop c,(zx1 c cs).symm,ha,h2⟩
theorem al2{H:Type}{enc0:TypeId×Value→H}{P:Program}{w:World}{base:Nat}{spare:Nat→Bool}{held:Bool}{fuel n:Nat}{t e:TypeId}{cs:List Value}{x:DataW H×List MemPlace}(ht:P.underlying t=some (.array n e))(h:DataW.trod enc0 P w base spare held fuel t cs=some x) :
  ∃ (xs:List (DataW H×List MemPlace)) (m:Nat),cs.length=P.cellsOf t∧xs.length=n∧∀ (i:Nat),i<n→DataW.trod enc0 P w base spare held m e ((cs.drop (i*P.cellsOf e)).take (P.cellsOf e))=xs[i]?:=by
 cases fuel with
 |zero=>simp[DataW.trod] at h
 |succ m =>
  unfold DataW.trod at h;rw[ht] at h;split at h <;>simp_all
  obtain ⟨hl,xs,hp,ae⟩:=h;exact ⟨xs,by simpa using mapM_some_length hp,m,fun i hi=>mapM_some_get hp i i (by simp[hi])⟩
theorem akd{P:Program}{t e:TypeId}{n:Nat}{α:Type}[Enc α](ht:P.underlying t=some (.array n e))(he:ib P e α)(hc:P.cellsOf t=n*Enc.sz α)(hn:0<n):ib P t (bL n α) :=
 ⟨hc,Nat.mul_pos hn he.Km,fun {H enc0 w fuel cs x} h=>by
  obtain ⟨xs,m,hl,hx,hp⟩:=al2 ht h;obtain ⟨l,h1,h2⟩:=CW (α:=α) (w:=w) (D:=kq w) (Enc.sz α) n cs (by rw[hl,hc]) (fun i hi=>by
   have h3:=hp i hi;rw[he.cells,zy0 (by omega)] at h3;exact he.oZ h3)
  refine ⟨⟨l,h1⟩,?_⟩
  show ai w (kq w) dD (.agg (l.map enc)) cs
  simp only[ai];exact h2⟩
theorem Pn(a:Addr)(i j:Nat):(a.add i).add j=a.add (i+j):=by
 unfold Addr.add;by_cases hi:i=0 <;>by_cases hj:j=0 <;>simp[hi,hj,Nat.add_assoc]
theorem akf{P:Program}{t e:TypeId}{α:Type}[Enc α](ht:P.underlying t=some (.slice e))(he:ib P e α)(hc:P.cellsOf t=1):ib P t (List α) :=
 ⟨hc,by rw[qW];exact Nat.one_pos,fun {H enc0 w fuel cs x} h=>by
  rcases DataW.trod_slice ht h with ⟨rfl,_⟩ | ⟨a,len,cap,elems,rest,n,_,rfl,_,hb,hl,hm,hlen,hel,_⟩
  ·refine ⟨[],?_⟩;simp only[gi,zx3];rw[ai];exact ⟨none,0,rfl,zz8 _,by decide,.inl rfl,by simp⟩
  ·have key:∀ k,k≤len→∃ (l:List α) (cs':List Value),l.length=k∧aL w (kq w) dD (l.map enc) cs'∧cs'.length=k*Enc.sz α∧∀ j v,cs'[j]?=some v→w.cell? (a.add j)=some v:=by
    intro k
    induction k with
    |zero=>exact fun _=>⟨[],[],rfl,by simp[aL],by simp,by simp⟩
    |succ k ih =>
     intro hk;obtain ⟨l,cs',h1,h2,h3,h4⟩:=ih (by omega);have h5:=hel k (by omega);have h6:k<elems.length:=by omega
     rw[zy0 h6] at h5;obtain ⟨ce,h7,h8⟩:=Option.bind_eq_some_iff.1 h5;obtain ⟨y,hy⟩:=he.oZ h8;rw[he.cells] at h7;obtain ⟨_,h9,h10⟩:=World.cells?_some h7;refine ⟨l++[y],cs'++ce,by simp[h1],?_,by rw[zz7,h3,h9,Nat.succ_mul],fun j v hj =>?_⟩
     ·rw[zx4];refine kL _ _ _ _ h2 ?_;simp only[zz9,zx3,aL];exact ⟨ce,[],by simp,hy,rfl⟩
     ·rcases Nat.lt_or_ge j cs'.length with hlt | hge
      ·rw[zx0 hlt] at hj;exact h4 j v hj
      ·rw[zw0 hge] at hj;have hlt:j-cs'.length<Enc.sz α:=by
        have:=(zy4.1 hj).1;omega
       have:=h10 (j-cs'.length) hlt;rw[Pn,←h3,Nat.add_sub_cancel' hge] at this;rw[this];exact hj
   obtain ⟨l,cs',h1,h2,h3,h4⟩:=key len (zz8 _);refine ⟨l,?_⟩;simp only[gi,ai,zy3];refine ⟨some a,cap,by rw[h1],by omega,hm,?_,Pu l⟩;by_cases hz:len=0
   ·left;have:l=[]:=zv4.1 (by omega);rw[this];rfl
   right
   have hpos:0<cs'.length:=by rw[h3];exact Nat.mul_pos (Nat.pos_of_ne_zero hz) he.Km
   have h0:=h4 0 cs'[0] (zy0 hpos);have hsp:a.spot=none:=by
    simp only[Addr.add,if_true] at h0;unfold World.cell? at h0;split at h0
    ·split at h0
     ·cases h0
     ·rename_i hs;cases hh:a.spot <;>simp_all
    ·cases h0
   have ha:∀ j,a.add j=⟨a.block,a.off+j,none⟩:=fun j=>by
    unfold Addr.add;split
    ·rename_i hj;subst hj;cases a;simp_all
    ·rfl
   refine ⟨a.block,a.off,cs',by cases a;simp_all,fun j v hj =>?_,h2⟩;have h5:=h4 j v hj;rw[ha] at h5;refine ⟨h5,?_⟩
   show (⟨a.block,a.off+j,none⟩:Addr).block<_
   exact World.block_lt_of_cell? w _ h5⟩
end Go.Abs
namespace Go.Abs
open Go Go.RowKit Go.ChangeShapes
open Enc (enc)
def rv(P:Program)(t:TypeId)(l:List (TypeId×Nat)):Bool:=match P.underlying t with
 |some (.struct fs)=>fs.toList.map (fun f=>(f.type,f.offset))==l
 |_=>false
def Ja(P:Program)(t:TypeId)(n:Nat)(e:TypeId):Bool:=match P.underlying t with
 |some (.array n' e')=>n'==n&&e'==e
 |_=>false
theorem ahW{P:Program}{t:TypeId}{n:Nat}{e:TypeId}(h:Ja P t n e=true):P.underlying t=some (.array n e):=by
 unfold Ja at h;split at h
 ·rename_i n' e' ht;simp only[zz3,beq_iff_eq] at h;rw[ht,h.1,h.2]
 ·cases h
theorem ah2{P:Program}{t:TypeId}{l:List (TypeId×Nat)}(h:rv P t l=true):∃ fs,P.underlying t=some (.struct fs)∧fs.toList.map (fun f=>(f.type,f.offset))=l:=by
 unfold rv at h;split at h
 ·rename_i fs ht;exact ⟨fs,ht,by simpa using h⟩
 ·cases h
theorem Nb{H:Type}{enc0:TypeId×Value→H}{P:Program}{w:World}{fuel:Nat}{t:TypeId}{l:List (TypeId×Nat)}{cs:List Value}{x:DataW H×List MemPlace}(ht:rv P t l=true)(h:DataW.trod enc0 P w 0 (fun _=>true) true fuel t cs=some x) :
  cs.length=P.cellsOf t∧∃ m:Nat,∀ (i:Nat) (u:TypeId) (o:Nat),l[i]?=some (u,o)→∃ y,DataW.trod enc0 P w 0 (fun _=>true) true m u ((cs.drop o).take (P.cellsOf u))=some y:=by
 obtain ⟨fs,h1,h2⟩:=ah2 ht;obtain ⟨xs,m,_,_,h3,h4,h5⟩:=DataW.trod_struct h1 h;refine ⟨h3,m,fun i u o hi =>?_⟩;rw[←h2] at hi;simp only[zw5,zz1,Prod.mk.injEq] at hi;obtain ⟨f,hf,rfl,rfl⟩:=hi;have hf':fs[i]?=some f:=by simpa using hf
 have h6:=h5 i f hf';have hlt:i<fs.size:=(zx7.1 hf').1;rw[zy0 (by omega)] at h6;exact ⟨_,h6⟩
section
variable {P:Program} {t:TypeId} {α β γ:Type} [Enc α] [Enc β] [Enc γ] {H:Type} {enc0:TypeId×Value→H} {w:World} {fuel:Nat} {cs:List Value} {x:DataW H×List MemPlace}
theorem akg{u0 u1:TypeId}(ht:rv P t [(u0,0),(u1,Enc.sz α)]=true)(h0:ib P u0 α)(h1:ib P u1 β)(hc:P.cellsOf t=Enc.sz α+Enc.sz β)(h:DataW.trod enc0 P w 0 (fun _=>true) true fuel t cs=some x) :
  ∃ (a:α) (b:β),ai w (kq w) dD (.agg [enc a,enc b]) cs:=by
 obtain ⟨hl,m,hf⟩:=Nb ht h;obtain ⟨y0,k0⟩:=hf 0 u0 0 rfl;obtain ⟨y1,k1⟩:=hf 1 u1 (Enc.sz α) rfl;obtain ⟨a,ha⟩:=h0.oZ k0;obtain ⟨b,hb⟩:=h1.oZ k1;rw[h0.cells,List.drop_zero] at ha;rw[h1.cells,zw8 (by rw[zy9];omega)] at hb;refine ⟨a,b,?_⟩;simp only[ai,aL];exact ⟨_,_,(zx1 (Enc.sz α) cs).symm,ha,cs.drop (Enc.sz α),[],by simp,hb,rfl⟩
theorem akc{base:Nat}{v:Value}{d:DataW H}{p:List MemPlace}(ho:ib P t α)(hA:Enc.fP α=true)(hst:(match P.underlying t with | some (.struct _) | some (.array _ _)=>true | _=>false)=true)(hv:Value.okWide P w .any base t v)
  (h:DataW.Trod enc0 P w 0 (fun _=>true) true t v d p):∃ (a:α) (cs:List Value),bM (enc a) v cs∧ai w (kq w) dD (enc a) cs:=by
 obtain ⟨fuel,h⟩:=h;have hagg:∃ cs,v=.agg cs:=by
  unfold Value.okWide at hv;split at hst
  ·rename_i fs ht;rw[ht] at hv;obtain ⟨cs,h1,_⟩:=hv;exact ⟨cs,h1⟩
  ·rename_i n e ht;rw[ht] at hv;obtain ⟨cs,h1,_⟩:=hv;exact ⟨cs,h1⟩
  ·cases hst
 obtain ⟨cs,rfl⟩:=hagg;have e:(Value.agg cs).cells.toList=cs.toList:=rfl;rw[e] at h;obtain ⟨a,ha⟩:=ho.oZ h;exact ⟨a,cs.toList,by simp[bM,Enc.agg,hA],ha⟩
theorem J6{base:Nat}{v:Value}{d:DataW H}{p:List MemPlace}(ho:ib P t α)(hA:Enc.fP α=false)(hst:(match P.underlying t with | some (.slice _) | some (.int _) | some .bool=>true | _=>false)=true)(hv:Value.okWide P w .any base t v)
  (h:DataW.Trod enc0 P w 0 (fun _=>true) true t v d p):∃ (a:α) (cs:List Value),bM (enc a) v cs∧ai w (kq w) dD (enc a) cs:=by
 obtain ⟨fuel,h⟩:=h;have hone:v.cells.toList=[v]:=by
  unfold Value.okWide at hv;split at hst
  ·rename_i e ht;rw[ht] at hv;simp only[Cell.okWide,ht] at hv;cases v <;>simp_all[Cell.ok,Value.cells]
  ·rename_i e ht;rw[ht] at hv;simp only[Cell.okWide,ht] at hv;cases v <;>simp_all[Cell.ok,Value.cells]
  ·rename_i ht;rw[ht] at hv;simp only[Cell.okWide,ht] at hv;cases v <;>simp_all[Cell.ok,Value.cells]
  ·cases hst
 rw[hone] at h;obtain ⟨a,ha⟩:=ho.oZ h;exact ⟨a,[v],by simp[bM,Enc.agg,hA],ha⟩
end
theorem aky{H:Type}{enc0:TypeId×Value→H}{P:Program}{f:Func}{s:ChangeSpec}{apart kB handsOn again:Bool}{W W':World}{args:Array Value}{v:Value}{bC gs:List (DataW H)}{before pa pv:List MemPlace}
  (hW:DataW.Whole enc0 P f.params.toList s.vars apart W args.toList bC gs before)
  (hres:∀ (b:Nat) (sp:Nat→Bool) (ae:Bool),DataW.TrodAll enc0 P W' b sp ae f.resultTypes.toList (v.resultList f.resultTypes.size) (s.fn H (bC++gs)).results [])
  (hargs:∀ sp:Nat→Bool,(∀ p∈before,sp p.block=true)→DataW.TrodAll enc0 P W' 0 sp true f.params.toList args.toList (s.fn H (bC++gs)).args pa)
  (hvars:∀ sp:Nat→Bool,(∀ p∈before,sp p.block=true)→DataW.TrodVars enc0 P W' sp s.vars (s.fn H (bC++gs)).vars pv)
  (hps:before=pa++pv) (hb:Below W.heap.size W W')
  (hok:∀ (j:Nat) (t:TypeId) (r:Value),f.resultTypes[j]?=some t→(v.resultList f.resultTypes.size)[j]?=some r→Value.okWide P W' .any 0 t r) :
  s.post enc0 P f apart kB handsOn again W args v W':=by
 have hlt:∀ p∈before,p.block<W.heap.size:=fun p hp=>by simpa using hW.lt p hp
 have hold:∀ p∈before,(fun b=>decide (b<W.heap.size)) p.block=true:=fun p hp=>by simpa using hlt p hp
 refine ⟨bC,gs,before,[],pa,pv,hW,hres _ _ _,hargs _ hold,hvars _ hold,World.keptBut_mono (fun p hp=>⟨hp,?_⟩) (hb.frame (· ∈ before)),fun _ =>?_⟩
 ·rw[hps,zy6] at hp;exact Or.inr hp
 ·obtain ⟨_,_,_,_,_,hz,hn⟩:=hW;refine ⟨hok,_,_,([]++pa)++pv,⟨[]++pa,pv,trodAll_append (hargs _ (fun _ _=>rfl)) (hres _ _ _),hvars _ (fun _ _=>rfl),rfl,?_,?_⟩,?_⟩
  ·intro b off hp;have hp':MemPlace.cell b off∈before:=by rw[hps];simpa using hp
   rw[hb.frozen (p:=⟨b,off,none⟩) (hlt _ hp')];exact hz b off hp'
  ·intro ha;have:=hn ha;rw[hps] at this;simpa using this
  ·intro p hp _;rw[hps];simpa using hp
theorem ain{P:Program}{f:FuncId}{fn:Func}{s:ChangeSpec}{H:Type}{enc0:TypeId×Value→H}{W:World}{bC gs:List (DataW H)}{before:List MemPlace}{xs:List I}{tb:TypeId}{v0 v1 v2:Value}{t0 t1 t2:TypeId}{d0 d1 d2:DataW H}{p0 p1 p2:List MemPlace}{again handsOn kB:Bool}
  (hl:laidOutB P=true) (hpar:fn.params.toList=[t0,t1,t2]) (hds:bC=[d0,d1,d2]) (hgs:gs=[]) (hbef:before=p0++p1++p2)
  (hvars:s.vars=[]) (hfn:s.fn H [d0,d1,d2] = { results:=[.lit (.bool true)],args:=[d0,d1,d2] }) (hres:fn.resultTypes = #[tb]) (htb:P.underlying tb=some .bool)
  (hW:DataW.Whole enc0 P fn.params.toList s.vars false W #[v0,v1,v2].toList bC gs before)
  (h0:DataW.Trod enc0 P W 0 (fun _=>true) true t0 v0 d0 p0) (h1:DataW.Trod enc0 P W 0 (fun _=>true) true t1 v1 d1 p1) (h2:DataW.Trod enc0 P W 0 (fun _=>true) true t2 v2 d2 p2)
  (hr:∀ t∈[t0,t1,t2],P.readableRec t=true∧t<P.types.size)
  (hctr:aB P f xs (enc true)) (hv:aJ W (kq W) dD xs [v0,v1,v2]) :
  Calls P f #[v0,v1,v2] W fun e W'=>∃ v,e=.returned v∧s.post enc0 P fn false kB handsOn again W #[v0,v1,v2] v W':=by
 subst hds hgs;refine (hctr.2 W (kq W) [v0,v1,v2] (fun _ _ h=>h) hv).mono fun e W' ⟨v,D',he,hrv,hb,_,_⟩=>⟨v,he,?_⟩
 have hvb:v=.bool true:=mq hrv;subst hvb;have hlt:∀ x∈before,x.block<W.heap.size:=fun x hx=>by simpa using hW.lt x hx
 rw[hbef] at hlt;refine aky (pa:=p0++(p1++p2)) (pv:=[]) hW (fun _ _ _ =>?_) (fun sp hsp =>?_) (fun _ _ =>?_) (by rw[hbef];simp) hb ?_
 ·simp only[zx5,hfn,hres];exact trodAll_mk1 (shut_bool htb true)
 ·simp only[zx5,hfn,hpar];rw[hbef] at hsp;have br:∀ {t:TypeId} {v:Value} {d:DataW H} {p:List MemPlace},t∈[t0,t1,t2]→DataW.Trod enc0 P W 0 (fun _=>true) true t v d p→(∀ x∈p,x∈p0++p1++p2)→DataW.Trod enc0 P W' 0 sp true t v d p:=fun ht h hp =>
   WideElems.Trod_stays hl (hr _ ht).1 (hr _ ht).2 h (fun x hx=>hb.same (hlt x (hp x hx))) (fun x hx=>hsp x (hp x hx))
  exact trodAll_mk3 (br (by simp) h0 fun x hx=>by simp[hx]) (br (by simp) h1 fun x hx=>by simp[hx]) (br (by simp) h2 fun x hx=>by simp[hx])
 ·simp only[zx5,hfn,hvars];rfl
 ·intro j t r hj hv';rw[hres] at hj hv'
  match j,hj,hv' with
  |0,hj,hv' =>
   simp[Value.resultList] at hj hv';subst hj;subst hv';simp[Value.okWide,htb,Cell.okWide,Cell.ok]
def Af(P:Program)(u:TypeId)(n:Nat)(S:I→Prop):Prop:=P.cellsOf u=n ∧
 ∀ {H:Type} {enc0:TypeId×Value→H} {w:World} {fuel:Nat} {cs:List Value} {x:DataW H×List MemPlace},DataW.trod enc0 P w 0 (fun _=>true) true fuel u cs=some x→∃ v,S v∧ai w (kq w) dD v cs
theorem ib.bd{P:Program}{u:TypeId}{α:Type}[Enc α](h:ib P u α):Af P u (Enc.sz α) fun v=>∃ a:α,v=enc a :=
 ⟨h.cells,fun hx=>by obtain ⟨a,ha⟩:=h.oZ hx;exact ⟨enc a,⟨a,rfl⟩,ha⟩⟩
def qn(P:Program):Nat→List (TypeId×Nat)→List (Nat×(I→Prop))→Prop
 |_,[],[]=>True
 |o,(u,off)::l,(n,S)::Ss=>off=o∧Af P u n S∧qn P (o+n) l Ss
 |_,_,_=>False
def pD:List (Nat×(I→Prop))→List I→Prop
 | [],[]=>True
 |(_,S)::Ss,v::vs=>S v∧pD Ss vs
 |_,_=>False
theorem jC{n:Nat}{S:I→Prop}{Ss:List (Nat×(I→Prop))} : ∀ {vs:List I},pD ((n,S)::Ss) vs→∃ v vs',vs=v::vs'∧S v∧pD Ss vs'
 | [],h=>h.elim
 |v::vs,h=>⟨v,vs,rfl,h.1,h.2⟩
theorem An:∀ {vs:List I},pD [] vs→vs=[]
 | [],_=>rfl
 |_::_,h=>h.elim
def r5:List (Nat×(I→Prop))→Nat
 | []=>0
 |(n,_)::Ss=>n+r5 Ss
theorem DE{P:Program}{H:Type}{enc0:TypeId×Value→H}{w:World}{m:Nat}{cs:List Value} : ∀ (l:List (TypeId×Nat)) (Ss:List (Nat×(I→Prop))) (o:Nat),qn P o l Ss→cs.length=o+r5 Ss →
  (∀ (i:Nat) (u:TypeId) (off:Nat),l[i]?=some (u,off)→∃ y,DataW.trod enc0 P w 0 (fun _=>true) true m u ((cs.drop off).take (P.cellsOf u))=some y)→∃ vs,pD Ss vs∧aL w (kq w) dD vs (cs.drop o)
 | [],[],o,_,hl,_=>⟨[],trivial,by simp only[aL];exact zv2 (by simp only[r5] at hl;omega)⟩
 |(u,off)::l,(n,S)::Ss,o,h,hl,hf=>by
  obtain ⟨rfl,h2,h3⟩:=h;obtain ⟨y,hy⟩:=hf 0 u off rfl;obtain ⟨v,hv1,hv2⟩:=h2.2 hy;obtain ⟨vs,k1,k2⟩:=DE l Ss (off+n) h3 (by simp only[r5] at hl;omega) fun i u' o' hi=>hf (i+1) u' o' hi;refine ⟨v::vs,⟨hv1,k1⟩,?_⟩;simp only[aL];rw[h2.1] at hv2;exact ⟨_,(cs.drop off).drop n,(zx1 n _).symm,hv2,by rw[List.drop_drop];exact k2⟩
 | [],_::_,_,h,_,_=>h.elim
 |_::_,[],_,h,_,_=>by simp[qn] at h
theorem J7{P:Program}{t:TypeId}{H:Type}{enc0:TypeId×Value→H}{w:World}{fuel:Nat}{cs:List Value}{x:DataW H×List MemPlace}(l:List (TypeId×Nat))(Ss:List (Nat×(I→Prop)))(ht:rv P t l=true)(hok:qn P 0 l Ss)(hc:P.cellsOf t=r5 Ss)(h:DataW.trod enc0 P w 0 (fun _=>true) true fuel t cs=some x) :
  ∃ vs,pD Ss vs∧ai w (kq w) dD (.agg vs) cs:=by
 obtain ⟨hl,m,hf⟩:=Nb ht h;obtain ⟨vs,k1,k2⟩:=DE l Ss 0 hok (by rw[hl,hc];omega) hf;exact ⟨vs,k1,by simpa only[ai,List.drop_zero] using k2⟩
end Go.Abs
namespace Go.Abs
open Go Go.RowKit
section
variable {c:cO} {A:af} {o:Oper}
theorem Xk{t e:TypeId}{len n:Nat}{parts:Array (Nat×Operand)}{ps:List (Nat×aM)}{es:List I}(ho:o.op=.buildSlice t len parts)(hu:c.P.underlying t=some (.slice e))(hp:kv c.P parts.toList=some ps)
  (hr:ps.map (·.1)=List.range len) (h0:0<c.P.cellsOf e) (hlen:0<len) (hsm:len*c.P.cellsOf e≤16777216) (hz:((c.P.info? e).bind (·.zero)).isSome=true)
  (hes:bV false A ((ps.map (·.2)).map (ah A))=some es) (hev:∀ x∈es,x.size=c.P.cellsOf e) (hn:A.o n=none) (hnl:n<1000000) (ae:∀ k,o.dst=some k→k<c.n) :
  iw c A o ((A.aO n (.bR e (c.P.cellsOf e) es)).aP o.dst (.own n es.length)):=by
 intro a w D E hs;obtain ⟨hfor,hidx⟩:=yM hs parts.toList ps hp;obtain ⟨hs1,hw⟩:=hs.oc;have hrv:=lY (E':=E) hs (fun _ _ h=>h) hw _ es _ (mu _ _ hfor (pY hes)) hes;obtain ⟨k1,k2,k3⟩:=zl es _ hrv;have k3:=k3 _ hev;have hl:parts.toList.length=len:=by
  have:=congrArg List.length hidx;rw[hr] at this;simpa using this.symm
 have hesl:es.length=len:=by rw[←k2];simp[hl]
 obtain ⟨z,hz⟩:=zw2.1 hz;obtain ⟨ie,hie,hzz⟩:=Option.bind_eq_some_iff.1 hz;have hsz:ie.size=c.P.cellsOf e:=by simp[Program.cellsOf,hie]
 have hfill:Instr.fill (fun i=>some (i*ie.size,ie.size)) ((Array.range (len*ie.size)).map (z.cells[· % z.cells.size]!)) (parts.map fun (q:Nat×Operand)=>(q.1,a.eval q.2)).toList =
   some ((parts.toList.map fun p=>a.eval p.2).flatMap fun v=>v.cells.toList).toArray:=by
  have hpz:(parts.map fun (q:Nat×Operand)=>(q.1,a.eval q.2)).toList=((parts.toList.map fun p=>a.eval p.2).zipIdx 0).map fun x=>(x.2,x.1):=by
   have:=NI (parts.toList.map fun (q:Nat×Operand)=>(q.1,a.eval q.2)) (by simp only[List.map_map,zy3];rw[hl,←hr,hidx];rfl);rw[Array.toList_map,this,List.map_map];rfl
  rw[hpz,hsz];exact Great.fill_whole h0 _ _ (fun v hv=>k3 v hv) (by simp[hl])
 have hrun:=run_buildSlice (P:=c.P) w t e len (parts.map fun (q:Nat×Operand)=>(q.1,a.eval q.2)) _ ie z hu hie hzz (by rw[hsz];omega) (by rw[hsz];exact Nat.ne_of_gt (Nat.mul_pos hlen h0)) hfill;generalize hcells:((parts.toList.map fun p=>a.eval p.2).flatMap fun v=>v.cells.toList)=cells at *;have hcl:cells.length=es.length*c.P.cellsOf e:=by rw[aL.length _ _ k1,I.iq _ hev]
 have hmx:es.length≤maxLen:=by
  unfold maxLen;have:len≤len*c.P.cellsOf e:=Nat.le_mul_of_pos_right _ h0;omega
 have hs2:=hs1.tZ (d:=n) (x:=.bR e (c.P.cellsOf e) es) (o':=.cells cells.toArray e) (e:=.rw (some (w.heap.size,es.length)) es.length) (.inr hnl) hn rfl fun hl hno =>
  ⟨some (w.heap.size,es.length),by simp,hev,cells.toArray,cells,[],.inl hs.dQ.size,heap_alloc_new w _,by simp,aL.bN hl _ _ k1,by simpa using hcl,zz8 _,hmx,fun o ho=>absurd ho (hno o)⟩
 refine ⟨_,.inl ⟨_,by simp only[execOp,ho,Sem.run_bind];rw[hrun];rfl,_,_,hs2.aP ae ⟨_,by simp[bM,I.isAgg];rfl,?_⟩⟩⟩;simp only[ai,if_true];exact ⟨some (w.heap.size,es.length),es.length,rfl,zz8 _,⟨_,_,_,rfl⟩,fun _=>by rw[hesl]⟩
theorem lM{P:Program}{m:Nat}{bd:Array Oper}{l:List Oper}{gs:List aC}(h:gJ P m bd (o::l)=some gs):∃ g gs',gs=g::gs'∧oB P m bd o=some g∧gJ P m bd l=some gs':=by
 simp only[gJ] at h;split at h
 ·rename_i g gs' h1 h2;simp only[t7] at h;exact ⟨g,gs',h.symm,h1,h2⟩
 ·cases h
theorem Qn{P:Program}{e esz:Nat}{xs:List aM}(hg:dz P o=some (.bs e esz xs)):∃ t len parts ps,o.op=.buildSlice t len parts∧P.underlying t=some (.slice e)∧kv P parts.toList=some ps∧esz=P.cellsOf e∧xs=ps.map (·.2) ∧
  ps.map (·.1)=List.range len∧0<P.cellsOf e∧0<len∧len*P.cellsOf e≤16777216∧((P.info? e).bind (·.zero)).isSome=true:=by
 unfold dz at hg;split at hg
 all_goals first
  |(cases hg;done)
  |((repeat' split at hg) <;>first
    |(cases hg;done)
    |(simp only[zz1,reduceCtorEq,and_false,exists_false] at hg;done)
    |(simp only[t7] at hg;done)
    |skip)
 simp only[t7,b9.bs.injEq] at hg;obtain ⟨rfl,rfl,rfl⟩:=hg;refine ⟨_,_,_,_,by assumption,by assumption,by assumption,rfl,rfl,by assumption⟩
theorem J.aiA{ts:List (Nat×I)}{os:List (Nat×aj)}{a b d n T esz:Nat}{g1:b9}{x x':I}{y:aR}{Q:Exit→af→Prop}(hb:bt (au ts os) g1=some x)(hx:bV false (au ((a,x)::ts) os) [x]=some [x'])(hxs:x'.size=esz)(hn:ak os n=none)(hnl:n<1000000)
  (h:J c y Q (au ((d,.own n 1)::(b,.own n 1)::(a,x)::ts) ((n,.bR T esz [x'])::os))) :
  J c (.seq (.bW none [⟨some a,g1,none⟩,⟨some b,.bs T esz [.t a],none⟩,⟨some d,.mv (.t b),none⟩]) y) Q (au ts os):=by
 refine J.seq fun code hc a' w hs =>?_;cases code <;>simp only[eV] at hc <;>try (first | (cases hc;done) | ((repeat' split at hc) <;>cases hc;done))
 rename_i id bd draw;split at hc
 case h_2=>cases hc
 rename_i gs' hgs;split at hc
 case isFalse=>cases hc
 simp only[t7,aR.bW.injEq] at hc;obtain ⟨hdr,rfl⟩:=hc;cases draw with
 |true=>simp at hdr
 |false =>
  refine wpIn_region_list ?_;generalize bd.toList=l at hgs;rcases l with _ | ⟨o1,_ | ⟨o2,_ | ⟨o3,_ | ⟨o4,l⟩⟩⟩⟩
  ·simp[gJ] at hgs
  ·obtain ⟨p1,r1,e1,h1,q1⟩:=lM hgs;simp only[gJ,t7] at q1;subst q1;simp at e1
  ·obtain ⟨p1,r1,e1,h1,q1⟩:=lM hgs;obtain ⟨g2,dP,e2,h2,q2⟩:=lM q1;simp only[gJ,t7] at q2;subst q2 e2;simp at e1
  case' cons.cons.cons.cons =>
   obtain ⟨p1,r1,e1,h1,q1⟩:=lM hgs;obtain ⟨g2,dP,e2,h2,q2⟩:=lM q1;obtain ⟨g3,qz,e3,h3,q3⟩:=lM q2;obtain ⟨g4,amv,e4,h4,q4⟩:=lM q3;subst e4 e3 e2;simp at e1
  obtain ⟨p1,r1,e1,h1,q1⟩:=lM hgs;obtain ⟨g2,dP,e2,h2,q2⟩:=lM q1;obtain ⟨g3,qz,e3,h3,q3⟩:=lM q2;simp only[gJ,t7] at q3;subst q3 e3 e2;simp only[List.cons.injEq,and_true] at e1;obtain ⟨rfl,rfl,rfl⟩:=e1;obtain ⟨a1,a2,a3,a4⟩:=pM h1;obtain ⟨b1,b2,b3,b4⟩:=pM h2;obtain ⟨c1,c2,c3,jG⟩:=pM h3;simp only at a1 a2 b1 b2 c1 c2;have w1:∀ a:Act,Region.wanted o1 (yielded bd a.tmps)=true:=fun a=>by
   rcases a4 with ⟨a5,_⟩ | ⟨_,_,_,_,_,a5⟩
   ·simp[Region.wanted,a5]
   ·simp at a5
  have w2:∀ a:Act,Region.wanted o2 (yielded bd a.tmps)=true:=fun a=>by
   rcases b4 with ⟨a5,_⟩ | ⟨_,_,_,_,_,a5⟩
   ·simp[Region.wanted,a5]
   ·simp at a5
  have w3:∀ a:Act,Region.wanted o3 (yielded bd a.tmps)=true:=fun a=>by
   rcases jG with ⟨a5,_⟩ | ⟨_,_,_,_,_,a5⟩
   ·simp[Region.wanted,a5]
   ·simp at a5
  simp only[wpListIn,w1,if_true];have d1:=(yR a1 hb).does a3;rw[←a2] at d1;refine d1.wp a1 hs fun a'' w' hs' =>?_;simp only[w2,if_true];obtain ⟨t,len,prs,ps,k1,k2,k3,k4,k5,k6,k7,k8,k9,k10⟩:=Qn b1;subst k4;have d2:=Xk (A:=au ((a,x)::ts) os) (n:=n) (es:=[x']) k1 k2 k3 k6 k7 k8 k9 k10 (by rw[←k5];simpa[wA,au,bO] using hx) (by simpa using hxs) hn hnl b3;rw[←b2] at d2;refine d2.wp b1 hs' fun a3' w3' hs3 =>?_;simp only[w3,if_true];have d3:=(yR (A:=au ((b,.own n 1)::(a,x)::ts) ((n,.bR T (c.P.cellsOf T) [x'])::os)) c1 (x:=.own n 1) (by simp[bt,wA,au,bO])).does c3;rw[←c2] at d3;refine d3.wp c1 hs3 fun a4 w4 hs4 =>?_;exact ⟨_,h,hs4⟩
end
end Go.Abs
namespace Go.Abs.C
open Go Go.Abs
abbrev o(a:Nat)(x:b9):aC:=⟨some a,x,none⟩
abbrev bF(a:Nat)(x:b9)(k:Nat):aC:=⟨some a,x,some (k,true)⟩
abbrev on(a:Nat)(x:b9)(k:Nat):aC:=⟨some a,x,some (k,false)⟩
abbrev p(x:b9):aC:=⟨none,x,none⟩
abbrev al(n:Int):aM:=.c (.int .i64 n)
abbrev T:aM:=.c (.bool true)
abbrev bp:aM:=.c (.bool false)
abbrev m(a b:Nat):aC:=⟨some a,.mv (.t b),none⟩
abbrev cz(a b k:Nat):aC:=⟨some a,.mv (.t b),some (k,true)⟩
abbrev eC(a b k:Nat):aC:=⟨some a,.mv (.t b),some (k,false)⟩
abbrev aX(a:Nat)(n:Int):aC:=⟨some a,.mv (.c (.int .i64 n)),none⟩
abbrev l(a b:Nat):aC:=⟨some a,.ld none (.t b),none⟩
abbrev du(a b k:Nat):aC:=⟨some a,.ld none (.t b),some (k,true)⟩
abbrev eU(a b k:Nat):aC:=⟨some a,.ld none (.t b),some (k,false)⟩
abbrev L(a s b:Nat):aC:=⟨some a,.ld (some s) (.t b),none⟩
abbrev f(a b c d:Nat):aC:=⟨some a,.fa b c (.t d),none⟩
abbrev cT(a b c d k:Nat):aC:=⟨some a,.fa b c (.t d),some (k,true)⟩
abbrev fn(a b c d k:Nat):aC:=⟨some a,.fa b c (.t d),some (k,false)⟩
abbrev ad(a b:Nat)(n:Int):aC:=⟨some a,.bin .add (.t b) (.c (.int .i64 n)),none⟩
abbrev lt(a b c:Nat):aC:=⟨some a,.bin .lss (.t b) (.t c),none⟩
abbrev and(a b c:Nat):aC:=⟨some a,.pick (.t b) (.t c) (.c (.bool false)),none⟩
abbrev or(a b c:Nat):aC:=⟨some a,.pick (.t b) (.c (.bool true)) (.t c),none⟩
abbrev no(a b:Nat):aC:=⟨some a,.un .not (.t b),none⟩
abbrev b(a c:Nat):aC:=⟨some a,.box (.t c),none⟩
abbrev s(x y:aR):aR:=.seq x y
abbrev r(g:List aC):aR:=.bW none g
abbrev bI(P:Program)(f:Func)(c:aR):Prop:=f.body.bind (eV P f.ntmps)=some c
abbrev bJ(P:Program)(f:Func)(r:List bg):Prop:=iV P f.results.toList=some r
abbrev bG(P:Program)(n:FuncId):Prop:=gU P n=true
theorem e{α:Type}{a b:α}(h:a=b):a=b:=h
end Go.Abs.C
namespace Go.Proofs.YtcldiigclhgafaaGreat
open Go Go.Abs Go.Abs.C
def aed:=[b 5 2,o 6 (.mv bp)]
def aee:=[m 24 0,f 25 2 2 5,l 26 25,f 27 3 3 5,l 28 27,o 29 (.call 26 [.t 24,.t 26,.t 28]),m 23 29,o 30 (.ext (.t 23) 0),o 31 (.ext (.t 23) 1),m 7 30,m 8 31]
def aef:=[m 33 0,f 34 2 2 5,l 35 34,f 36 3 3 5,l 37 36,o 38 (.call 29 [.t 33,.t 35,.t 37]),m 32 38,o 39 (.ext (.t 32) 0),o 40 (.ext (.t 32) 1),m 9 39,m 10 40]
def aeg:=[m 42 0,m 43 1,f 44 2 2 5,l 45 44,f 46 3 3 5,l 47 46,o 48 (.call 27 [.t 42,.t 43,.t 45,.t 47]),m 41 48,o 49 (.ext (.t 41) 0),o 50 (.ext (.t 41) 1),m 11 49,m 12 50]
def aeh:=[m 52 0,m 53 1,L 54 4 5,o 55 (.call 30 [.t 52,.t 53,.t 54]),m 51 55,o 56 (.ext (.t 51) 0),o 57 (.ext (.t 51) 1),m 13 56,m 14 57]
def aei:=[m 59 0,f 60 0 0 5,l 61 60,f 62 1 1 5,l 63 62,f 64 2 2 5,l 65 64,f 66 3 3 5,l 67 66,o 68 (.call 28 [.t 59,.t 61,.t 63,.t 65,.t 67]),m 58 68,o 69 (.ext (.t 58) 0),o 70 (.ext (.t 58) 1),m 15 69,m 16 70]
def aej:=[m 72 0,L 73 4 5,o 74 (.call 31 [.t 72,.t 73]),m 71 74,o 75 (.ext (.t 71) 0),o 76 (.ext (.t 71) 1),m 17 75,m 18 76]
def aek:=[m 78 0,m 79 1,f 80 3 3 5,l 81 80,o 82 (.call 32 [.t 78,.t 79,.t 81]),m 77 82,o 83 (.ext (.t 77) 0),o 84 (.ext (.t 77) 1),m 19 83,m 20 84]
def ael:=[m 86 0,m 87 1,f 88 3 3 5,l 89 88,o 90 (.call 33 [.t 86,.t 87,.t 89]),m 85 90,o 91 (.ext (.t 85) 0),o 92 (.ext (.t 85) 1),m 21 91,m 22 92]
def aem:=[m 93 7,m 94 9,o 95 (.call 20 [.t 93,.t 94]),m 96 95,cz 97 8 96,cz 98 10 96,bF 99 (.bin .eql (.t 97) (.t 98)) 96,and 100 96 99,m 101 100,cz 102 11 101,cz 103 13 101,bF 104 (.bin .eql (.t 102) (.t 103)) 101,and 105 101 104,m 106 105,cz 107 12 106,cz 108 14 106,bF 109 (.bin .eql (.t 107) (.t 108)) 106,and 110 106 109,m 111 110,cz 112 15 111,cz 113 17 111,bF 114 (.bin .eql (.t 112) (.t 113)) 111,and 115 111 114,m 116 115,cz 117 16 116,cz 118 18 116,bF 119 (.bin .eql (.t 117) (.t 118)) 116,and 120 116 119,m 121 120,cz 122 19 121,cz 123 21 121,bF 124 (.call 20 [.t 122,.t 123]) 121,and 125 121 124,m 126 125,cz 127 20 126,cz 128 22 126,bF 129 (.bin .eql (.t 127) (.t 128)) 126,and 130 126 129,m 131 130,bF 132 (.call 22 []) 131,and 133 131 132,m 6 133]
def jZ:aR:=(s (r aed) (s (r aee) (s (r aef) (s (r aeg) (s (r aeh) (s (r aei) (s (r aej) (s (r aek) (s (r ael) (s (r aem) .ret))))))))))
def LM:List bg:=[.tmp 6]
theorem TD:bI Tryz.prog Tryz.f5 jZ:=e (by kernel_rfl)
theorem VL:bJ Tryz.prog Tryz.f5 LM:=e (by kernel_rfl)
theorem RJ:bG Tryz.prog 5:=e (by kernel_rfl)
def Z9:=[b 4 0,o 8 (.mv (.c (.nils 1))),aX 9 0]
def aaa:=[L 13 7 4,o 14 (.call 66 [.t 13]),m 10 14]
def aac:=[m 15 10,o 16 (.bin .neq (.t 15) (al 0))]
def aad:=[m 17 10,o 8 (.mv (.c (.nils 1))),m 9 17]
def aae:=[m 18 1,m 19 2,o 20 (.bld [.int .i64 0,.int .i64 0] [(0,(.t 19)),(1,(al 9999))]),o 21 (.bs 28 2 [.t 20]),m 22 3,o 23 (.bs 3 1 [.t 22]),o 24 (.call 67 [.t 18,.t 21,.t 23]),m 11 24]
def aaf:=[m 25 11,o 26 (.bin .neq (.t 25) (al 0))]
def aag:=[m 27 11,o 8 (.mv (.c (.nils 1))),m 9 27]
def aah:=[m 28 1,m 29 3,o 30 (.call 68 [.t 28,.t 29]),o 31 (.nilC (.t 30)),f 32 0 0 31,l 33 32,m 34 2,o 35 (.lk (.i .i64) (.nilp) false (.t 33) (.t 34)),m 12 35]
def aai:=[m 36 12,o 37 (.ptrE false (.t 36) (.c (.nilp)))]
def aaj:=[o 8 (.mv (.c (.nils 1))),aX 9 42]
def aab:=[L 38 7 4,m 39 12,o 40 (.call 69 [.t 38,.t 39]),m 8 40,aX 9 0]
def Bh:aR:=(s (r Z9) (s (s (r aaa) (s (r aac) (.cond (.t 16) (s (r aad) .ret) .skip))) (s (s (r aae) (s (r aaf) (.cond (.t 26) (s (r aag) .ret) .skip))) (s (r aah) (s (s (r aai) (.cond (.t 37) (s (r aaj) .ret) .skip)) (s (r aab) .ret))))))
def KS:List bg:=[.tmp 8,.tmp 9]
theorem SI:bI Tryz.prog Tryz.f14 Bh:=e (by kernel_rfl)
theorem UR:bJ Tryz.prog Tryz.f14 KS:=e (by kernel_rfl)
theorem QR:bG Tryz.prog 14:=e (by kernel_rfl)
def aao:=[b 3 0,o 6 (.mv (.c (.nils 1))),aX 7 0]
def aap:=[L 10 7 3,o 11 (.call 66 [.t 10]),m 8 11]
def aaq:=[m 12 8,o 13 (.bin .neq (.t 12) (al 0))]
def aar:=[m 14 8,o 6 (.mv (.c (.nils 1))),m 7 14]
def aas:=[m 15 1,m 16 2,o 17 (.bs 3 1 [.t 16]),o 18 (.call 67 [.t 15,(.c (.nils 2)),.t 17]),m 9 18]
def aat:=[m 19 9,o 20 (.bin .neq (.t 19) (al 0))]
def aau:=[m 21 9,o 6 (.mv (.c (.nils 1))),m 7 21]
def aav:=[m 22 1,m 23 2,o 24 (.call 68 [.t 22,.t 23]),o 25 (.mk 73 [.t 3]),o 26 (.call 72 [.t 24,.t 25]),m 6 26,aX 7 0]
def Bt:aR:=(s (r aao) (s (s (r aap) (s (r aaq) (.cond (.t 13) (s (r aar) .ret) .skip))) (s (s (r aas) (s (r aat) (.cond (.t 20) (s (r aau) .ret) .skip))) (s (r aav) .ret))))
def K3:List bg:=[.tmp 6,.tmp 7]
theorem SU:bI Tryz.prog Tryz.f16 Bt:=e (by kernel_rfl)
theorem U3:bJ Tryz.prog Tryz.f16 K3:=e (by kernel_rfl)
theorem Q1:bG Tryz.prog 16:=e (by kernel_rfl)
def abr:=[b 4 0,o 8 (.mv (.c (.nils 2))),aX 9 0]
def abt:=[L 17 7 4,m 18 1,m 19 2,m 20 3,o 21 (.call 14 [.t 17,.t 18,.t 19,.t 20]),m 16 21,o 22 (.ext (.t 16) 0),o 23 (.ext (.t 16) 1),m 10 22,m 11 23]
def abx:=[m 24 11,o 25 (.bin .neq (.t 24) (al 0))]
def aby:=[m 26 11,o 8 (.mv (.c (.nils 2))),m 9 26]
def abz:=[m 27 1,m 28 3,o 29 (.call 68 [.t 27,.t 28]),o 30 (.nilC (.t 29)),f 31 0 0 30,l 32 31,m 33 2,o 34 (.lk (.i .i64) (.nilp) false (.t 32) (.t 33)),m 12 34]
def abA:=[o 13 (.mv (.c (.nils 2)))]
def abB:=[m 35 1,o 36 (.len (.t 35)),aX 37 0]
def abC:=[lt 38 37 36]
def abD:=[m 39 37,o 40 (.is 17 (.t 35) (.t 37)),L 41 17 40,o 15 (.alloc (.agg [.agg [.int .i64 0,.int .i64 0],.int .i64 0,.int .i64 0,.int .i64 0,.int .i64 0,.int .i64 0,.int .i64 0,.int .i64 0,.agg [.int .i64 0,.int .i64 0,.int .i64 0,.int .i64 0,.int .i64 0,.int .i64 0],.agg [.int .i64 0,.int .i64 0]])),m 14 39,p (.br (some 17) (.t 15) (.t 41))]
def abE:=[L 42 7 4,m 43 12,m 44 1,m 45 14,o 46 (.call 78 [.t 44,.t 45]),m 47 3,o 48 (.call 68 [.t 46,.t 47]),o 49 (.nilC (.t 48)),f 50 0 0 49,l 51 50,m 52 2,o 53 (.lk (.i .i64) (.nilp) false (.t 51) (.t 52)),o 54 (.call 77 [.t 42,.t 43,.t 53]),no 55 54]
def WC:=some [[],[],[],[],[2,3],[],[4,5,4],[6],[7],[8],[],[9,10],[0,1,11,6],[12]]
def abu:=[m 56 13,f 57 0 0 15,L 58 2 57,o 59 (.bs 65 2 [.t 58]),o 60 (.c7 65 2 16 (.agg [.int .i64 0,.int .i64 0]) (.t 56) (.t 59)),m 13 60]
def abv:=[ad 61 37 1,m 37 61]
def abw:=[m 62 13,m 8 62,aX 9 0]
def BM:aR:=(s (r abr) (s (s (r abt) (s (r abx) (.cond (.t 25) (s (r aby) .ret) .skip))) (s (r abz) (s (r abA) (s (s (r abB) (.block 0 (.loop (s (r abC) (s (.cond (.t 38) .skip (.exit 0)) (s (.block 1 (s (r abD) (s (.bW WC abE) (.cond (.t 55) (r abu) .skip)))) (r abv))))))) (s (r abw) .ret))))))
def Lm:List bg:=[.tmp 8,.tmp 9]
theorem Td:bI Tryz.prog Tryz.f18 BM:=e (by kernel_rfl)
theorem Vm:bJ Tryz.prog Tryz.f18 Lm:=e (by kernel_rfl)
theorem Rk:bG Tryz.prog 18:=e (by kernel_rfl)
def HB:=[o 4 (.mv bp)]
def HC:=[m 6 0,o 7 (.len (.t 6)),m 8 1,o 9 (.len (.t 8)),o 10 (.bin .neq (.t 7) (.t 9))]
def HD:=[o 4 (.mv bp)]
def HE:=[aX 5 0]
def HF:=[m 11 5,m 12 0,o 13 (.len (.t 12)),lt 14 11 13]
def HG:=[m 17 0,m 18 5,o 19 (.is 1 (.t 17) (.t 18)),l 20 19,m 21 1,m 22 5,o 23 (.is 1 (.t 21) (.t 22)),l 24 23,o 25 (.bin .neq (.t 20) (.t 24))]
def WN:=some [[],[],[0,1],[2],[],[],[4,5],[6],[3,7]]
def HI:=[o 4 (.mv bp)]
def HJ:=[m 15 5,ad 16 15 1,m 5 16]
def HK:=[o 4 (.mv T)]
def BU:aR:=(s (r HB) (s (s (r HC) (.cond (.t 10) (s (r HD) .ret) .skip)) (s (s (r HE) (.block 0 (.loop (s (s (r HF) (.cond (.t 14) .skip (.exit 0))) (s (.block 1 (s (.bW WN HG) (.cond (.t 25) (s (r HI) .ret) .skip))) (r HJ)))))) (s (r HK) .ret))))
def Lu:List bg:=[.tmp 4]
theorem Tl:bI Tryz.prog Tryz.f20 BU:=e (by kernel_rfl)
theorem Vu:bJ Tryz.prog Tryz.f20 Lu:=e (by kernel_rfl)
theorem Rs:bG Tryz.prog 20:=e (by kernel_rfl)
def acg:=[o 4 (.mv bp)]
def ach:=[m 6 0,o 7 (.len (.t 6)),m 8 1,o 9 (.len (.t 8)),o 10 (.bin .neq (.t 7) (.t 9))]
def aci:=[o 4 (.mv bp)]
def acj:=[aX 5 0]
def ack:=[m 11 5,m 12 0,o 13 (.len (.t 12)),lt 14 11 13]
def acm:=[m 17 0,m 18 5,o 19 (.is 2 (.t 17) (.t 18)),L 20 2 19,m 21 1,m 22 5,o 23 (.is 2 (.t 21) (.t 22)),L 24 2 23,o 25 (.eqv (.br [(.i .i64),(.i .i64)]) true (.t 20) (.t 24))]
def WR:=some [[],[],[0,1],[2],[],[],[4,5],[6],[3,7]]
def acn:=[o 4 (.mv bp)]
def aco:=[m 15 5,ad 16 15 1,m 5 16]
def acp:=[o 4 (.mv T)]
def BX:aR:=(s (r acg) (s (s (r ach) (.cond (.t 10) (s (r aci) .ret) .skip)) (s (s (r acj) (.block 0 (.loop (s (s (r ack) (.cond (.t 14) .skip (.exit 0))) (s (.block 1 (s (.bW WR acm) (.cond (.t 25) (s (r acn) .ret) .skip))) (r aco)))))) (s (r acp) .ret))))
def Lx:List bg:=[.tmp 4]
theorem Tp:bI Tryz.prog Tryz.f21 BX:=e (by kernel_rfl)
theorem Vx:bJ Tryz.prog Tryz.f21 Lx:=e (by kernel_rfl)
theorem Rv:bG Tryz.prog 21:=e (by kernel_rfl)
def acq:=[o 0 (.mv bp)]
def acr:=[o 18 (.call 81 []),m 1 18]
def acv:=[o 19 (.call 82 []),o 2 (.alloc (.agg [.agg [.int .i64 0,.int .i64 0,.int .i64 0,.int .i64 0,.int .i64 0],.int .i64 0,.nils 7])),p (.br (some 7) (.t 2) (.t 19))]
def acw:=[m 21 1,o 22 (.call 27 [.t 21,(al 10),(al 6),(al 7)]),m 20 22,o 23 (.ext (.t 20) 0),o 24 (.ext (.t 20) 1),m 3 23,m 4 24]
def acx:=[L 26 7 2,m 27 1,o 28 (.call 14 [.t 26,.t 27,(al 20),(al 9)]),m 25 28,o 29 (.ext (.t 25) 0),o 30 (.ext (.t 25) 1),m 5 29,m 6 30]
def acy:=[L 32 7 2,m 33 1,o 34 (.call 14 [.t 32,.t 33,(al 20),(al 14)]),m 31 34,o 35 (.ext (.t 31) 0),o 36 (.ext (.t 31) 1),m 7 35,m 8 36]
def acz:=[L 38 7 2,m 39 1,o 40 (.call 16 [.t 38,.t 39,(al 11)]),m 37 40,o 41 (.ext (.t 37) 0),o 42 (.ext (.t 37) 1),m 9 41,m 10 42]
def acA:=[m 44 1,o 45 (.call 28 [.t 44,(al 2),(al 3),(al 7),(al 7)]),m 43 45,o 46 (.ext (.t 43) 0),o 47 (.ext (.t 43) 1),m 11 46,m 12 47]
def acB:=[m 49 1,o 50 (.call 26 [.t 49,(al 12),(al 12)]),m 48 50,o 51 (.ext (.t 48) 0),o 52 (.ext (.t 48) 1),m 13 51,m 14 52]
def acC:=[L 54 7 2,m 55 1,o 56 (.call 18 [.t 54,.t 55,(al 20),(al 9)]),m 53 56,o 57 (.ext (.t 53) 0),o 58 (.ext (.t 53) 1),m 15 57,m 16 58]
def acs:=[m 59 4,o 60 (.bin .eql (.t 59) (al 0)),m 61 60,cz 62 6 61,bF 63 (.bin .eql (.t 62) (al 0)) 61,and 64 61 63,m 65 64,cz 66 8 65,bF 67 (.bin .eql (.t 66) (al 0)) 65,and 68 65 67,m 69 68,cz 70 10 69,bF 71 (.bin .eql (.t 70) (al 0)) 69,and 72 69 71,m 73 72,cz 74 12 73,bF 75 (.bin .eql (.t 74) (al 0)) 73,and 76 73 75,m 77 76,cz 78 14 77,bF 79 (.bin .eql (.t 78) (al 0)) 77,and 80 77 79,m 81 80,cz 82 16 81,bF 83 (.bin .eql (.t 82) (al 0)) 81,and 84 81 83,m 17 84]
def acu:=[m 85 17,m 86 85,cz 87 3 86,bF 88 (.bin .eql (.t 87) (al 2)) 86,and 89 86 88,m 90 89,cz 91 5 90,bF 92 (.bs 3 1 [(al 3)]) 90,bF 93 (.call 20 [.t 91,.t 92]) 90,and 94 90 93,m 95 94,cz 96 7 95,bF 97 (.bs 3 1 [(al 1),(al 2),(al 3)]) 95,bF 98 (.call 20 [.t 96,.t 97]) 95,and 99 95 98,m 100 99,cz 101 9 100,bF 102 (.bs 3 1 [(al 11)]) 100,bF 103 (.call 20 [.t 101,.t 102]) 100,and 104 100 103,m 105 104,cz 106 11 105,bF 107 (.bin .eql (.t 106) (al 1)) 105,and 108 105 107,m 109 108,cz 110 13 109,bF 111 (.bs 3 1 [(al 11),(al 20)]) 109,bF 112 (.call 20 [.t 110,.t 111]) 109,and 113 109 112,m 114 113,cz 115 15 114,bF 116 (.bld [.int .i64 0,.int .i64 0] [(1,(al 2))]) 114,bF 117 (.bld [.int .i64 0,.int .i64 0] [(1,(al 5))]) 114,bF 118 (.bs 65 2 [.t 116,.t 117]) 114,bF 119 (.call 21 [.t 115,.t 118]) 114,and 120 114 119,m 0 120]
def B4:aR:=(s (r acq) (s (r acr) (s (r acv) (s (r acw) (s (r acx) (s (r acy) (s (r acz) (s (r acA) (s (r acB) (s (r acC) (s (r acs) (s (r acu) .ret))))))))))))
def LC:List bg:=[.tmp 0]
theorem Tu:bI Tryz.prog Tryz.f22 B4:=e (by kernel_rfl)
theorem VC:bJ Tryz.prog Tryz.f22 LC:=e (by kernel_rfl)
theorem RA:bG Tryz.prog 22:=e (by kernel_rfl)
def acD:=[o 6 (.mv (.c (.nils 1))),aX 7 0]
def acE:=[m 11 0,m 12 1,m 13 2,o 14 (.bs 3 1 [.t 12,.t 13]),o 15 (.call 67 [.t 11,(.c (.nils 2)),.t 14]),m 8 15]
def acF:=[m 16 8,o 17 (.bin .neq (.t 16) (al 0))]
def acG:=[m 18 8,o 6 (.mv (.c (.nils 1))),m 7 18]
def acH:=[m 20 0,m 21 1,m 22 2,o 23 (.call 88 [.t 20,.t 21,.t 22]),m 19 23,o 24 (.ext (.t 19) 0),o 25 (.ext (.t 19) 1),m 9 24,m 10 25]
def acI:=[m 26 9,o 27 (.call 72 [.t 26,(.c (.func 89 []))]),m 6 27,aX 7 0]
def B5:aR:=(s (r acD) (s (s (r acE) (s (r acF) (.cond (.t 17) (s (r acG) .ret) .skip))) (s (r acH) (s (r acI) .ret))))
def LD:List bg:=[.tmp 6,.tmp 7]
theorem Tv:bI Tryz.prog Tryz.f26 B5:=e (by kernel_rfl)
theorem VD:bJ Tryz.prog Tryz.f26 LD:=e (by kernel_rfl)
theorem RB:bG Tryz.prog 26:=e (by kernel_rfl)
def acJ:=[aX 8 0,aX 9 0]
def acK:=[m 14 0,m 15 1,o 16 (.bld [.int .i64 0,.int .i64 0] [(0,(.t 15)),(1,(al 9999))]),o 17 (.bs 28 2 [.t 16]),m 18 2,m 19 3,o 20 (.bs 3 1 [.t 18,.t 19]),o 21 (.call 67 [.t 14,.t 17,.t 20]),m 10 21]
def acM:=[m 22 10,o 23 (.bin .neq (.t 22) (al 0))]
def acN:=[m 24 10,aX 8 0,m 9 24]
def acO:=[m 26 0,m 27 2,m 28 3,o 29 (.call 88 [.t 26,.t 27,.t 28]),m 25 29,o 30 (.ext (.t 25) 0),o 31 (.ext (.t 25) 1),m 11 30,m 12 31]
def acP:=[m 32 11,o 33 (.nilC (.t 32)),f 34 0 0 33,l 35 34,m 36 1,o 37 (.lk (.i .i64) (.nilp) false (.t 35) (.t 36)),m 13 37]
def acQ:=[m 39 13,o 40 (.ptrE false (.t 39) (.c (.nilp))),m 38 40]
def acR:=[aX 8 0,aX 9 42]
def acS:=[m 42 13,o 43 (.call 90 [.t 42]),m 41 43]
def acT:=[aX 8 0,aX 9 0]
def acL:=[m 44 13,o 45 (.nilC (.t 44)),f 46 0 0 45,f 47 3 3 46,l 48 47,m 8 48,aX 9 0]
def B6:aR:=(s (r acJ) (s (s (r acK) (s (r acM) (.cond (.t 23) (s (r acN) .ret) .skip))) (s (r acO) (s (r acP) (s (.block 0 (s (r acQ) (.cond (.t 38) (s (r acR) .ret) (s (r acS) (.cond (.t 41) (s (r acT) .ret) .skip))))) (s (r acL) .ret))))))
def LF:List bg:=[.tmp 8,.tmp 9]
theorem Tw:bI Tryz.prog Tryz.f27 B6:=e (by kernel_rfl)
theorem VE:bJ Tryz.prog Tryz.f27 LF:=e (by kernel_rfl)
theorem RC:bG Tryz.prog 27:=e (by kernel_rfl)
def acU:=[b 6 1,b 7 2,aX 10 0,aX 11 0]
def acV:=[m 15 0,l 16 6,o 17 (.bld [.int .i64 0,.int .i64 0] [(0,(.t 16)),(1,(al 99))]),l 18 7,o 19 (.bld [.int .i64 0,.int .i64 0] [(0,(.t 18)),(1,(al 9))]),o 20 (.bs 28 2 [.t 17,.t 19]),m 21 3,m 22 4,o 23 (.bs 3 1 [.t 21,.t 22]),o 24 (.call 67 [.t 15,.t 20,.t 23]),m 12 24]
def acW:=[m 25 12,o 26 (.bin .neq (.t 25) (al 0))]
def acX:=[m 27 12,aX 10 0,m 11 27]
def acY:=[m 29 0,m 30 3,m 31 4,o 32 (.call 88 [.t 29,.t 30,.t 31]),m 28 32,o 33 (.ext (.t 28) 0),o 34 (.ext (.t 28) 1),m 13 33,m 14 34]
def acZ:=[m 35 13,o 36 (.mk 91 [.t 6,.t 7]),o 37 (.call 72 [.t 35,.t 36]),o 38 (.len (.t 37)),m 10 38,aX 11 0]
def B7:aR:=(s (r acU) (s (s (r acV) (s (r acW) (.cond (.t 26) (s (r acX) .ret) .skip))) (s (r acY) (s (r acZ) .ret))))
def LG:List bg:=[.tmp 10,.tmp 11]
theorem Tx:bI Tryz.prog Tryz.f28 B7:=e (by kernel_rfl)
theorem VF:bJ Tryz.prog Tryz.f28 LG:=e (by kernel_rfl)
theorem RD:bG Tryz.prog 28:=e (by kernel_rfl)
def ac0:=[o 6 (.mv (.c (.nils 1))),aX 7 0]
def ac1:=[m 11 0,o 12 (.call 65 [.t 11]),o 13 (.bin .neq (.t 12) (al 0))]
def ac5:=[o 6 (.mv (.c (.nils 1))),aX 7 41]
def ac6:=[m 14 1,o 15 (.call 75 [.t 14]),no 16 15,m 17 16,eC 18 2 17,on 19 (.call 75 [.t 18]) 17,on 20 (.un .not (.t 19)) 17,or 21 17 20]
def ac7:=[o 6 (.mv (.c (.nils 1))),aX 7 6]
def ac8:=[m 22 0,m 23 2,m 24 1,o 25 (.call 76 [.t 22,.t 23,.t 24]),o 8 (.alloc (.agg [.nils 9,.nils 1])),p (.br (some 2) (.t 8) (.t 25))]
def ac9:=[o 9 (.mv (.c (.nils 1)))]
def ada:=[aX 10 0]
def adb:=[m 26 10,f 27 0 0 8,l 28 27,o 29 (.len (.t 28)),lt 30 26 29]
def ade:=[f 33 0 0 8,l 34 33,m 35 10,o 36 (.is 9 (.t 34) (.t 35)),f 37 6 6 36,l 38 37,o 39 (.bin .lss (.t 38) (al 0))]
def ac2:=[m 40 9,f 41 0 0 8,l 42 41,m 43 10,o 44 (.is 9 (.t 42) (.t 43)),f 45 0 0 44,l 46 45,o 47 (.bs 3 1 [.t 46]),o 48 (.c7 3 1 8 (.int .i64 0) (.t 40) (.t 47)),m 9 48]
def ac3:=[m 31 10,ad 32 31 1,m 10 32]
def ac4:=[m 49 9,m 6 49,aX 7 0]
def B8:aR:=(s (r ac0) (s (s (r ac1) (.cond (.t 13) (s (r ac5) .ret) .skip)) (s (s (r ac6) (.cond (.t 21) (s (r ac7) .ret) .skip)) (s (r ac8) (s (r ac9) (s (s (r ada) (.block 0 (.loop (s (s (r adb) (.cond (.t 30) .skip (.exit 0))) (s (.block 1 (s (r ade) (.cond (.t 39) (r ac2) .skip))) (r ac3)))))) (s (r ac4) .ret)))))))
def LH:List bg:=[.tmp 6,.tmp 7]
theorem Ty:bI Tryz.prog Tryz.f29 B8:=e (by kernel_rfl)
theorem VG:bJ Tryz.prog Tryz.f29 LH:=e (by kernel_rfl)
theorem RE:bG Tryz.prog 29:=e (by kernel_rfl)
def adf:=[b 5 2,aX 6 0,aX 7 0]
def adg:=[m 11 0,m 12 1,f 13 2 2 5,l 14 13,o 15 (.call 92 [.t 11,.t 12,.t 14]),m 8 15]
def adk:=[m 16 8,o 17 (.bin .eql (.t 16) (al 0))]
def adl:=[m 18 0,m 19 1,f 20 3 3 5,l 21 20,o 22 (.call 92 [.t 18,.t 19,.t 21]),m 8 22]
def adm:=[m 23 8,o 24 (.bin .neq (.t 23) (al 0))]
def adn:=[m 25 8,aX 6 0,m 7 25]
def ado:=[m 26 0,f 27 3 3 5,l 28 27,f 29 2 2 5,l 30 29,o 31 (.call 76 [.t 26,.t 28,.t 30]),o 9 (.alloc (.agg [.nils 9,.nils 1])),p (.br (some 2) (.t 9) (.t 31))]
def adp:=[f 32 0 0 9,l 33 32,m 34 1,o 35 (.call 93 [.t 33,.t 34]),m 10 35]
def adq:=[m 36 10,o 37 (.bin .lss (.t 36) (al 0))]
def adr:=[aX 6 0,aX 7 42]
def adh:=[f 38 0 0 9,l 39 38,m 40 10,o 41 (.is 9 (.t 39) (.t 40)),f 42 6 6 41,l 43 42,o 44 (.bin .geq (.t 43) (al 0))]
def adi:=[aX 6 0,aX 7 0]
def adj:=[f 45 0 0 9,l 46 45,m 47 10,o 48 (.is 9 (.t 46) (.t 47)),f 49 3 3 48,l 50 49,m 6 50,aX 7 0]
def B9:aR:=(s (r adf) (s (r adg) (s (s (r adk) (.cond (.t 17) (r adl) .skip)) (s (s (r adm) (.cond (.t 24) (s (r adn) .ret) .skip)) (s (r ado) (s (r adp) (s (s (r adq) (.cond (.t 37) (s (r adr) .ret) .skip)) (s (s (r adh) (.cond (.t 44) (s (r adi) .ret) .skip)) (s (r adj) .ret)))))))))
def LI:List bg:=[.tmp 6,.tmp 7]
theorem Tz:bI Tryz.prog Tryz.f30 B9:=e (by kernel_rfl)
theorem VH:bJ Tryz.prog Tryz.f30 LI:=e (by kernel_rfl)
theorem RF:bG Tryz.prog 30:=e (by kernel_rfl)
def ads:=[b 3 1,aX 4 0,aX 5 0]
def adt:=[m 10 0,o 11 (.call 65 [.t 10]),o 12 (.bin .neq (.t 11) (al 0))]
def adA:=[aX 4 0,aX 5 41]
def adB:=[f 13 0 0 3,l 14 13,o 15 (.call 94 [.t 14,(al 1),(al 99)]),no 16 15,m 17 16,fn 18 1 1 3 17,eU 19 18 17,on 20 (.call 94 [.t 19,(al 1),(al 9)]) 17,on 21 (.un .not (.t 20)) 17,or 22 17 21]
def adC:=[aX 4 0,aX 5 1]
def adD:=[f 23 2 2 3,l 24 23,o 25 (.call 75 [.t 24]),no 26 25,m 27 26,fn 28 3 3 3 27,eU 29 28 27,on 30 (.call 75 [.t 29]) 27,on 31 (.un .not (.t 30)) 27,or 32 27 31]
def adE:=[aX 4 0,aX 5 6]
def adF:=[m 33 0,f 34 3 3 3,l 35 34,f 36 2 2 3,l 37 36,o 38 (.call 76 [.t 33,.t 35,.t 37]),o 6 (.alloc (.agg [.nils 9,.nils 1])),p (.br (some 2) (.t 6) (.t 38))]
def adG:=[aX 7 0]
def adH:=[aX 8 0]
def adu:=[m 39 8,f 40 0 0 6,l 41 40,o 42 (.len (.t 41)),lt 43 39 42]
def adv:=[f 46 0 0 6,l 47 46,m 48 8,o 49 (.is 9 (.t 47) (.t 48)),L 50 9 49,o 9 (.alloc (.agg [.int .i64 0,.int .i64 0,.int .i64 0,.int .i64 0,.int .i64 0,.int .i64 0,.int .i64 0,.bool false,.nils 6])),p (.br (some 9) (.t 9) (.t 50))]
def adw:=[f 51 6 6 9,l 52 51,o 53 (.bin .lss (.t 52) (al 0)),m 54 53,cT 55 3 3 9 54,du 56 55 54,cT 57 0 0 3 54,du 58 57 54,bF 59 (.bin .eql (.t 56) (.t 58)) 54,and 60 54 59,m 61 60,cT 62 1 1 9 61,du 63 62 61,cT 64 1 1 3 61,du 65 64 61,bF 66 (.bin .eql (.t 63) (.t 65)) 61,and 67 61 66]
def adx:=[m 68 7,ad 69 68 1,m 7 69]
def ady:=[m 44 8,ad 45 44 1,m 8 45]
def adz:=[m 70 7,m 4 70,aX 5 0]
def Ca:aR:=(s (r ads) (s (s (r adt) (.cond (.t 12) (s (r adA) .ret) .skip)) (s (s (r adB) (.cond (.t 22) (s (r adC) .ret) .skip)) (s (s (r adD) (.cond (.t 32) (s (r adE) .ret) .skip)) (s (r adF) (s (r adG) (s (s (r adH) (.block 0 (.loop (s (s (r adu) (.cond (.t 43) .skip (.exit 0))) (s (.block 1 (s (r adv) (s (r adw) (.cond (.t 67) (r adx) .skip)))) (r ady)))))) (s (r adz) .ret))))))))
def LJ:List bg:=[.tmp 4,.tmp 5]
theorem TA:bI Tryz.prog Tryz.f31 Ca:=e (by kernel_rfl)
theorem VI:bJ Tryz.prog Tryz.f31 LJ:=e (by kernel_rfl)
theorem RG:bG Tryz.prog 31:=e (by kernel_rfl)
def adI:=[o 6 (.mv (.c (.nils 1))),aX 7 0]
def adJ:=[m 12 0,m 13 1,o 14 (.bld [.int .i64 0,.int .i64 0] [(0,(.t 13)),(1,(al 9999))]),o 15 (.bs 28 2 [.t 14]),m 16 2,o 17 (.bs 3 1 [.t 16]),o 18 (.call 67 [.t 12,.t 15,.t 17]),m 8 18]
def adM:=[m 19 8,o 20 (.bin .neq (.t 19) (al 0))]
def adN:=[m 21 8,o 6 (.mv (.c (.nils 1))),m 7 21]
def adO:=[m 22 0,m 23 2,o 24 (.call 68 [.t 22,.t 23]),o 9 (.alloc (.nilp)),p (.br none (.t 9) (.t 24))]
def adP:=[l 25 9,o 26 (.nilC (.t 25)),f 27 0 0 26,l 28 27,m 29 1,o 30 (.lk (.i .i64) (.nilp) false (.t 28) (.t 29)),o 31 (.ptrE false (.t 30) (.c (.nilp)))]
def adQ:=[o 6 (.mv (.c (.nils 1))),aX 7 42]
def adR:=[o 32 (.jM),o 10 (.alloc (.raw (.map none))),p (.br none (.t 10) (.t 32))]
def adS:=[o 11 (.alloc (.dh))]
def adT:=[o 33 (.mk 95 [.t 10,.t 9,.t 11]),p (.br none (.t 11) (.t 33))]
def adK:=[l 34 11,m 35 1,o 36 (.eF (.t 34) [.t 35])]
def adL:=[l 37 9,o 38 (.mk 96 [.t 10]),o 39 (.call 72 [.t 37,.t 38]),m 6 39,aX 7 0]
def Cb:aR:=(s (r adI) (s (s (r adJ) (s (r adM) (.cond (.t 20) (s (r adN) .ret) .skip))) (s (r adO) (s (s (r adP) (.cond (.t 31) (s (r adQ) .ret) .skip)) (s (r adR) (s (r adS) (s (r adT) (s (r adK) (s (r adL) .ret)))))))))
def LK:List bg:=[.tmp 6,.tmp 7]
theorem TB:bI Tryz.prog Tryz.f32 Cb:=e (by kernel_rfl)
theorem VJ:bJ Tryz.prog Tryz.f32 LK:=e (by kernel_rfl)
theorem RH:bG Tryz.prog 32:=e (by kernel_rfl)
def adU:=[o 6 (.mv (.c (.nils 1))),aX 7 0]
def adV:=[m 13 0,m 14 1,m 15 2,o 16 (.call 92 [.t 13,.t 14,.t 15]),m 8 16]
def ad5:=[m 17 8,o 18 (.bin .neq (.t 17) (al 0))]
def ad6:=[m 19 8,o 6 (.mv (.c (.nils 1))),m 7 19]
def ad7:=[m 20 0,m 21 2,o 22 (.call 76 [.t 20,.t 21,(al 100000)]),o 9 (.alloc (.agg [.nils 9,.nils 1])),p (.br (some 2) (.t 9) (.t 22))]
def ad8:=[f 23 0 0 9,l 24 23,m 25 1,o 26 (.call 93 [.t 24,.t 25]),o 27 (.bin .lss (.t 26) (al 0))]
def ad9:=[o 6 (.mv (.c (.nils 1))),aX 7 42]
def aea:=[m 28 1,o 29 (.bs 3 1 [.t 28]),m 10 29]
def aeb:=[aX 11 0]
def aec:=[m 30 11,m 31 10,o 32 (.len (.t 31)),lt 33 30 32]
def adW:=[aX 12 0]
def adX:=[m 36 12,f 37 0 0 9,l 38 37,o 39 (.len (.t 38)),lt 40 36 39]
def adY:=[f 43 0 0 9,l 44 43,m 45 12,o 46 (.is 9 (.t 44) (.t 45)),f 47 2 2 46,l 48 47,m 49 10,m 50 11,o 51 (.is 1 (.t 49) (.t 50)),l 52 51,o 53 (.bin .eql (.t 48) (.t 52))]
def WS:=some [[],[0],[],[1,2],[3],[4],[],[],[6,7],[8],[5,9]]
def adZ:=[m 54 10,f 55 0 0 9,l 56 55,m 57 12,o 58 (.is 9 (.t 56) (.t 57)),f 59 0 0 58,l 60 59,o 61 (.bs 3 1 [.t 60]),o 62 (.c7 3 1 8 (.int .i64 0) (.t 54) (.t 61)),m 10 62]
def ad0:=[m 41 12,ad 42 41 1,m 12 42]
def ad3:=[m 34 11,ad 35 34 1,m 11 35]
def ad4:=[m 63 10,o 64 (.call 97 [.t 63]),m 6 64,aX 7 0]
def Cc:aR:=(s (r adU) (s (r adV) (s (s (r ad5) (.cond (.t 18) (s (r ad6) .ret) .skip)) (s (r ad7) (s (s (r ad8) (.cond (.t 27) (s (r ad9) .ret) .skip)) (s (r aea) (s (s (r aeb) (.block 0 (.loop (s (s (r aec) (.cond (.t 33) .skip (.exit 0))) (s (.block 1 (s (r adW) (.block 2 (.loop (s (s (r adX) (.cond (.t 40) .skip (.exit 2))) (s (.block 3 (s (.bW WS adY) (.cond (.t 53) (r adZ) .skip))) (r ad0))))))) (r ad3)))))) (s (r ad4) .ret))))))))
def LL:List bg:=[.tmp 6,.tmp 7]
theorem TC:bI Tryz.prog Tryz.f33 Cc:=e (by kernel_rfl)
theorem VK:bJ Tryz.prog Tryz.f33 LL:=e (by kernel_rfl)
theorem RI:bG Tryz.prog 33:=e (by kernel_rfl)
def aen:=[b 1 0,aX 2 0]
def aeo:=[L 3 17 1,o 4 (.call 117 [.t 3]),no 5 4]
def aep:=[aX 2 40]
def aeq:=[aX 2 0]
def Cd:aR:=(s (r aen) (s (s (r aeo) (.cond (.t 5) (s (r aep) .ret) .skip)) (s (r aeq) .ret)))
def LN:List bg:=[.tmp 2]
theorem TE:bI Tryz.prog Tryz.f62 Cd:=e (by kernel_rfl)
theorem VM:bJ Tryz.prog Tryz.f62 LN:=e (by kernel_rfl)
theorem RK:bG Tryz.prog 62:=e (by kernel_rfl)
def HZ:=[b 1 0,aX 2 0]
def aer:=[f 7 3 4 1,l 8 7,o 9 (.call 94 [.t 8,(al 0),(al 100000)]),m 10 9,cT 11 2 3 1 10,du 12 11 10,bF 13 (.call 94 [.t 12,(al 0),(al 100000)]) 10,and 14 10 13,m 3 14]
def aeC:=[f 15 0 0 1,L 16 2 15,o 17 (.call 116 [.t 16]),no 18 17,m 19 18,eC 20 3 19,on 21 (.un .not (.t 20)) 19,or 22 19 21,m 23 22,fn 24 1 2 1 23,eU 25 24 23,on 26 (.call 94 [.t 25,(al 0),(al 6)]) 23,on 27 (.un .not (.t 26)) 23,or 28 23 27,m 29 28,on 30 (.ld (some 17) (.t 1)) 29,on 31 (.ld (some 17) (.t 1)) 29,on 32 (.call 84 [.t 31]) 29,on 33 (.eqv (.br [(.br [(.i .i64),(.i .i64)]),(.i .i64),(.i .i64),(.i .i64),(.i .i64),(.i .i64),(.i .i64),(.i .i64),(.kr 6 (.i .i64)),(.br [(.i .i64),(.i .i64)])]) true (.t 30) (.t 32)) 29,or 34 29 33]
def WT:=some [[],[0],[1],[2],[3,2],[4],[5,4],[4,6],[7,4],[8],[9,8],[10,8,8],[11,8],[8,12],[13,11],[14],[14],[16,14,14],[15,17,14],[14,18]]
def aeJ:=[aX 2 40]
def aeK:=[f 35 1 2 1,l 36 35,o 37 (.bin .eql (.t 36) (al 0))]
def aeL:=[f 38 2 3 1,l 39 38,o 40 (.bin .neq (.t 39) (al 0)),m 41 40,fn 42 9 15 1 41,on 43 (.ld (some 2) (.t 42)) 41,on 44 (.call 116 [.t 43]) 41,on 45 (.un .not (.t 44)) 41,or 46 41 45,m 47 46,fn 48 9 15 1 47,fn 49 0 0 48 47,eU 50 49 47,fn 51 0 0 1 47,fn 52 0 0 51 47,eU 53 52 47,on 54 (.bin .neq (.t 50) (.t 53)) 47,or 55 47 54,m 56 55,fn 57 9 15 1 56,fn 58 1 1 57 56,eU 59 58 56,fn 60 0 0 1 56,fn 61 1 1 60 56,eU 62 61 56,on 63 (.bin .geq (.t 59) (.t 62)) 56,or 64 56 63]
def aeM:=[aX 2 40]
def aeN:=[aX 2 0]
def aeO:=[f 65 4 5 1,l 66 65,o 67 (.call 94 [.t 66,(al 1),(al 9999)]),no 68 67]
def aeP:=[aX 2 40]
def aes:=[f 69 7 8 1,l 70 69,o 71 (.call 94 [.t 70,(al 1),(al 99)]),m 4 71]
def aet:=[f 72 6 7 1,l 73 72,o 74 (.call 94 [.t 73,(al 1),(al 9)]),m 5 74]
def aeu:=[o 6 (.mv bp)]
def aev:=[f 75 1 2 1,l 76 75]
def aew:=[o 78 (.bin .eql (.t 76) (al 1)),m 77 78]
def aex:=[m 79 4,no 80 79,m 81 80,eC 82 5 81,on 83 (.un .not (.t 82)) 81,or 84 81 83,m 85 84,fn 86 5 6 1 85,eU 87 86 85,on 88 (.call 94 [.t 87,(al 0),(al 9999)]) 85,on 89 (.un .not (.t 88)) 85,or 90 85 89,m 91 90,fn 92 5 6 1 91,eU 93 92 91,fn 94 4 5 1 91,eU 95 94 91,on 96 (.bin .eql (.t 93) (.t 95)) 91,or 97 91 96,m 6 97]
def aey:=[o 99 (.bin .eql (.t 76) (al 2)),m 98 99]
def aez:=[m 100 5,no 101 100,m 6 101]
def aeA:=[o 103 (.bin .eql (.t 76) (al 3)),m 102 103]
def aeB:=[o 104 (.bin .eql (.t 76) (al 5)),m 102 104]
def aeD:=[m 105 4,no 106 105,m 6 106]
def aeE:=[o 108 (.bin .eql (.t 76) (al 4)),m 107 108]
def aeF:=[f 109 8 9 1,L 110 6 109,o 111 (.call 101 [.t 110]),o 112 (.bin .neq (.t 111) (al 0)),m 6 112]
def aeG:=[m 113 6]
def aeH:=[aX 2 40]
def aeI:=[aX 2 0]
def Ce:aR:=(s (r HZ) (s (r aer) (s (s (.bW WT aeC) (.cond (.t 34) (s (r aeJ) .ret) .skip)) (s (s (r aeK) (.cond (.t 37) (s (s (r aeL) (.cond (.t 64) (s (r aeM) .ret) .skip)) (s (r aeN) .ret)) .skip)) (s (s (r aeO) (.cond (.t 68) (s (r aeP) .ret) .skip)) (s (r aes) (s (r aet) (s (r aeu) (s (s (r aev) (.block 0 (s (r aew) (.cond (.t 77) (r aex) (s (r aey) (.cond (.t 98) (r aez) (s (s (r aeA) (.cond (.t 102) .skip (r aeB))) (.cond (.t 102) (r aeD) (s (r aeE) (.cond (.t 107) (r aeF) .skip)))))))))) (s (s (r aeG) (.cond (.t 113) (s (r aeH) .ret) .skip)) (s (r aeI) .ret)))))))))))
def LO:List bg:=[.tmp 2]
theorem TF:bI Tryz.prog Tryz.f63 Ce:=e (by kernel_rfl)
theorem VN:bJ Tryz.prog Tryz.f63 LO:=e (by kernel_rfl)
theorem RL:bG Tryz.prog 63:=e (by kernel_rfl)
def H0:=[aX 2 0]
def H2:=[m 5 0,o 6 (.len (.t 5)),o 7 (.bin .gtr (.t 6) (al 60))]
def aeQ:=[aX 2 41]
def H3:=[m 8 0,o 9 (.len (.t 8)),aX 10 0]
def aeR:=[lt 11 10 9]
def aeS:=[m 12 10,o 13 (.is 17 (.t 8) (.t 10)),L 14 17 13,o 4 (.alloc (.agg [.agg [.int .i64 0,.int .i64 0],.int .i64 0,.int .i64 0,.int .i64 0,.int .i64 0,.int .i64 0,.int .i64 0,.int .i64 0,.agg [.int .i64 0,.int .i64 0,.int .i64 0,.int .i64 0,.int .i64 0,.int .i64 0],.agg [.int .i64 0,.int .i64 0]])),m 3 12,p (.br (some 17) (.t 4) (.t 14))]
def aeT:=[L 15 17 4,o 16 (.call 117 [.t 15]),no 17 16,m 18 17,eC 19 3 18,on 20 (.bin .gtr (.t 19) (al 0)) 18,eC 21 20 18,cz 22 0 21,cz 23 3 21,bF 24 (.bin .sub (.t 23) (al 1)) 21,bF 25 (.is 17 (.t 22) (.t 24)) 21,cT 26 0 0 25 21,bF 27 (.ld (some 2) (.t 26)) 21,cT 28 0 0 4 21,bF 29 (.ld (some 2) (.t 28)) 21,bF 30 (.call 118 [.t 27,.t 29]) 21,bF 31 (.bin .geq (.t 30) (al 0)) 21,on 32 (.pick (.t 21) (.t 31) bp) 18,or 33 18 32]
def WU:=some [[],[0],[1],[2,1],[3],[4,3],[5,3,3],[6],[6],[8,6],[7,9,6],[10,6],[11,6],[6],[13,6],[12,14,6,6],[15,6],[6,16,3],[3,17]]
def aeU:=[aX 2 41]
def aeV:=[ad 34 10 1,m 10 34]
def aeW:=[aX 2 0]
def Cf:aR:=(s (r H0) (s (s (r H2) (.cond (.t 7) (s (r aeQ) .ret) .skip)) (s (s (r H3) (.block 0 (.loop (s (r aeR) (s (.cond (.t 11) .skip (.exit 0)) (s (.block 1 (s (r aeS) (s (.bW WU aeT) (.cond (.t 33) (s (r aeU) .ret) .skip)))) (r aeV))))))) (s (r aeW) .ret))))
def LP:List bg:=[.tmp 2]
theorem TG:bI Tryz.prog Tryz.f64 Cf:=e (by kernel_rfl)
theorem VO:bJ Tryz.prog Tryz.f64 LP:=e (by kernel_rfl)
theorem RM:bG Tryz.prog 64:=e (by kernel_rfl)
def H4:=[aX 2 0]
def H5:=[m 4 0,o 5 (.len (.t 4)),o 6 (.bin .gtr (.t 5) (al 60))]
def aeX:=[aX 2 41]
def H6:=[aX 3 0]
def aeY:=[m 7 3,m 8 0,o 9 (.len (.t 8)),lt 10 7 9]
def aeZ:=[m 13 0,m 14 3,o 15 (.is 17 (.t 13) (.t 14)),L 16 17 15,o 17 (.call 63 [.t 16]),o 18 (.bin .neq (.t 17) (al 0)),m 19 18,eC 20 3 19,on 21 (.bin .gtr (.t 20) (al 0)) 19,eC 22 21 19,cz 23 0 22,cz 24 3 22,bF 25 (.bin .sub (.t 24) (al 1)) 22,bF 26 (.is 17 (.t 23) (.t 25)) 22,cT 27 0 0 26 22,bF 28 (.ld (some 2) (.t 27)) 22,cz 29 0 22,cz 30 3 22,bF 31 (.is 17 (.t 29) (.t 30)) 22,cT 32 0 0 31 22,bF 33 (.ld (some 2) (.t 32)) 22,bF 34 (.call 119 [.t 28,.t 33]) 22,bF 35 (.un .not (.t 34)) 22,on 36 (.pick (.t 22) (.t 35) bp) 19,or 37 19 36]
def WV:=some [[],[],[0,1],[2],[3],[4],[5,4],[6],[7,6],[8,6,6],[9],[9],[11,9],[10,12,9],[13,9],[14,9],[9],[9],[16,17,9],[18,9],[19,9],[15,20,9,9],[21,9],[9,22,6],[6,23]]
def ae0:=[aX 2 41]
def ae1:=[m 11 3,ad 12 11 1,m 3 12]
def ae2:=[aX 2 0]
def Cg:aR:=(s (r H4) (s (s (r H5) (.cond (.t 6) (s (r aeX) .ret) .skip)) (s (s (r H6) (.block 0 (.loop (s (s (r aeY) (.cond (.t 10) .skip (.exit 0))) (s (.block 1 (s (.bW WV aeZ) (.cond (.t 37) (s (r ae0) .ret) .skip))) (r ae1)))))) (s (r ae2) .ret))))
def LQ:List bg:=[.tmp 2]
theorem TH:bI Tryz.prog Tryz.f65 Cg:=e (by kernel_rfl)
theorem VP:bJ Tryz.prog Tryz.f65 LQ:=e (by kernel_rfl)
theorem RN:bG Tryz.prog 65:=e (by kernel_rfl)
def H7:=[b 1 0,aX 2 0]
def H8:=[f 5 0 0 1,L 6 5 5,o 7 (.call 120 [.t 6]),no 8 7,m 9 8,fn 10 1 5 1 9,eU 11 10 9,on 12 (.call 121 [.t 11,(al 0),(al 2)]) 9,on 13 (.un .not (.t 12)) 9,or 14 9 13,m 15 14,fn 16 2 6 1 15,eU 17 16 15,on 18 (.len (.t 17)) 15,on 19 (.bin .gtr (.t 18) (al 40)) 15,or 20 15 19]
def tm:=[aX 2 13]
def H9:=[f 21 2 6 1,l 22 21,o 23 (.len (.t 22)),aX 24 0]
def Ia:=[lt 25 24 23]
def Ib:=[m 26 24,o 27 (.is 7 (.t 22) (.t 24)),L 28 7 27,o 4 (.alloc (.agg [.int .i64 0,.agg [.int .i64 0,.int .i64 0,.int .i64 0,.int .i64 0,.int .i64 0,.int .i64 0]])),m 3 26,p (.br (some 7) (.t 4) (.t 28))]
def Ic:=[f 29 0 0 4,l 30 29,o 31 (.call 122 [.t 30]),no 32 31,m 33 32,fn 34 1 1 4 33,on 35 (.ld (some 6) (.t 34)) 33,on 36 (.call 123 [.t 35]) 33,on 37 (.un .not (.t 36)) 33,or 38 33 37,m 39 38,eC 40 3 39,on 41 (.bin .gtr (.t 40) (al 0)) 39,eC 42 41 39,cT 43 2 6 1 42,du 44 43 42,cz 45 3 42,bF 46 (.bin .sub (.t 45) (al 1)) 42,bF 47 (.is 7 (.t 44) (.t 46)) 42,cT 48 0 0 47 42,du 49 48 42,cT 50 0 0 4 42,du 51 50 42,bF 52 (.bin .geq (.t 49) (.t 51)) 42,on 53 (.pick (.t 42) (.t 52) bp) 39,or 54 39 53,m 55 54,on 56 (.ld (some 7) (.t 1)) 55,fn 57 2 6 1 55,eU 58 57 55,eC 59 3 55,on 60 (.sl 7 (.t 58) none (some (.t 59)) none) 55,fn 61 1 1 4 55,on 62 (.ld (some 6) (.t 61)) 55,on 63 (.call 124 [.t 56,.t 60,.t 62]) 55,on 64 (.un .not (.t 63)) 55,or 65 55 64]
def WW:=some [[],[0],[1],[2],[3,2],[4],[5,4],[6,4,4],[7,4],[4,8],[9,7],[10],[11,10],[12,10,10],[13],[14,13],[13],[16,13],[15,17,13],[18,13],[19,13],[13],[21,13],[20,22,13],[13,23,10],[10,24],[25,13],[26],[26],[28,26],[26],[29,30,26],[26],[32,26],[27,31,33,26,26],[34,26],[26,35]]
def p5:=[aX 2 13]
def xv:=[ad 66 24 1,m 24 66]
def Ie:=[aX 2 0]
def Ch:aR:=(s (r H7) (s (s (r H8) (.cond (.t 20) (s (r tm) .ret) .skip)) (s (s (r H9) (.block 0 (.loop (s (r Ia) (s (.cond (.t 25) .skip (.exit 0)) (s (.block 1 (s (r Ib) (s (.bW WW Ic) (.cond (.t 65) (s (r p5) .ret) .skip)))) (r xv))))))) (s (r Ie) .ret))))
def LR:List bg:=[.tmp 2]
theorem TI:bI Tryz.prog Tryz.f66 Ch:=e (by kernel_rfl)
theorem VQ:bJ Tryz.prog Tryz.f66 LR:=e (by kernel_rfl)
theorem RO:bG Tryz.prog 66:=e (by kernel_rfl)
def ae3:=[aX 6 0]
def ae4:=[m 10 0,o 11 (.call 64 [.t 10]),m 7 11]
def ae8:=[m 12 7,o 13 (.bin .neq (.t 12) (al 0))]
def ae9:=[m 14 7,m 6 14]
def afa:=[m 15 1,o 16 (.len (.t 15)),aX 17 0]
def afb:=[lt 18 17 16]
def afc:=[o 19 (.is 2 (.t 15) (.t 17)),L 20 2 19,o 9 (.alloc (.agg [.int .i64 0,.int .i64 0])),p (.br (some 2) (.t 9) (.t 20))]
def afd:=[o 21 (.ia 2 1 (.t 9) (al 0)),l 22 21,o 23 (.ia 2 1 (.t 9) (al 1)),l 24 23,o 25 (.call 114 [.t 22,(al 1),.t 24]),no 26 25]
def afe:=[aX 6 1]
def aff:=[ad 27 17 1,m 17 27]
def ae5:=[m 28 2,o 29 (.call 125 [.t 28,(.c (.func 126 []))])]
def ae6:=[aX 6 6]
def ae7:=[aX 6 0]
def Ci:aR:=(s (r ae3) (s (s (r ae4) (s (r ae8) (.cond (.t 13) (s (r ae9) .ret) .skip))) (s (s (r afa) (.block 0 (.loop (s (r afb) (s (.cond (.t 18) .skip (.exit 0)) (s (.block 1 (s (r afc) (s (r afd) (.cond (.t 26) (s (r afe) .ret) .skip)))) (r aff))))))) (s (s (r ae5) (.cond (.t 29) (s (r ae6) .ret) .skip)) (s (r ae7) .ret)))))
def LS:List bg:=[.tmp 6]
theorem TJ:bI Tryz.prog Tryz.f67 Ci:=e (by kernel_rfl)
theorem VR:bJ Tryz.prog Tryz.f67 LS:=e (by kernel_rfl)
theorem RP:bG Tryz.prog 67:=e (by kernel_rfl)
def afg:=[o 4 (.mv (.c (.nilp)))]
def afh:=[m 8 0,m 9 1,o 10 (.call 88 [.t 8,(al 100000),.t 9]),m 7 10,o 11 (.ext (.t 7) 0),o 12 (.ext (.t 7) 1),m 5 11,m 6 12]
def afi:=[m 13 5,m 4 13]
def Cj:aR:=(s (r afg) (s (r afh) (s (r afi) .ret)))
def LU:List bg:=[.tmp 4]
theorem TK:bI Tryz.prog Tryz.f68 Cj:=e (by kernel_rfl)
theorem VS:bJ Tryz.prog Tryz.f68 LU:=e (by kernel_rfl)
theorem RQ:bG Tryz.prog 68:=e (by kernel_rfl)
def afj:=[b 2 0,o 4 (.mv (.c (.nils 1)))]
def afk:=[L 8 7 2,m 9 1,o 10 (.nilC (.t 9)),f 11 0 0 10,f 12 8 8 11,l 13 12,o 14 (.call 128 [.t 8,.t 13]),m 7 14,o 15 (.ext (.t 7) 0),o 16 (.ext (.t 7) 1),m 5 15,m 6 16]
def WX:=some [[],[],[1],[2],[3],[4],[0,5],[6],[7],[7],[8,6,0,1,2,3,4,5,6,7,8],[9,10,0,1,2,3,4,5,6,7,8,9,10]]
def afl:=[m 17 5,m 4 17]
def Ck:aR:=(s (r afj) (s (.bW WX afk) (s (r afl) .ret)))
def LV:List bg:=[.tmp 4]
theorem TL:bI Tryz.prog Tryz.f69 Ck:=e (by kernel_rfl)
theorem VT:bJ Tryz.prog Tryz.f69 LV:=e (by kernel_rfl)
theorem RR:bG Tryz.prog 69:=e (by kernel_rfl)
def If:=[o 4 (.mv (.c (.nils 1)))]
def Ig:=[o 5 (.mv (.c (.nils 1)))]
def Ih:=[m 8 0,o 9 (.nilC (.t 8)),f 10 0 0 9,l 11 10,o 12 (.kg (.t 11))]
def xw:=[o 13 (.iH (.t 12)),o 14 (.ext (.t 13) 0)]
def Ii:=[o 15 (.ent (.t 12)),o 16 (.ext (.t 15) 0),o 17 (.ext (.t 15) 1),m 6 16,m 7 17]
def Ij:=[m 18 1,m 19 7,o 20 (.eF (.t 18) [.t 19])]
def afm:=[m 21 5,m 22 6,o 23 (.bs 3 1 [.t 22]),o 24 (.c7 3 1 8 (.int .i64 0) (.t 21) (.t 23)),m 5 24]
def afn:=[m 25 5,o 26 (.call 107 [.t 25])]
def afo:=[m 27 5,m 4 27]
def Cl:aR:=(s (r If) (s (r Ig) (s (s (r Ih) (.block 0 (.loop (s (r xw) (s (.cond (.t 14) .skip (.exit 0)) (.block 1 (s (r Ii) (s (r Ij) (.cond (.t 20) (r afm) .skip))))))))) (s (r afn) (s (r afo) .ret)))))
def LW:List bg:=[.tmp 4]
theorem TM:bI Tryz.prog Tryz.f72 Cl:=e (by kernel_rfl)
theorem VU:bJ Tryz.prog Tryz.f72 LW:=e (by kernel_rfl)
theorem RS:bG Tryz.prog 72:=e (by kernel_rfl)
def afp:=[o 3 (.mv bp)]
def afq:=[m 4 0,o 5 (.nilC (.t 4)),f 6 0 0 5,f 7 4 4 6,l 8 7,o 9 (.bin .gtr (.t 8) (al 0)),m 10 9,bF 11 (.ld (some 7) (.t 1)) 10,cz 12 0 10,bF 13 (.call 69 [.t 11,.t 12]) 10,cz 14 0 10,bF 15 (.nilC (.t 14)) 10,cT 16 0 0 15 10,cT 17 4 4 16 10,du 18 17 10,bF 19 (.call 74 [.t 13,.t 18]) 10,bF 20 (.un .not (.t 19)) 10,and 21 10 20,m 3 21]
def WY:=some [[],[0],[1],[2],[3],[4],[5],[6],[6],[7,8,6,6],[6],[10,6],[11,6],[12,6],[13,6],[9,14,9,6],[15,6],[6,16],[17,15,0,1,2,3,4,5,6,7,8,9,10,11,12,13,14,15,16,17]]
def Cm:aR:=(s (r afp) (s (.bW WY afq) .ret))
def LX:List bg:=[.tmp 3]
theorem TN:bI Tryz.prog Tryz.f73 Cm:=e (by kernel_rfl)
theorem VV:bJ Tryz.prog Tryz.f73 LX:=e (by kernel_rfl)
theorem RT:bG Tryz.prog 73:=e (by kernel_rfl)
def afr:=[o 4 (.mv bp)]
def afs:=[m 5 0,m 6 1,o 7 (.call 131 [.t 5,.t 6]),o 8 (.bin .geq (.t 7) (al 0)),m 4 8]
def Cn:aR:=(s (r afr) (s (r afs) .ret))
def LY:List bg:=[.tmp 4]
theorem TO:bI Tryz.prog Tryz.f74 Cn:=e (by kernel_rfl)
theorem VW:bJ Tryz.prog Tryz.f74 LY:=e (by kernel_rfl)
theorem RU:bG Tryz.prog 74:=e (by kernel_rfl)
def Ik:=[o 2 (.mv bp)]
def Il:=[m 3 0,o 4 (.call 94 [.t 3,(al 0),(al 100000)]),m 2 4]
def Co:aR:=(s (r Ik) (s (r Il) .ret))
def LZ:List bg:=[.tmp 2]
theorem TP:bI Tryz.prog Tryz.f75 Co:=e (by kernel_rfl)
theorem VX:bJ Tryz.prog Tryz.f75 LZ:=e (by kernel_rfl)
theorem RV:bG Tryz.prog 75:=e (by kernel_rfl)
def aft:=[o 6 (.alloc (.agg [.nils 9,.nils 1]))]
def afu:=[m 16 0,m 17 1,o 18 (.call 106 [.t 16,.t 17]),m 7 18]
def afF:=[o 8 (.mv (.c (.nils 1)))]
def afI:=[aX 9 0]
def afJ:=[m 19 9,m 20 0,o 21 (.len (.t 20)),lt 22 19 21]
def afK:=[m 25 7,m 26 9,o 27 (.is 1 (.t 25) (.t 26)),l 28 27,no 29 28,m 30 29,eC 31 0 30,eC 32 9 30,on 33 (.is 17 (.t 31) (.t 32)) 30,fn 34 1 2 33 30,eU 35 34 30,on 36 (.bin .eql (.t 35) (al 0)) 30,or 37 30 36,m 38 37,eC 39 0 38,eC 40 9 38,on 41 (.is 17 (.t 39) (.t 40)) 38,fn 42 2 3 41 38,eU 43 42 38,eC 44 2 38,on 45 (.bin .gtr (.t 43) (.t 44)) 38,or 46 38 45]
def afL:=[m 47 8,o 48 (.len (.t 47)),m 10 48]
def afM:=[m 49 10,o 50 (.bin .gtr (.t 49) (al 0)),m 51 50,cz 52 0 51,cz 53 8 51,cz 54 10 51,bF 55 (.bin .sub (.t 54) (al 1)) 51,bF 56 (.is 1 (.t 53) (.t 55)) 51,du 57 56 51,bF 58 (.is 17 (.t 52) (.t 57)) 51,cT 59 2 3 58 51,du 60 59 51,cz 61 0 51,cz 62 9 51,bF 63 (.is 17 (.t 61) (.t 62)) 51,cT 64 2 3 63 51,du 65 64 51,bF 66 (.bin .gtr (.t 60) (.t 65)) 51,and 67 51 66]
def W2:=some [[],[0],[1],[2],[2],[2],[5,2],[4,6,2],[7,2],[3,8,2],[9,2],[10,2],[2],[2],[12,13,2],[14,2],[15,2],[11,16,2],[2,17]]
def afN:=[m 68 10,o 69 (.bin .sub (.t 68) (al 1)),m 10 69]
def tn:=[o 70 (.bs0 1),m 71 8,m 72 10,o 73 (.sl 1 (.t 71) none (some (.t 72)) none),o 74 (.c7 3 1 8 (.int .i64 0) (.t 70) (.t 73)),m 75 9,o 76 (.bs 3 1 [.t 75]),o 77 (.c7 3 1 8 (.int .i64 0) (.t 74) (.t 76)),m 78 8,m 79 10,o 80 (.sl 1 (.t 78) (some (.t 79)) none none),o 81 (.c7 3 1 8 (.int .i64 0) (.t 77) (.t 80)),m 8 81]
def C8:=some [[],[],[],[1,2],[0,3],[],[5],[4,6,4],[],[],[8,9],[7,10,7],[11,11,0,1,2,3,4,5,6,7,8,9,10,11]] -- DRAW BAD
def afv:=[m 23 9,ad 24 23 1,m 9 24]
def afw:=[o 82 (.bld [.nils 9,.nils 1] []),o 11 (.alloc (.agg [.nils 9,.nils 1])),p (.br (some 2) (.t 11) (.t 82))]
def afx:=[o 12 (.mv (.c (.nils 1)))]
def afy:=[aX 13 0]
def afz:=[m 83 13,m 84 8,o 85 (.len (.t 84)),lt 86 83 85]
def afA:=[f 90 0 0 11,l 91 90,m 92 0,m 93 8,m 94 13,o 95 (.is 1 (.t 93) (.t 94)),l 96 95,o 97 (.is 17 (.t 92) (.t 96)),L 98 17 97,o 99 (.call 132 [.t 91,.t 98]),m 89 99,o 100 (.ext (.t 89) 0),o 101 (.ext (.t 89) 1),m 14 100,m 15 101]
def WZ:=some [[],[0],[],[],[],[3,4],[5],[2,6],[7],[1,8],[9],[10],[10],[11,9,0,1,2,3,4,5,6,7,8,9,10,11],[12,13,0,1,2,3,4,5,6,7,8,9,10,11,12,13]]
def afB:=[m 102 14,f 103 0 0 11,p (.br none (.t 103) (.t 102))]
def afC:=[m 104 15,no 105 104]
def afD:=[m 106 12,m 107 8,m 108 13,o 109 (.is 1 (.t 107) (.t 108)),l 110 109,o 111 (.bs 3 1 [.t 110]),o 112 (.c7 3 1 8 (.int .i64 0) (.t 106) (.t 111)),m 12 112]
def afE:=[m 87 13,ad 88 87 1,m 13 88]
def afG:=[m 113 12,o 114 (.call 97 [.t 113]),f 115 1 1 11,p (.br none (.t 115) (.t 114))]
def afH:=[L 116 2 11,p (.br (some 2) (.t 6) (.t 116))]
def Cp:aR:=(s (r aft) (s (r afu) (s (r afF) (s (s (r afI) (.block 0 (.loop (s (s (r afJ) (.cond (.t 22) .skip (.exit 0))) (s (.block 1 (s (s (r afK) (.cond (.t 46) (.exit 1) .skip)) (s (r afL) (s (.block 2 (.loop (s (s (.bW W2 afM) (.cond (.t 67) .skip (.exit 2))) (.block 3 (r afN))))) (.bW C8 tn))))) (r afv)))))) (s (r afw) (s (r afx) (s (s (r afy) (.block 4 (.loop (s (s (r afz) (.cond (.t 86) .skip (.exit 4))) (s (.block 5 (s (.bW WZ afA) (s (r afB) (s (r afC) (.cond (.t 105) (r afD) .skip))))) (r afE)))))) (s (r afG) (s (r afH) .ret)))))))))
def L0:List bg:=[.cell 6 (some 2)]
theorem TQ:bI Tryz.prog Tryz.f76 Cp:=e (by kernel_rfl)
theorem VY:bJ Tryz.prog Tryz.f76 L0:=e (by kernel_rfl)
theorem RW:bG Tryz.prog 76:=e (by kernel_rfl)
def afO:=[b 3 0,o 6 (.mv bp)]
def afP:=[m 8 1,o 9 (.ptrE false (.t 8) (.c (.nilp))),m 10 9,eC 11 2 10,on 12 (.ptrE false (.t 11) (.c (.nilp))) 10,or 13 10 12]
def afQ:=[m 14 1,m 15 2,o 16 (.ptrE false (.t 14) (.t 15)),m 6 16]
def afR:=[o 7 (.mv (.c (.func 133 [])))]
def afS:=[m 17 7,m 18 1,o 19 (.eF (.t 17) [.t 18]),m 20 7,m 21 2,o 22 (.eF (.t 20) [.t 21]),o 23 (.eqv (.kr 8 (.i .i64)) false (.t 19) (.t 22)),m 24 23,bF 25 (.ld (some 7) (.t 3)) 24,cz 26 1 24,bF 27 (.call 69 [.t 25,.t 26]) 24,bF 28 (.ld (some 7) (.t 3)) 24,cz 29 2 24,bF 30 (.call 69 [.t 28,.t 29]) 24,bF 31 (.call 134 [.t 27,.t 30]) 24,and 32 24 31,m 6 32]
def W3:=some [[],[],[0,1],[],[],[3,4,2],[2,5],[6,5],[7],[7],[8,9,7,7],[7],[7],[11,12,10,7],[10,13,13,7],[7,14],[15,14,0,1,2,3,4,5,6,7,8,9,10,11,12,13,14,15]]
def sO:aR:=(s (r afO) (s (s (r afP) (.cond (.t 13) (s (r afQ) .ret) .skip)) (s (r afR) (s (.bW W3 afS) .ret))))
def uu:List bg:=[.tmp 6]
theorem vQ:bI Tryz.prog Tryz.f77 sO:=e (by kernel_rfl)
theorem vZ:bJ Tryz.prog Tryz.f77 uu:=e (by kernel_rfl)
theorem vO:bG Tryz.prog 77:=e (by kernel_rfl)
def Im:=[o 4 (.mv (.c (.nils 17)))]
def Io:=[m 5 0,o 6 (.call 136 [.t 5]),m 7 1,m 8 1,ad 9 8 1,o 10 (.call 135 [.t 6,.t 7,.t 9]),m 4 10]
def Cq:aR:=(s (r Im) (s (r Io) .ret))
def L1:List bg:=[.tmp 4]
theorem TR:bI Tryz.prog Tryz.f78 Cq:=e (by kernel_rfl)
theorem VZ:bJ Tryz.prog Tryz.f78 L1:=e (by kernel_rfl)
theorem RX:bG Tryz.prog 78:=e (by kernel_rfl)
def Ip:=[o 0 (.mv (.c (.nils 17)))]
def Iq:=[o 1 (.bld [.agg [.int .i64 0,.int .i64 0],.int .i64 0,.int .i64 0,.int .i64 0,.int .i64 0,.int .i64 0,.int .i64 0,.int .i64 0,.agg [.int .i64 0,.int .i64 0,.int .i64 0,.int .i64 0,.int .i64 0,.int .i64 0],.agg [.int .i64 0,.int .i64 0]] [(1,(al 1)),(2,(al 1)),(3,(al 1)),(4,(al 10)),(6,(al 3)),(7,(al 2))]),o 2 (.bld [.int .i64 0,.int .i64 0] [(1,(al 1))]),o 3 (.bld [.agg [.int .i64 0,.int .i64 0],.int .i64 0,.int .i64 0,.int .i64 0,.int .i64 0,.int .i64 0,.int .i64 0,.int .i64 0,.agg [.int .i64 0,.int .i64 0,.int .i64 0,.int .i64 0,.int .i64 0,.int .i64 0],.agg [.int .i64 0,.int .i64 0]] [(0,(.t 2)),(1,(al 1)),(2,(al 5)),(3,(al 5)),(4,(al 11)),(6,(al 3)),(7,(al 2)),(5,(al 10))]),o 4 (.bld [.int .i64 0,.int .i64 0] [(1,(al 2))]),o 5 (.bld [.agg [.int .i64 0,.int .i64 0],.int .i64 0,.int .i64 0,.int .i64 0,.int .i64 0,.int .i64 0,.int .i64 0,.int .i64 0,.agg [.int .i64 0,.int .i64 0,.int .i64 0,.int .i64 0,.int .i64 0,.int .i64 0],.agg [.int .i64 0,.int .i64 0]] [(0,(.t 4)),(1,(al 2)),(2,(al 6)),(3,(al 6)),(4,(al 20)),(6,(al 3))]),o 6 (.bld [.int .i64 0,.int .i64 0] [(1,(al 3))]),o 7 (.bld [.int .i64 0,.int .i64 0,.int .i64 0,.int .i64 0,.int .i64 0,.int .i64 0] [(0,(al 31)),(1,(al 1)),(2,(al 1)),(3,(al 1)),(4,(al 1)),(5,(al 31))]),o 8 (.bld [.agg [.int .i64 0,.int .i64 0],.int .i64 0,.int .i64 0,.int .i64 0,.int .i64 0,.int .i64 0,.int .i64 0,.int .i64 0,.agg [.int .i64 0,.int .i64 0,.int .i64 0,.int .i64 0,.int .i64 0,.int .i64 0],.agg [.int .i64 0,.int .i64 0]] [(0,(.t 6)),(1,(al 4)),(2,(al 6)),(3,(al 6)),(4,(al 20)),(8,(.t 7))]),o 9 (.bld [.int .i64 0,.int .i64 0] [(1,(al 4))]),o 10 (.bld [.agg [.int .i64 0,.int .i64 0],.int .i64 0,.int .i64 0,.int .i64 0,.int .i64 0,.int .i64 0,.int .i64 0,.int .i64 0,.agg [.int .i64 0,.int .i64 0,.int .i64 0,.int .i64 0,.int .i64 0,.int .i64 0],.agg [.int .i64 0,.int .i64 0]] [(0,(.t 9)),(1,(al 3)),(2,(al 7)),(3,(al 7)),(4,(al 10)),(7,(al 1))]),o 11 (.bld [.int .i64 0,.int .i64 0] [(1,(al 5))]),o 12 (.bld [.int .i64 0,.int .i64 0,.int .i64 0,.int .i64 0,.int .i64 0,.int .i64 0] [(0,(al 24)),(1,(al 1)),(2,(al 1)),(3,(al 1)),(4,(al 1)),(5,(al 31))]),o 13 (.bld [.agg [.int .i64 0,.int .i64 0],.int .i64 0,.int .i64 0,.int .i64 0,.int .i64 0,.int .i64 0,.int .i64 0,.int .i64 0,.agg [.int .i64 0,.int .i64 0,.int .i64 0,.int .i64 0,.int .i64 0,.int .i64 0],.agg [.int .i64 0,.int .i64 0]] [(0,(.t 11)),(1,(al 4)),(2,(al 6)),(3,(al 9)),(4,(al 20)),(8,(.t 12))]),o 14 (.bld [.int .i64 0,.int .i64 0] [(1,(al 6))]),o 15 (.bld [.agg [.int .i64 0,.int .i64 0],.int .i64 0,.int .i64 0,.int .i64 0,.int .i64 0,.int .i64 0,.int .i64 0,.int .i64 0,.agg [.int .i64 0,.int .i64 0,.int .i64 0,.int .i64 0,.int .i64 0,.int .i64 0],.agg [.int .i64 0,.int .i64 0]] [(0,(.t 14)),(1,(al 5)),(2,(al 10)),(3,(al 10)),(4,(al 20)),(7,(al 3))]),o 16 (.bld [.int .i64 0,.int .i64 0] [(1,(al 7))]),o 17 (.bld [.int .i64 0,.int .i64 0,.int .i64 0,.int .i64 0,.int .i64 0,.int .i64 0] [(0,(al 1)),(1,(al 1)),(2,(al 1)),(3,(al 1)),(4,(al 1)),(5,(al 1))]),o 18 (.bld [.agg [.int .i64 0,.int .i64 0],.int .i64 0,.int .i64 0,.int .i64 0,.int .i64 0,.int .i64 0,.int .i64 0,.int .i64 0,.agg [.int .i64 0,.int .i64 0,.int .i64 0,.int .i64 0,.int .i64 0,.int .i64 0],.agg [.int .i64 0,.int .i64 0]] [(0,(.t 16)),(1,(al 4)),(2,(al 8)),(3,(al 11)),(4,(al 11)),(8,(.t 17))]),o 19 (.bld [.int .i64 0,.int .i64 0] [(1,(al 8))]),o 20 (.bld [.agg [.int .i64 0,.int .i64 0],.int .i64 0,.int .i64 0,.int .i64 0,.int .i64 0,.int .i64 0,.int .i64 0,.int .i64 0,.agg [.int .i64 0,.int .i64 0,.int .i64 0,.int .i64 0,.int .i64 0,.int .i64 0],.agg [.int .i64 0,.int .i64 0]] [(0,(.t 19)),(1,(al 6)),(2,(al 12)),(3,(al 12)),(4,(al 10))]),o 21 (.bld [.int .i64 0,.int .i64 0] [(1,(al 9))]),o 22 (.bld [.int .i64 0,.int .i64 0] [(1,(al 5))]),o 23 (.bld [.agg [.int .i64 0,.int .i64 0],.int .i64 0,.int .i64 0,.int .i64 0,.int .i64 0,.int .i64 0,.int .i64 0,.int .i64 0,.agg [.int .i64 0,.int .i64 0,.int .i64 0,.int .i64 0,.int .i64 0,.int .i64 0],.agg [.int .i64 0,.int .i64 0]] [(0,(.t 21)),(1,(al 0)),(3,(al 14)),(9,(.t 22))]),o 24 (.bs 68 17 [.t 1,.t 3,.t 5,.t 8,.t 10,.t 13,.t 15,.t 18,.t 20,.t 23]),m 0 24]
def Cr:aR:=(s (r Ip) (s (r Iq) .ret))
def L2:List bg:=[.tmp 0]
theorem TS:bI Tryz.prog Tryz.f81 Cr:=e (by kernel_rfl)
theorem V0:bJ Tryz.prog Tryz.f81 L2:=e (by kernel_rfl)
theorem RY:bG Tryz.prog 81:=e (by kernel_rfl)
def Ir:=[o 0 (.alloc (.agg [.agg [.int .i64 0,.int .i64 0,.int .i64 0,.int .i64 0,.int .i64 0],.int .i64 0,.nils 7]))]
def Is:=[o 1 (.bld [.int .i64 0,.int .i64 0,.int .i64 0,.int .i64 0,.int .i64 0] [(0,(al 1)),(1,(al 3)),(2,(al 4)),(3,(al 24)),(4,(al 24))]),o 2 (.bld [.int .i64 0,.agg [.int .i64 0,.int .i64 0,.int .i64 0,.int .i64 0,.int .i64 0,.int .i64 0]] [(0,(al 1))]),o 3 (.bld [.int .i64 0,.int .i64 0,.int .i64 0,.int .i64 0,.int .i64 0,.int .i64 0] [(0,(al 2)),(1,(al 0)),(2,(al 0)),(3,(al 0)),(4,(al 0)),(5,(al 0))]),o 4 (.bld [.int .i64 0,.agg [.int .i64 0,.int .i64 0,.int .i64 0,.int .i64 0,.int .i64 0,.int .i64 0]] [(0,(al 2)),(1,(.t 3))]),o 5 (.bld [.int .i64 0,.int .i64 0,.int .i64 0,.int .i64 0,.int .i64 0,.int .i64 0] [(0,(al 3)),(1,(al 0)),(2,(al 0)),(3,(al 0)),(4,(al 0)),(5,(al 2))]),o 6 (.bld [.int .i64 0,.agg [.int .i64 0,.int .i64 0,.int .i64 0,.int .i64 0,.int .i64 0,.int .i64 0]] [(0,(al 3)),(1,(.t 5))]),o 7 (.bs 63 7 [.t 2,.t 4,.t 6]),o 8 (.bld [.agg [.int .i64 0,.int .i64 0,.int .i64 0,.int .i64 0,.int .i64 0],.int .i64 0,.nils 7] [(0,(.t 1)),(2,(.t 7))]),p (.br (some 7) (.t 0) (.t 8))]
def Cs:aR:=(s (r Ir) (s (r Is) .ret))
def L3:List bg:=[.cell 0 (some 7)]
theorem TT:bI Tryz.prog Tryz.f82 Cs:=e (by kernel_rfl)
theorem V1:bJ Tryz.prog Tryz.f82 L3:=e (by kernel_rfl)
theorem RZ:bG Tryz.prog 82:=e (by kernel_rfl)
def afT:=[b 1 0,o 2 (.alloc (.agg [.agg [.int .i64 0,.int .i64 0],.int .i64 0,.int .i64 0,.int .i64 0,.int .i64 0,.int .i64 0,.int .i64 0,.int .i64 0,.agg [.int .i64 0,.int .i64 0,.int .i64 0,.int .i64 0,.int .i64 0,.int .i64 0],.agg [.int .i64 0,.int .i64 0]]))]
def afU:=[f 4 0 0 1,L 5 2 4,f 6 1 2 1,l 7 6,f 8 2 3 1,l 9 8,f 10 3 4 1,l 11 10,o 12 (.bld [.agg [.int .i64 0,.int .i64 0],.int .i64 0,.int .i64 0,.int .i64 0,.int .i64 0,.int .i64 0,.int .i64 0,.int .i64 0,.agg [.int .i64 0,.int .i64 0,.int .i64 0,.int .i64 0,.int .i64 0,.int .i64 0],.agg [.int .i64 0,.int .i64 0]] [(0,(.t 5)),(1,(.t 7)),(2,(.t 9)),(3,(.t 11))]),o 3 (.alloc (.agg [.agg [.int .i64 0,.int .i64 0],.int .i64 0,.int .i64 0,.int .i64 0,.int .i64 0,.int .i64 0,.int .i64 0,.int .i64 0,.agg [.int .i64 0,.int .i64 0,.int .i64 0,.int .i64 0,.int .i64 0,.int .i64 0],.agg [.int .i64 0,.int .i64 0]])),p (.br (some 17) (.t 3) (.t 12))]
def af4:=[f 13 1 2 1,l 14 13,o 15 (.bin .eql (.t 14) (al 0))]
def af5:=[f 16 9 15 1,L 17 2 16,f 18 9 15 3,p (.br (some 2) (.t 18) (.t 17))]
def af6:=[L 19 17 3,p (.br (some 17) (.t 2) (.t 19))]
def af7:=[f 20 4 5 1,l 21 20,f 22 4 5 3,p (.br none (.t 22) (.t 21))]
def af8:=[f 23 1 2 1,l 24 23]
def af9:=[o 26 (.bin .eql (.t 24) (al 1)),m 25 26]
def aga:=[f 27 6 7 1,l 28 27,f 29 6 7 3,p (.br none (.t 29) (.t 28))]
def agb:=[f 30 7 8 1,l 31 30,f 32 7 8 3,p (.br none (.t 32) (.t 31))]
def afV:=[f 33 5 6 1,l 34 33,f 35 5 6 3,p (.br none (.t 35) (.t 34))]
def afW:=[o 37 (.bin .eql (.t 24) (al 2)),m 36 37]
def afX:=[f 38 6 7 1,l 39 38,f 40 6 7 3,p (.br none (.t 40) (.t 39))]
def afY:=[o 42 (.bin .eql (.t 24) (al 3)),m 41 42]
def afZ:=[o 43 (.bin .eql (.t 24) (al 5)),m 41 43]
def af0:=[f 44 7 8 1,l 45 44,f 46 7 8 3,p (.br none (.t 46) (.t 45))]
def af1:=[o 48 (.bin .eql (.t 24) (al 4)),m 47 48]
def af2:=[f 49 8 9 1,L 50 6 49,f 51 8 9 3,p (.br (some 6) (.t 51) (.t 50))]
def af3:=[L 52 17 3,p (.br (some 17) (.t 2) (.t 52))]
def Ct:aR:=(s (r afT) (s (r afU) (s (s (r af4) (.cond (.t 15) (s (r af5) (s (r af6) .ret)) .skip)) (s (r af7) (s (s (r af8) (.block 0 (s (r af9) (.cond (.t 25) (s (r aga) (s (r agb) (r afV))) (s (r afW) (.cond (.t 36) (r afX) (s (s (r afY) (.cond (.t 41) .skip (r afZ))) (.cond (.t 41) (r af0) (s (r af1) (.cond (.t 47) (r af2) .skip)))))))))) (s (r af3) .ret))))))
def L4:List bg:=[.cell 2 (some 17)]
theorem TU:bI Tryz.prog Tryz.f84 Ct:=e (by kernel_rfl)
theorem V2:bJ Tryz.prog Tryz.f84 L4:=e (by kernel_rfl)
theorem R0:bG Tryz.prog 84:=e (by kernel_rfl)
def It:=[b 3 0,b 4 1,o 6 (.mv (.c (.nilp))),o 7 (.mv (.c (.nils 1)))]
def Iu:=[o 8 (.alloc (.nils 1)),o 9 (.mv (.c (.nils 1)))]
def IA:=[l 15 3,m 16 2,o 17 (.call 105 [.t 15,.t 16])]
def agc:=[m 10 18]
def agd:=[l 19 3,m 20 10,o 21 (.is 17 (.t 19) (.t 20)),f 22 1 2 21,l 23 22,o 24 (.bin .neq (.t 23) (al 0)),m 25 24,du 26 3 25,cz 27 10 25,bF 28 (.is 17 (.t 26) (.t 27)) 25,cT 29 2 3 28 25,du 30 29 25,du 31 4 25,bF 32 (.bin .leq (.t 30) (.t 31)) 25,and 33 25 32]
def W4:=some [[],[],[0,1],[2],[3],[4],[5],[6],[6],[7,8,6],[9,6],[10,6],[6],[11,12,6],[6,13]]
def age:=[l 34 8,m 35 10,o 36 (.bs 3 1 [.t 35]),o 37 (.c7 3 1 8 (.int .i64 0) (.t 34) (.t 36)),p (.br none (.t 8) (.t 37))]
def xz:=[l 38 8,o 39 (.mk 138 [.t 3]),o 40 (.call 137 [.t 38,.t 39])]
def xA:=[o 41 (.jM),o 42 (.bld [.raw (.map none)] [(0,(.t 41))]),b 43 42,m 11 43]
def xB:=[o 44 (.call 139 []),m 12 44]
def xC:=[l 45 8,o 46 (.len (.t 45)),aX 47 0]
def tp:=[lt 48 47 46]
def xy:=[o 49 (.is 1 (.t 45) (.t 47)),l 50 49,m 14 50]
def tq:=[m 51 12,l 52 3,m 53 14,o 54 (.is 17 (.t 52) (.t 53)),f 55 1 2 54,l 56 55,o 57 (.lk (.i .i64) (.dh) false (.t 51) (.t 56)),m 58 11,l 59 3,m 60 14,o 61 (.is 17 (.t 59) (.t 60)),L 62 17 61,o 63 (.eF (.t 57) [.t 58,.t 62]),no 64 63]
def C9:=some [[],[],[],[1,2],[3],[4],[0,5],[],[],[],[8,9],[10],[6,7,11],[12]]
def Iv:=[m 65 9,m 66 14,o 67 (.bs 3 1 [.t 66]),o 68 (.c7 3 1 8 (.int .i64 0) (.t 65) (.t 67)),m 9 68]
def Iw:=[ad 69 47 1,m 47 69]
def Iy:=[m 70 9,o 71 (.call 107 [.t 70])]
def Iz:=[m 72 11,m 73 9,m 6 72,m 7 73]
def Cu:aR:=(s (r It) (s (r Iu) (s (s (r IA) (.block 0 (.ly (.t 17) [18] (r agc) (.block 1 (s (.bW W4 agd) (.cond (.t 33) (r age) .skip)))))) (s (r xz) (s (r xA) (s (r xB) (s (s (r xC) (.block 2 (.loop (s (r tp) (s (.cond (.t 48) .skip (.exit 2)) (s (.block 3 (s (r xy) (s (.bW C9 tq) (.cond (.t 64) (r Iv) .skip)))) (r Iw))))))) (s (r Iy) (s (r Iz) .ret)))))))))
def L5:List bg:=[.tmp 6,.tmp 7]
theorem TV:bI Tryz.prog Tryz.f88 Cu:=e (by kernel_rfl)
theorem V3:bJ Tryz.prog Tryz.f88 L5:=e (by kernel_rfl)
theorem R1:bG Tryz.prog 88:=e (by kernel_rfl)
def agf:=[o 2 (.mv bp)]
def agh:=[m 3 0,o 4 (.call 90 [.t 3]),no 5 4,m 2 5]
def Cv:aR:=(s (r agf) (s (r agh) .ret))
def L6:List bg:=[.tmp 2]
theorem TW:bI Tryz.prog Tryz.f89 Cv:=e (by kernel_rfl)
theorem V4:bJ Tryz.prog Tryz.f89 L6:=e (by kernel_rfl)
theorem R2:bG Tryz.prog 89:=e (by kernel_rfl)
def agi:=[o 2 (.mv bp)]
def agj:=[m 3 0,o 4 (.nilC (.t 3)),f 5 0 0 4,f 6 6 6 5,l 7 6,o 8 (.bin .geq (.t 7) (al 0)),m 2 8]
def Cw:aR:=(s (r agi) (s (r agj) .ret))
def L7:List bg:=[.tmp 2]
theorem TX:bI Tryz.prog Tryz.f90 Cw:=e (by kernel_rfl)
theorem V5:bJ Tryz.prog Tryz.f90 L7:=e (by kernel_rfl)
theorem R3:bG Tryz.prog 90:=e (by kernel_rfl)
def agk:=[o 4 (.mv bp)]
def agl:=[m 5 0,o 6 (.call 90 [.t 5]),no 7 6,m 8 7,cz 9 0 8,bF 10 (.nilC (.t 9)) 8,cT 11 0 0 10 8,cT 12 3 3 11 8,du 13 12 8,du 14 1 8,bF 15 (.bin .eql (.t 13) (.t 14)) 8,and 16 8 15,m 17 16,cz 18 0 17,bF 19 (.nilC (.t 18)) 17,cT 20 0 0 19 17,cT 21 1 1 20 17,du 22 21 17,du 23 2 17,bF 24 (.bin .eql (.t 22) (.t 23)) 17,and 25 17 24,m 4 25]
def W5:=some [[],[0],[1],[2,1],[3],[4,3],[5,3],[6,3],[7,3],[3],[8,9,3],[3,10],[11,3],[12],[13,12],[14,12],[15,12],[16,12],[12],[17,18,12],[12,19],[20,12,0,1,2,3,4,5,6,7,8,9,10,11,12,13,14,15,16,17,18,19,20]]
def Cx:aR:=(s (r agk) (s (.bW W5 agl) .ret))
def L8:List bg:=[.tmp 4]
theorem TY:bI Tryz.prog Tryz.f91 Cx:=e (by kernel_rfl)
theorem V6:bJ Tryz.prog Tryz.f91 L8:=e (by kernel_rfl)
theorem R4:bG Tryz.prog 91:=e (by kernel_rfl)
def agm:=[aX 6 0]
def agn:=[m 7 0,o 8 (.call 65 [.t 7]),o 9 (.bin .neq (.t 8) (al 0))]
def ago:=[aX 6 41]
def agp:=[m 10 1,o 11 (.call 94 [.t 10,(al 1),(al 9999)]),no 12 11]
def agq:=[aX 6 1]
def agr:=[m 13 2,o 14 (.call 75 [.t 13]),no 15 14]
def ags:=[aX 6 6]
def agt:=[aX 6 0]
def Cy:aR:=(s (r agm) (s (s (r agn) (.cond (.t 9) (s (r ago) .ret) .skip)) (s (s (r agp) (.cond (.t 12) (s (r agq) .ret) .skip)) (s (s (r agr) (.cond (.t 15) (s (r ags) .ret) .skip)) (s (r agt) .ret)))))
def L9:List bg:=[.tmp 6]
theorem TZ:bI Tryz.prog Tryz.f92 Cy:=e (by kernel_rfl)
theorem V7:bJ Tryz.prog Tryz.f92 L9:=e (by kernel_rfl)
theorem R5:bG Tryz.prog 92:=e (by kernel_rfl)
def agu:=[aX 4 0]
def agv:=[aX 5 0]
def agw:=[m 6 5,m 7 0,o 8 (.len (.t 7)),lt 9 6 8]
def agx:=[m 12 0,m 13 5,o 14 (.is 9 (.t 12) (.t 13)),f 15 0 0 14,l 16 15,m 17 1,o 18 (.bin .eql (.t 16) (.t 17))]
def agy:=[m 19 5,m 4 19]
def agz:=[m 10 5,ad 11 10 1,m 5 11]
def agA:=[aX 4 (-1)]
def Cz:aR:=(s (r agu) (s (s (r agv) (.block 0 (.loop (s (s (r agw) (.cond (.t 9) .skip (.exit 0))) (s (.block 1 (s (r agx) (.cond (.t 18) (s (r agy) .ret) .skip))) (r agz)))))) (s (r agA) .ret)))
def Ma:List bg:=[.tmp 4]
theorem T0:bI Tryz.prog Tryz.f93 Cz:=e (by kernel_rfl)
theorem V8:bJ Tryz.prog Tryz.f93 Ma:=e (by kernel_rfl)
theorem R6:bG Tryz.prog 93:=e (by kernel_rfl)
def IB:=[o 6 (.mv bp)]
def IC:=[m 7 1,m 8 0,o 9 (.bin .leq (.t 7) (.t 8)),m 10 9,cz 11 0 10,cz 12 2 10,bF 13 (.bin .leq (.t 11) (.t 12)) 10,and 14 10 13,m 6 14]
def CA:aR:=(s (r IB) (s (r IC) .ret))
def Mb:List bg:=[.tmp 6]
theorem T3:bI Tryz.prog Tryz.f94 CA:=e (by kernel_rfl)
theorem V9:bJ Tryz.prog Tryz.f94 Mb:=e (by kernel_rfl)
theorem R7:bG Tryz.prog 94:=e (by kernel_rfl)
def agB:=[l 7 1,m 8 0,o 9 (.lk (.i .i64) (.bool false) false (.t 7) (.t 8))]
def agC:=[l 10 1,m 11 0,p (.gB (.i .i64) (.t 10) (.t 11) T)]
def agD:=[l 12 2,o 13 (.nilC (.t 12)),f 14 0 0 13,l 15 14,o 16 (.kg (.t 15))]
def xD:=[o 17 (.iH (.t 16)),o 18 (.ext (.t 17) 0)]
def agE:=[o 19 (.ent (.t 16)),o 20 (.ext (.t 19) 0),o 21 (.ext (.t 19) 1),m 5 20,m 6 21]
def agF:=[m 22 6,o 23 (.nilC (.t 22)),f 24 0 0 23,f 25 2 2 24,l 26 25,m 27 0,o 28 (.bin .eql (.t 26) (.t 27))]
def agG:=[l 29 3,m 30 5,o 31 (.eF (.t 29) [.t 30])]
def CB:aR:=(s (s (r agB) (.cond (.t 9) .ret .skip)) (s (r agC) (s (r agD) (.block 0 (.loop (s (r xD) (s (.cond (.t 18) .skip (.exit 0)) (.block 1 (s (r agE) (s (r agF) (.cond (.t 28) (r agG) .skip)))))))))))
def Mc:List bg:=[]
theorem T4:bI Tryz.prog Tryz.f95 CB:=e (by kernel_rfl)
theorem Wa:bJ Tryz.prog Tryz.f95 Mc:=e (by kernel_rfl)
theorem R8:bG Tryz.prog 95:=e (by kernel_rfl)
def agH:=[o 3 (.mv bp)]
def agI:=[l 4 1,m 5 0,o 6 (.nilC (.t 5)),f 7 0 0 6,f 8 0 0 7,l 9 8,o 10 (.lk (.i .i64) (.bool false) false (.t 4) (.t 9)),m 3 10]
def W6:=some [[],[],[1],[2],[3],[4],[0,5],[6,0,1,2,3,4,5,6]]
def CC:aR:=(s (r agH) (s (.bW W6 agI) .ret))
def Md:List bg:=[.tmp 3]
theorem T5:bI Tryz.prog Tryz.f96 CC:=e (by kernel_rfl)
theorem Wb:bJ Tryz.prog Tryz.f96 Md:=e (by kernel_rfl)
theorem R9:bG Tryz.prog 96:=e (by kernel_rfl)
def agJ:=[o 2 (.mv (.c (.nils 1)))]
def agK:=[o 3 (.mv (.c (.nils 1)))]
def agL:=[aX 4 0]
def agM:=[m 5 4,m 6 0,o 7 (.len (.t 6)),lt 8 5 7]
def agN:=[m 11 3,m 12 0,m 13 4,o 14 (.is 1 (.t 12) (.t 13)),l 15 14,o 16 (.call 140 [.t 11,.t 15]),m 3 16]
def agO:=[m 9 4,ad 10 9 1,m 4 10]
def agP:=[m 17 3,m 2 17]
def CD:aR:=(s (r agJ) (s (r agK) (s (s (r agL) (.block 0 (.loop (s (s (r agM) (.cond (.t 8) .skip (.exit 0))) (s (.block 1 (r agN)) (r agO)))))) (s (r agP) .ret))))
def Me:List bg:=[.tmp 2]
theorem T6:bI Tryz.prog Tryz.f97 CD:=e (by kernel_rfl)
theorem Wc:bJ Tryz.prog Tryz.f97 Me:=e (by kernel_rfl)
theorem Sa:bG Tryz.prog 97:=e (by kernel_rfl)
def ID:=[b 1 0,aX 2 0]
def IE:=[aX 3 0]
def IF:=[m 4 3,o 5 (.bin .lss (.t 4) (al 5))]
def IG:=[m 8 3,o 9 (.ia 5 1 (.t 1) (.t 8)),l 10 9,o 11 (.call 94 [.t 10,(al 0),(al 31)]),no 12 11,m 13 12,eC 14 3 13,on 15 (.ia 5 1 (.t 1) (.t 14)) 13,eU 16 15 13,eC 17 3 13,on 18 (.bin .shl (al 1) (.t 17)) 13,on 19 (.bin .and (.t 16) (.t 18)) 13,on 20 (.bin .eql (.t 19) (al 0)) 13,or 21 13 20]
def W7:=some [[],[0],[1],[2],[3],[4,3],[5],[6,5],[7,5],[5],[9,5],[8,10,5],[11,5],[5,12]]
def xE:=[aX 2 11]
def IH:=[m 6 3,ad 7 6 1,m 3 7]
def II:=[aX 2 0]
def CE:aR:=(s (r ID) (s (s (r IE) (.block 0 (.loop (s (s (r IF) (.cond (.t 5) .skip (.exit 0))) (s (.block 1 (s (.bW W7 IG) (.cond (.t 21) (s (r xE) .ret) .skip))) (r IH)))))) (s (r II) .ret)))
def Mf:List bg:=[.tmp 2]
theorem T7:bI Tryz.prog Tryz.f99 CE:=e (by kernel_rfl)
theorem Wd:bJ Tryz.prog Tryz.f99 Mf:=e (by kernel_rfl)
theorem Sb:bG Tryz.prog 99:=e (by kernel_rfl)
def D5:=[b 1 0,aX 2 0]
def D6:=[aX 3 0]
def D7:=[m 4 3,o 5 (.bin .lss (.t 4) (al 6))]
def D8:=[m 8 3,o 9 (.ia 6 1 (.t 1) (.t 8)),l 10 9,o 11 (.call 94 [.t 10,(al 0),(al 4)]),no 12 11]
def D9:=[aX 2 10]
def Ea:=[m 6 3,ad 7 6 1,m 3 7]
def Eb:=[aX 2 0]
def AN:aR:=(s (r D5) (s (s (r D6) (.block 0 (.loop (s (s (r D7) (.cond (.t 5) .skip (.exit 0))) (s (.block 1 (s (r D8) (.cond (.t 12) (s (r D9) .ret) .skip))) (r Ea)))))) (s (r Eb) .ret)))
def Kr:List bg:=[.tmp 2]
theorem Sg:bI Tryz.prog Tryz.f100 AN:=e (by kernel_rfl)
theorem Ur:bJ Tryz.prog Tryz.f100 Kr:=e (by kernel_rfl)
theorem Qq:bG Tryz.prog 100:=e (by kernel_rfl)
def Ec:=[b 1 0,aX 2 0]
def Ed:=[aX 3 0]
def Ee:=[m 4 3,o 5 (.bin .lss (.t 4) (al 6))]
def Ef:=[m 8 3,o 9 (.ia 6 1 (.t 1) (.t 8)),l 10 9,o 11 (.call 94 [.t 10,(al 1),(al 31)]),no 12 11]
def Eg:=[aX 2 12]
def Ei:=[m 6 3,ad 7 6 1,m 3 7]
def Ej:=[aX 2 0]
def AO:aR:=(s (r Ec) (s (s (r Ed) (.block 0 (.loop (s (s (r Ee) (.cond (.t 5) .skip (.exit 0))) (s (.block 1 (s (r Ef) (.cond (.t 12) (s (r Eg) .ret) .skip))) (r Ei)))))) (s (r Ej) .ret)))
def Ks:List bg:=[.tmp 2]
theorem Sh:bI Tryz.prog Tryz.f101 AO:=e (by kernel_rfl)
theorem Us:bJ Tryz.prog Tryz.f101 Ks:=e (by kernel_rfl)
theorem Qr:bG Tryz.prog 101:=e (by kernel_rfl)
def Ek:=[b 2 0,b 3 1,o 4 (.mv (.c (.dh)))]
def El:=[o 9 (.jM),o 5 (.alloc (.raw (.map none))),p (.br none (.t 5) (.t 9))]
def Em:=[l 10 2,o 11 (.len (.t 10)),o 12 (.ka 4 1 (.bool false) (.t 11)),o 6 (.alloc (.nils 1)),p (.br none (.t 6) (.t 12))]
def En:=[l 13 2,o 14 (.call 145 [.t 13])]
def Yp:=[m 7 15]
def Yq:=[o 8 (.alloc (.agg [.agg [.int .i64 0,.int .i64 0],.int .i64 0,.int .i64 0,.int .i64 0,.int .i64 0,.int .i64 0,.int .i64 0,.int .i64 0,.agg [.int .i64 0,.int .i64 0,.int .i64 0,.int .i64 0,.int .i64 0,.int .i64 0],.agg [.int .i64 0,.int .i64 0]])),p (.br (some 17) (.t 8) (.t 16))]
def Yr:=[l 17 6,m 18 7,f 19 3 4 8,l 20 19,l 21 3,o 22 (.bin .leq (.t 20) (.t 21)),m 23 22,du 24 5 23,cT 25 0 0 8 23,bF 26 (.ld (some 2) (.t 25)) 23,bF 27 (.lk (.br [(.i .i64),(.i .i64)]) (.bool false) false (.t 24) (.t 26)) 23,bF 28 (.un .not (.t 27)) 23,and 29 23 28,o 30 (.is 1 (.t 17) (.t 18)),p (.br none (.t 30) (.t 29))]
def Wf:=some [[],[],[],[2],[],[3,4],[5],[6],[6],[8,6],[7,9,6],[10,6],[6,11],[0,1,0,1,2,3,4,5,6,7,8,9,10,11,12],[13,12,6,0,1,2,3,4,5,6,7,8,9,10,11,12]]
def Ys:=[l 31 6,m 32 7,o 33 (.is 1 (.t 31) (.t 32)),l 34 33,m 35 34,cT 36 1 2 8 35,du 37 36 35,bF 38 (.bin .eql (.t 37) (al 0)) 35,and 39 35 38]
def Yt:=[l 40 5,f 41 9 15 8,L 42 2 41,p (.gB (.br [(.i .i64),(.i .i64)]) (.t 40) (.t 42) T)]
def Yu:=[o 43 (.mk 146 [.t 2,.t 6]),m 4 43]
def AP:aR:=(s (r Ek) (s (r El) (s (r Em) (s (s (r En) (.block 0 (.ly (.t 14) [15,16] (s (r Yp) (r Yq)) (.block 1 (s (.bW Wf Yr) (s (r Ys) (.cond (.t 39) (r Yt) .skip))))))) (s (r Yu) .ret)))))
def Kt:List bg:=[.tmp 4]
theorem Si:bI Tryz.prog Tryz.f105 AP:=e (by kernel_rfl)
theorem Ut:bJ Tryz.prog Tryz.f105 Kt:=e (by kernel_rfl)
theorem Qs:bG Tryz.prog 105:=e (by kernel_rfl)
def Eo:=[o 4 (.mv (.c (.nils 1)))]
def Ep:=[m 8 0,o 9 (.len (.t 8)),o 10 (.ka 4 1 (.bool false) (.t 9)),m 5 10]
def Er:=[m 11 0,o 12 (.len (.t 11)),o 13 (.bin .sub (.t 12) (al 1)),m 6 13]
def Yx:=[m 14 6,o 15 (.bin .geq (.t 14) (al 0))]
def Yy:=[m 18 5,m 19 6,m 20 0,m 21 6,o 22 (.is 17 (.t 20) (.t 21)),f 23 3 4 22,l 24 23,m 25 1,o 26 (.bin .leq (.t 24) (.t 25)),o 27 (.is 1 (.t 18) (.t 19)),p (.br none (.t 27) (.t 26))]
def Yz:=[m 28 6,ad 29 28 1,m 7 29]
def YA:=[m 30 7,m 31 0,o 32 (.len (.t 31)),lt 33 30 32]
def YB:=[m 36 5,m 37 7,o 38 (.is 1 (.t 36) (.t 37)),l 39 38,m 40 39,cz 41 0 40,cz 42 7 40,bF 43 (.is 17 (.t 41) (.t 42)) 40,cT 44 1 2 43 40,du 45 44 40,bF 46 (.bin .eql (.t 45) (al 0)) 40,and 47 40 46,m 48 47,cz 49 0 48,cz 50 7 48,bF 51 (.is 17 (.t 49) (.t 50)) 48,cT 52 9 15 51 48,bF 53 (.ld (some 2) (.t 52)) 48,cz 54 0 48,cz 55 6 48,bF 56 (.is 17 (.t 54) (.t 55)) 48,cT 57 0 0 56 48,bF 58 (.ld (some 2) (.t 57)) 48,bF 59 (.eqv (.br [(.i .i64),(.i .i64)]) false (.t 53) (.t 58)) 48,and 60 48 59]
def Wg:=some [[],[],[0,1],[2],[3],[4],[4],[5,6,4],[7,4],[8,4],[9,4],[4,10],[11,4],[12],[12],[13,14,12],[15,12],[16,12],[12],[12],[18,19,12],[20,12],[21,12],[17,22,12],[12,23]]
def YC:=[m 61 5,m 62 6,o 63 (.is 1 (.t 61) (.t 62)),p (.br none (.t 63) bp)]
def YD:=[m 34 7,ad 35 34 1,m 7 35]
def Yv:=[m 16 6,o 17 (.bin .sub (.t 16) (al 1)),m 6 17]
def Yw:=[m 64 5,m 4 64]
def AQ:aR:=(s (r Eo) (s (r Ep) (s (s (r Er) (.block 0 (.loop (s (s (r Yx) (.cond (.t 15) .skip (.exit 0))) (s (.block 1 (s (r Yy) (s (r Yz) (.block 2 (.loop (s (s (r YA) (.cond (.t 33) .skip (.exit 2))) (s (.block 3 (s (.bW Wg YB) (.cond (.t 60) (r YC) .skip))) (r YD)))))))) (r Yv)))))) (s (r Yw) .ret))))
def Ku:List bg:=[.tmp 4]
theorem Sj:bI Tryz.prog Tryz.f106 AQ:=e (by kernel_rfl)
theorem Uu:bJ Tryz.prog Tryz.f106 Ku:=e (by kernel_rfl)
theorem Qt:bG Tryz.prog 106:=e (by kernel_rfl)
theorem CF:bG Tryz.prog 107:=e (by kernel_rfl)
end Go.Proofs.YtcldiigclhgafaaGreat
namespace Go.Abs
open Go Go.RowKit
def pR(on:List (List Nat)):List Nat:=on.foldl (fun acc ks=>acc++[oi acc ks]) []
def wh(d:Option (List (List Nat)))(gs:List aC):Bool:=match d with
 |none=>true
 |some on=>sU on gs (pR on)
section
variable {c:cO} {Q:Exit→af→Prop} {A:af} {d:Option (List (List Nat))} {on:List (List Nat)} {gs:List aC}
theorem J.b6(ae:wh d gs=true)(h:∀ K:af→Prop,(∀ B,Q .normal B→K B)→bh c.P c.Y d.isSome K (aA gs A)):J c (.bW d gs) Q A:=by
 cases d with
 |none=>exact J.bW (cl:=[]) rfl h
 |some on=>exact J.bW (cl:=pR on) ae h
theorem J.az{y:aR}(ae:wh d gs=true)(h:∀ K:af→Prop,(∀ B,J c y Q B→K B)→bh c.P c.Y d.isSome K (aA gs A)):J c (.seq (.bW d gs) y) Q A :=
 J.seq (J.b6 ae h)
theorem J.rT(hs:List FuncId)(L:eB)(σ:List Nat)(ae:uk hs L on gs (pR on) σ=true)(hi:eA L A)(h:∀ K:af→Prop,(∀ B,Q .normal B→K B)→cg c.P hs K (aA (mg σ gs) A)):J c (.bW (some on) gs) Q A :=
 J.akP hs L (pR on) σ ae hi h
theorem J.akO(hs:List FuncId)(L:eB)(σ:List Nat)(ae:um hs L on gs (pR on) σ=true)(hi:eA L A)(h:∀ K:af→Prop,(∀ B,Q .normal B→K B)→cg c.P hs K (aA (mg σ gs) A)):J c (.bW (some on) gs) Q A :=
 J.akQ hs L (pR on) σ ae hi h
def gI(c:cO):aR→(Exit→af→Prop)→af→Prop
 | .seq x y,Q,A=>gI c x (aG (fun B=>J c y Q B) Q) A
 | .block id x,Q,A=>gI c x (cj id Q) A
 | .skip,Q,A=>Q .normal A
 | .exit id,Q,A=>Q (.exit id) A
 | .ret,Q,A=>Q .ret A
 | .cond b x y,Q,A=>aq (ah A b) (J c x Q A) (J c y Q A)
 |x,Q,A=>J c x Q A
def ah3:aR→Bool
 | .seq _ _ | .block _ _ | .skip | .exit _ | .ret | .cond _ _ _=>true
 |_=>false
theorem gI.vE:∀ (x:aR) {Q:Exit→af→Prop} {A:af},gI c x Q A→J c x Q A
 | .seq x y,_,_,h=>J.seq (gI.vE x h)
 | .block id x,_,_,h=>J.block (gI.vE x h)
 | .skip,_,_,h=>J.skip h
 | .exit _,_,_,h=>J.exit h
 | .ret,_,_,h=>J.ret h
 | .cond _ _ _,_,_,h=>J.bX h
 | .bW _ _,_,_,h | .loop _,_,_,h | .scope _,_,_,h | .label,_,_,h | .nu,_,_,h | .ly _ _ _ _,_,_,h=>h
theorem J.of{x:aR}(_:ah3 x=true)(h:gI c x Q A):J c x Q A:=gI.vE x h
theorem aK :
  (∀ c x y Q A,gI c (.seq x y) Q A=gI c x (aG (fun B=>J c y Q B) Q) A)∧(∀ c id x Q A,gI c (.block id x) Q A=gI c x (cj id Q) A)∧(∀ c Q A,gI c .skip Q A=Q .normal A)∧(∀ c id Q A,gI c (.exit id) Q A=Q (.exit id) A)∧(∀ c Q A,gI c .ret Q A=Q .ret A) ∧
  (∀ c b x y Q A,gI c (.cond b x y) Q A=aq (ah A b) (J c x Q A) (J c y Q A))∧(∀ c d gs Q A,gI c (.bW d gs) Q A=J c (.bW d gs) Q A)∧(∀ c x Q A,gI c (.loop x) Q A=J c (.loop x) Q A)∧(∀ c f ps x y Q A,gI c (.ly f ps x y) Q A=J c (.ly f ps x y) Q A) ∧
  (∀ k Q A,aG k Q .normal A=k A)∧(∀ k Q A,aG k Q .ret A=Q .ret A)∧(∀ k Q A i,aG k Q (.exit i) A=Q (.exit i) A)∧(∀ i Q A,cj i Q .normal A=Q .normal A)∧(∀ i Q A,cj i Q .ret A=Q .ret A)∧(∀ i Q A j,cj i Q (.exit j) A=if j=i then Q .normal A else Q (.exit j) A) ∧
  (∀ p q,aq (.bool true) p q=p)∧(∀ p q,aq (.bool false) p q=q)∧(type_of% @x4) :=
 ⟨fun _ _ _ _ _=>rfl,fun _ _ _ _ _=>rfl,fun _ _ _=>rfl,fun _ _ _ _=>rfl,fun _ _ _=>rfl,fun _ _ _ _ _ _=>rfl,fun _ _ _ _ _=>rfl,fun _ _ _ _=>rfl,fun _ _ _ _ _ _ _=>rfl,fun _ _ _=>rfl,fun _ _ _=>rfl,fun _ _ _ _=>rfl,fun _ _ _=>rfl,fun _ _ _=>rfl,fun _ _ _ _=>rfl,
  fun p q=>by simp[aq],fun p q=>by simp[aq],x4⟩
theorem aq.aH{t:Bool}{p q:Prop}(h1:t=true→p)(h2:t=false→q):aq (.bool t) p q:=⟨h1,h2⟩
theorem J.aI{g:aC}{r:List aC}(ae:wh d gs=true)(e:gs=g::r)(h:∀ K:af→Prop,(∀ B,Q .normal B→K B)→bh c.P c.Y d.isSome K (aA (g::r) A)):J c (.bW d gs) Q A :=
 J.b6 ae (e▸h)
theorem bh.ay(L:List Nat){P:Program}{Y:Value→List I→List (Nat×aj)→cV→Prop}{dr:Bool}{x:aR}{K:af→Prop}{ts:List (Nat×I)}{os:List (Nat×aj)}(hK:∀ B,J c x Q B→K B)(h:J c x Q (au (gZ L ts) os)):bh P Y dr K (.done (au ts os)) :=
 .done (hK _ (J.fQ L h))
theorem cg.ay(L:List Nat){P:Program}{hs:List FuncId}{x:aR}{K:af→Prop}{ts:List (Nat×I)}{os:List (Nat×aj)}(hK:∀ B,J c x Q B→K B)(h:J c x Q (au (gZ L ts) os)):cg P hs K (.done (au ts os)) :=
 .done (hK _ (J.fQ L h))
end
end Go.Abs
