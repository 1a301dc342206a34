/-
  A part of the proof that the law HerdSince returns true for every input; conditions: none beyond the statement's own. (part 2 of 7)
-/
import Derived.Maps.RangeRun
import Derived.Laws.MakeOwn
import Derived.Orders
import Derived.OrdersIn
import Derived.Test.YtcldiigclhgafaaGreatNia
set_option linter.unusedSimpArgs false
set_option linter.unusedVariables false
set_option maxHeartbeats 16000000
set_option maxRecDepth 100000
namespace Go.Abs
open Go Go.RowKit
theorem E6{w:World}{D:aW}{E:a8} : ∀ (l:List cW) (xs ys:List I) (cs ds:List Value),l.all yP=true→jz l xs ys=some true→aL w D E xs cs→aL w D E ys ds→xs=ys∧cs=ds∧∀ v∈cs,∃ k n,v=.int k n
 | [],xs,ys,cs,ds,_,h,hx,hy=>by
  simp only[jz] at h;split at h
  ·simp only[aL] at hx hy;subst hx hy;exact ⟨rfl,rfl,fun v hv=>by simp at hv⟩
  ·cases h
 |t::ts,xs,ys,cs,ds,ha,h,hx,hy=>by
  simp only[List.all_cons,zz3] at ha;simp only[jz] at h;split at h
  case h_2=>cases h
  rename_i f fs g gs;unfold ja at h;split at h
  case h_2=>cases h
  rename_i a b h1 h2;simp only[u8,zz3] at h;obtain ⟨rfl,rfl⟩:=h;simp only[aL] at hx hy;obtain ⟨c1,c2,rfl,p1,p2⟩:=hx;obtain ⟨d1,d2,rfl,q1,q2⟩:=hy;obtain ⟨rfl,rfl,k3⟩:=E6 ts fs gs c2 d2 ha.2 h2 p2 q2;cases t with
  |i k =>
   simp only[cw] at h1;split at h1
   case h_2=>cases h1
   rename_i k1 a k2 b;split at h1
   case isFalse=>cases h1
   rename_i hk;simp only[u8,beq_iff_eq] at h1;subst h1;obtain ⟨rfl,rfl⟩:=hk;simp only[ai] at p1 q1;obtain ⟨rfl,_⟩:=p1;obtain ⟨rfl,_⟩:=q1;refine ⟨rfl,rfl,fun v hv =>?_⟩;rcases zy5.1 hv with hv | hv
   ·simp at hv;exact ⟨_,_,hv⟩
   ·exact k3 v hv
  |b | s | bu _ | kj _ _=>simp[yP] at ha
theorem Qn:∀ (cs:List Value) (n:Nat),(∀ v∈cs,∃ k m,v=.int k m)→((cs.zip cs).all fun (x,y)=>Instr.sameBits n x y)=true
 | [],_,_=>rfl
 |v::cs,n,h=>by
  obtain ⟨k,m,rfl⟩:=h v (by simp);simp only[List.zip_cons_cons,List.all_cons,zz3];exact ⟨by cases n <;>simp[Instr.sameBits],Qn cs n fun v hv=>h v (by simp[hv])⟩
theorem amc{P:Program}{t:TypeId}{ty:cW}{w:World}{D:aW}{E:a8}{x y:I}{u v:Value}(hk:mC P t=some ty)(h:cw ty x y=some true)(hx:a7 w D E x u)(hy:a7 w D E y v):x=y∧u=v∧Instr.sameBits 10000 u v=true:=by
 unfold mC at hk;split at hk
 ·rename_i k hu;simp only[u8] at hk;subst hk;simp only[cw] at h;split at h
  case h_2=>cases h
  split at h
  case isFalse=>cases h
  rename_i hk;simp only[u8,beq_iff_eq] at h;subst h;obtain ⟨rfl,rfl⟩:=hk;rw[(fS hx).1,(fS hy).1];exact ⟨rfl,rfl,by simp[Instr.sameBits]⟩
 ·rename_i fs hu;split at hk
  case h_2=>cases hk
  rename_i l hl;split at hk
  case isFalse=>cases hk
  rename_i hc;simp only[u8] at hk;subst hk;simp only[cw] at h;split at h
  case h_2=>cases h
  rename_i xs ys;obtain ⟨cs,rfl,hc1⟩:=kd hx;obtain ⟨ds,rfl,hd1⟩:=kd hy;obtain ⟨rfl,rfl,h3⟩:=E6 l xs ys cs ds hc.1 h hc1 hd1;refine ⟨rfl,rfl,?_⟩;simp only[Instr.sameBits,beq_self_eq_true,Bool.true_and];exact Qn cs _ h3
 ·cases hk
section
variable {P:Program} {w:World} {D:aW} {E:a8}
theorem Ek{t:TypeId}{ty:cW}{em:Bool}{x y:I}{v:Value}{r:Bool}(hk:mC P t=some ty)(hx:a7 w D E x v)(h:cw ty x y=some r)(n:Nat):(Instr.checkKey em (n+2) t v).run P w=.ok () w:=by
 unfold mC at hk;split at hk
 ·rename_i k hu;simp only[u8] at hk;subst hk;simp only[cw] at h;split at h
  case h_2=>cases h
  rename_i k1 a k2 b;split at h
  case isFalse=>cases h
  rename_i hq;rw[(fS hx).1,hq.1];exact MapKept.run_checkKey hu (by simp[MapKept.IsKey]) em (n+1)
 ·rename_i fs hu;split at hk
  case h_2=>cases hk
  rename_i l hl;split at hk
  case isFalse=>cases hk
  rename_i hc;simp only[u8] at hk;subst hk;simp only[cw] at h;split at h
  case h_2=>cases h
  rename_i xs ys;obtain ⟨cs,rfl,hc1⟩:=kd hx;obtain ⟨d,hd⟩:∃ d,d=11:=⟨_,rfl⟩
  rw[show (12:Nat)=d+1 from by omega] at hl;simp only[ic,hu] at hl;split at hl
  case isFalse=>cases hl
  rename_i hc2;simp only[zz1,cW.bu.injEq] at hl;obtain ⟨l',hl,rfl⟩:=hl;rw[show n+2=(n+1)+1 from rfl,Instr.checkKey];simp only[Sem.run_bind,run_underlying hu,Result.andThen_ok];rw[←Array.forIn_toList];have key:∀ (ay:List Field) (l:List cW) (xs ys:List I) (r:Bool) (c1 c2:List Value),
    (ay.mapM fun f=>match ic P d f.type with
     |some ty=>if ty.size=P.cellsOf f.type then some ty else none
     | none => none) = some l → (∀ f ∈ ay, f.name ≠ "_" ∧ r7 (P.underlying f.type) = true) → qQ P c1.length ay = true → aL w D E xs c2 → jz l xs ys = some r → c1 ++ c2 = cs →
    Sem.run P (forIn ay PUnit.unit (fun (f : Field) (_ : PUnit) => (if f.name ≠ "_" then (do
     let x ←part f.type cs.toArray f.offset
     Instr.checkKey em (n+1) f.type x
     pure (ForInStep.yield PUnit.unit)) else pure (ForInStep.yield PUnit.unit):Sem (ForInStep PUnit)))) w=.ok PUnit.unit w:=by
   intro ay
   induction ay with
   |nil=>intros;simp
   |cons f ay ih =>
    intro l xs ys r c1 c2 hm hn ho hx h htot;simp only[List.mapM_cons,Option.bind_eq_bind,Option.pure_def,Option.bind_eq_some_iff,u8] at hm;obtain ⟨ty,hty,tys,htys,rfl⟩:=hm;split at hty
    case h_2=>cases hty
    rename_i ty' hd';split at hty
    case isFalse=>cases hty
    rename_i hsz;simp only[u8] at hty;subst hty;simp only[jz] at h;split at h
    case h_2=>cases h
    rename_i x xs y ys;unfold ja at h;split at h
    case h_2=>cases h
    rename_i ra rb h1 h2;simp only[aL] at hx;obtain ⟨e1,e2,rfl,k1,k2⟩:=hx;obtain ⟨s,q1,q2,q3⟩:=w0 hd' hsz h1;obtain ⟨u,p1,p2⟩:=pK (P:=P) (w:=w) (c1:=c1) (c3:=e2) q1 q2 k1;simp only[qQ,zz3,beq_iff_eq] at ho;have hsx:=qu ty' x y ra h1;have hle:e1.length=P.cellsOf f.type:=by rw[ai.length _ _ k1,hsx.1,hsz]
    have ih':=ih tys xs ys rb (c1++e1) e2 htys (fun g hg=>hn g (by simp[hg])) (by simp only[zz2,hle];exact ho.2) k2 h2 (by rw[←htot];simp);rw[zz5,htot,←ho.1] at p1;obtain ⟨hnm,hint⟩:=hn f (by simp);have hck:(Instr.checkKey em (n+1) f.type u).run P w=.ok () w:=by
     cases hu:P.underlying f.type with
     |none=>simp[hu,r7] at hint
     |some dd =>
      cases dd <;>simp[hu,r7] at hint
      rename_i q;have hti:ty'=.i q:=by
       rw[show d=10+1 from by omega] at hd';unfold ic at hd';simp only[hu,u8] at hd';exact hd'.symm
      subst hti;simp only[cw] at h1;split at h1
      case h_2=>cases h1
      split at h1
      case isFalse=>cases h1
      rename_i hq;rw[(fS p2).1,hq.1];exact MapKept.run_checkKey hu (by simp[MapKept.IsKey]) em n
    simp only[List.forIn_cons,Sem.run_bind,hnm,ne_eq,not_false_eq_true,if_true,p1,Result.andThen_ok,hck,Sem.run_pure];exact ih'
  rw[key fs.toList l' xs ys r [] cs hl (fun f hf=>⟨by simpa using zx3.1 hc2.2.1 f hf,Array.all_eq_true_iff_forall_mem.1 hc.2 f (Array.mem_toList_iff.1 hf)⟩) hc2.2.2 hc1 h rfl];simp
 ·cases hk
theorem Al{x:I}{xs:List I}{vs:List Value}(h:aK w D E (x::xs) vs):∃ v rest,vs=v::rest∧a7 w D E x v∧aK w D E xs rest:=by
 simp only[aK] at h;obtain ⟨v,rest,cs,rfl,h1,h2,h3⟩:=h;exact ⟨v,rest,rfl,nz h1 h2,h3⟩
def p6(r:Option Nat)(es:List MapEntry)(i:Nat)(q:Option (Nat×Value)):Prop :=
 (r=none∧q=none)∨∃ j e,r=some (i+j)∧es[j]?=some e∧q=some (i+j,e.val)
theorem p6.step{r:Option Nat}{es:List MapEntry}{e:MapEntry}{i:Nat}{q:Option (Nat×Value)}(h:p6 r es (i+1) q):p6 r (e::es) i q:=by
 rcases h with h | ⟨j,e',h1,h2,h3⟩
 ·exact .inl h
 ·exact .inr ⟨j+1,e',by rw[h1];congr 1;omega,by simpa using h2,by rw[h3];congr 2;omega⟩
theorem Ft{q:IntKind}{k:I}{v:Value}(hv:a7 w D E k v):∀ (ks:List I) (es:List MapEntry) (i:Nat) (r:Option Nat),aK w D E ks (es.map (·.key))→fv (.i q) k ks i=some r →
  ∃ x,Instr.findNow (.int q) v es i=some x∧p6 r es i x
 | [],es,i,r,hk,h=>by
  simp only[fv,u8] at h;simp only[aK,List.map_eq_nil_iff] at hk;subst h hk;exact ⟨none,rfl,.inl ⟨rfl,rfl⟩⟩
 |x::ks,es,i,r,hk,h=>by
  obtain ⟨u,rest,e1,hu,hr⟩:=Al hk;cases es with
  |nil=>cases e1
  |cons e es =>
   simp only[zy2,List.cons.injEq] at e1;obtain ⟨rfl,rfl⟩:=e1;simp only[fv] at h;have same:∀ b,cw (.i q) k x=some b→Instr.sameNow (.int q) v e.key=some b:=fun b hb=>by
    simp only[cw] at hb;split at hb
    case h_2=>cases hb
    split at hb
    case isFalse=>cases hb
    rename_i hq;simp only[u8] at hb;subst hb;rw[(fS hv).1,(fS hu).1];simp[Instr.sameNow,hq.1,hq.2]
   split at h
   ·rename_i hb;simp only[u8] at h;subst h;exact ⟨some (i,e.val),by simp[Instr.findNow,same _ hb],.inr ⟨0,e,rfl,rfl,rfl⟩⟩
   ·rename_i hb;obtain ⟨y,h1,h2⟩:=Ft hv ks es (i+1) r hr h;exact ⟨y,by simp[Instr.findNow,same _ hb,h1],h2.step⟩
   ·cases h
theorem Fp{t:TypeId}{ty:cW}(hty:ic P 12 t=some ty){k:I}{v:Value}(hv:a7 w D E k v):∀ (ks:List I) (es:List MapEntry) (i:Nat) (r:Option Nat),aK w D E ks (es.map (·.key))→fv ty k ks i=some r →
  ∃ x,(Instr.findAsking t v es i).run P w=.ok x w∧p6 r es i x
 | [],es,i,r,hk,h=>by
  simp only[fv,u8] at h;simp only[aK,List.map_eq_nil_iff] at hk;subst h hk;exact ⟨none,rfl,.inl ⟨rfl,rfl⟩⟩
 |x::ks,es,i,r,hk,h=>by
  obtain ⟨u,rest,e1,hu,hr⟩:=Al hk;cases es with
  |nil=>cases e1
  |cons e es =>
   simp only[zy2,List.cons.injEq] at e1;obtain ⟨rfl,rfl⟩:=e1;simp only[fv] at h;have same:∀ b,cw ty k x=some b→(Op.equal t v e.key).run P w=.ok b w:=fun b hb=>tG 12 t ty hty k x v e.key b hv hu hb _ (by simp[Op.maxDepth]);split at h
   ·rename_i hb;simp only[u8] at h;subst h;exact ⟨some (i,e.val),by simp[Instr.findAsking,same _ hb],.inr ⟨0,e,rfl,rfl,rfl⟩⟩
   ·rename_i hb;obtain ⟨y,h1,h2⟩:=Fp hty hv ks es (i+1) r hr h;exact ⟨y,by simp[Instr.findAsking,same _ hb,h1],h2.step⟩
   ·cases h
theorem tI{t:TypeId}{ty:cW}(hk:mC P t=some ty){k:I}{v:Value}(hv:a7 w D E k v){ks:List I}{es:List MapEntry}{r:Option Nat}(hks:aK w D E ks (es.map (·.key)))(h:fv ty k ks 0=some r) :
  ∃ x,(Instr.findKey t v es).run P w=.ok x w∧p6 r es 0 x:=by
 have hk0:=hk;unfold mC at hk;split at hk
 ·rename_i q hu;simp only[u8] at hk;subst hk;obtain ⟨x,h1,h2⟩:=Ft hv ks es 0 r hks h;exact ⟨x,by simp[Instr.findKey,run_underlying hu,h1],h2⟩
 ·rename_i fs hu;split at hk
  case h_2=>cases hk
  rename_i l hl;split at hk
  case isFalse=>cases hk
  simp only[u8] at hk;subst hk;cases es with
  |nil =>
   cases ks with
   |nil =>
    simp only[fv,u8] at h;subst h;exact ⟨none,by simp[Instr.findKey,run_underlying hu,Instr.findNow],.inl ⟨rfl,rfl⟩⟩
   |cons x xs=>simp[aK] at hks
  |cons e es =>
   obtain ⟨x,h1,h2⟩:=Fp hl hv ks (e::es) 0 r hks h;exact ⟨x,by simp[Instr.findKey,run_underlying hu,Instr.findNow,Instr.sameNow,h1],h2⟩
 ·cases hk
theorem nK:∀ {xs:List I} {vs:List Value} {j:Nat} {v:Value},aK w D E xs vs→vs[j]?=some v→∃ x,xs[j]?=some x∧a7 w D E x v
 | [],vs,j,v,h,hj=>by simp only[aK] at h;subst h;simp at hj
 |x::xs,vs,j,v,h,hj=>by
  obtain ⟨u,rest,rfl,h1,h2⟩:=Al h;cases j with
  |zero=>simp only[List.getElem?_cons_zero,u8] at hj;subst hj;exact ⟨x,rfl,h1⟩
  |succ j=>exact nK (xs:=xs) h2 (by simpa using hj)
end
section
variable {c:c6} {A:af} {o:Oper} {x:I}
theorem amL{a:Act}{w:World}{D:aW}{E:a8}(hs:a6 c A a w D E){m:I}{v:Value}{ks vs:List I}(hv:a7 w D E m v)(hm:gV A m=some (ks,vs)) :
  (v=.map none∧ks=[]∧vs=[])∨∃ b es clock,v=.map (some b)∧w.heap[b]?=some (.map es clock)∧aK w D E ks (es.toList.map (·.key))∧aK w D E vs (es.toList.map (·.val)):=by
 unfold gV at hm;split at hm
 ·simp only[u8,Prod.mk.injEq] at hm;obtain ⟨rfl,rfl⟩:=hm;obtain ⟨cs,q1,q2⟩:=hv;simp only[ai] at q2;obtain ⟨b,es,ck,q3,q4,q5,q6⟩:=q2;exact .inr ⟨b,es,ck,by simpa[bN,I.isAgg,q3] using q1.symm,q4.1,q5,q6⟩
 ·rename_i n;split at hm
  case h_2=>cases hm
  rename_i ks' vs' hn;simp only[u8,Prod.mk.injEq] at hm;obtain ⟨rfl,rfl⟩:=hm;obtain ⟨cs,q1,q2⟩:=hv;simp only[ai] at q2;obtain ⟨b,q3,q4⟩:=q2;obtain ⟨b',es,ck,k1,k2,k3,k4,k5,k6,k7⟩:=hs.map hn;rw[k1] at q3;cases q3;exact .inr ⟨_,es,ck,by simpa[bN,I.isAgg,q4] using q1.symm,k3,k5,k6⟩
 ·simp only[u8,Prod.mk.injEq] at hm;obtain ⟨rfl,rfl⟩:=hm;obtain ⟨cs,q1,q2⟩:=hv;simp only[ai] at q2;exact .inl ⟨by simpa[bN,I.isAgg,q2.1] using q1.symm,rfl,rfl⟩
 ·cases hm
theorem pZ{w:World}{D:aW}{E:a8}{y:I}{v:Value}(hv:y.cq=true)(h:a7 w D E y v):∃ cs,bN y v cs∧ai w D E y cs:=by
 cases y <;>simp[I.cq] at hv <;>exact h
theorem re{w:World}{D:aW}{E:a8} : ∀ {xs:List I} {vs:List Value} {j:Nat} {x:I},aK w D E xs vs→xs[j]?=some x→x.cq=true
 | [],_,j,x,_,h=>by simp at h
 |y::ys,vs,j,x,hr,h=>by
  simp only[aK] at hr;obtain ⟨v,rest,cs,rfl,h1,h2,h3⟩:=hr;cases j with
  |zero =>
   simp only[List.getElem?_cons_zero,u8] at h;subst h;cases y <;>simp only[ai] at h2 <;>rfl
  |succ j=>exact re (xs:=ys) h3 (by simpa using h)
theorem aqF{x:I}{cs r:List Value}(h:nS x cs=some r):x.cq=true:=by
 cases x <;>first | rfl | (cases cs <;>simp[nS] at h)
theorem aqG{P:Program}{t:TypeId}{z:I}(hz:gI P t=some z)(hp:vF P t z=true):∃ zv,(∀ w,(zeroValue t).run P w=.ok zv w)∧z.cq=true∧∀ w D E,a7 w D E z zv:=by
 have hz0:=hz;obtain ⟨i,zv,hi,hzz,hzr⟩:=mY hz;have hv:z.cq=true:=by
  unfold gI at hz;split at hz
  ·split at hz
   ·rename_i hk;simp only[u8] at hz;subst hz;exact aqF hk
   ·cases hz
  ·cases hz
 refine ⟨zv,fun w=>by simp[zeroValue,typeInfo,hi,hzz],hv,fun w D E =>?_⟩;have h1:=hzr w D E;simp only[vF,hi,Option.bind_some,hzz] at hp;refine nz (cs:=zv.cells.toList) ?_ h1;cases zv <;>simp only[bN] at hp ⊢ <;>first
  |(rw[if_pos hp];simp[Value.cells])
  |(have hp':z.isAgg=false:=by simpa using hp
    rw[hp'];simp[Value.cells])
theorem alC{t kt et:TypeId}{m k:Operand}{m' k':aM}{ok:Bool}{ty:cW}{z v:I}{ks vs:List I}{there:Bool}(ho:o.op=.lookup t m k ok)(hu:c.P.underlying t=some (.map kt et))(hk:mC c.P kt=some ty)(hz:gI c.P et=some z)(hzp:vF c.P et z=true)
  (hm:bM c.P 0 m=some m') (hk':bM c.P 0 k=some k') (hmm:gV A (ae A m')=some (ks,vs)) (hl:gN ty z (ae A k') ks vs=some (v,there)):eb c A o (if ok then .tuple [v,.bool there] else v) :=
 .same fun a w D E hs=>by
  have h1:=cv hs hm;have h2:=cv hs hk';obtain ⟨zv,hzrun,hzv,hzrv⟩:=aqG hz hzp;unfold gN at hl;split at hl
  case isFalse=>cases hl
  rename_i hkk;obtain ⟨rk,hrk⟩:=zw2.1 hkk;have hchk:=fun em=>Ek (P:=c.P) (w:=w) (em:=em) hk h2 hrk 9998;have bC:∀ u there,v.cq=true→a7 w D E v u→a7 w D E (if ok then .tuple [v,.bool there] else v) (if ok then Value.tuple #[u,.bool there] else u):=fun u there hval hu'=>by
   cases ok
   ·exact hu'
   ·obtain ⟨cs,q1,q2⟩:=pZ hval hu';simp only[if_true,a7,aK];exact ⟨[u,.bool there],rfl,u,[.bool there],cs,rfl,q1,q2,.bool there,[],[.bool there],rfl,by simp[bN,I.isAgg],by simp[ai],rfl⟩
  have main:∀ (es:Array MapEntry),aK w D E ks (es.toList.map (·.key))→aK w D E vs (es.toList.map (·.val))→∃ u,v.cq=true∧a7 w D E v u ∧
    ((∃ i,(Instr.findKey kt (a.eval k) es.toList).run c.P w=.ok (some (i,u)) w∧there=true)∨((Instr.findKey kt (a.eval k) es.toList).run c.P w=.ok none w∧u=zv∧there=false)):=fun es hks hvs=>by
   split at hl
   ·rename_i i hfi;simp only[zz1,Prod.mk.injEq] at hl;obtain ⟨v',hv',rfl,rfl⟩:=hl;obtain ⟨q,q1,q2⟩:=tI hk h2 hks hfi;rcases q2 with ⟨e,_⟩ | ⟨j,e,e1,e2,rfl⟩
    ·cases e
    ·simp only[zz4,u8] at e1;subst e1;obtain ⟨x,k1,k2⟩:=nK (j:=i) (v:=e.val) hvs (by simp only[zw8,e2,zy6]);rw[hv',u8] at k1;subst k1;exact ⟨e.val,re hvs hv',k2,.inl ⟨_,q1,rfl⟩⟩
   ·rename_i hfi;simp only[u8,Prod.mk.injEq] at hl;obtain ⟨rfl,rfl⟩:=hl;obtain ⟨q,q1,q2⟩:=tI hk h2 hks hfi;rcases q2 with ⟨_,rfl⟩ | ⟨j,e,e1,_⟩
    ·exact ⟨zv,hzv,hzrv w D E,.inr ⟨q1,rfl,rfl⟩⟩
    ·cases e1
   ·cases hl
  rcases amL hs h1 hmm with ⟨e1,rfl,rfl⟩ | ⟨b,es,ck,e1,e2,e3,e4⟩
  ·obtain ⟨u,hval,hu',hrun⟩:=main #[] (by simp[aK]) (by simp[aK]);refine ⟨_,?_,bC u there hval hu'⟩;rcases hrun with ⟨i,q1,rfl⟩ | ⟨q1,rfl,rfl⟩ <;>
    simp only[execOp,ho,Instr.lookup,e1,Sem.run_bind,run_underlying hu,Result.andThen_ok,Sem.run_pure,hchk,q1,hzrun]
  ·obtain ⟨u,hval,hu',hrun⟩:=main es e3 e4;refine ⟨_,?_,bC u there hval hu'⟩;rcases hrun with ⟨i,q1,rfl⟩ | ⟨q1,rfl,rfl⟩ <;>
    simp only[execOp,ho,Instr.lookup,e1,Sem.run_bind,run_underlying hu,Result.andThen_ok,MapKept.run_getObj_map e2,Sem.run_pure,hchk,q1,hzrun]
theorem LK{y:Operand}{y':aM}(ho:o.op=.nilCheck y)(hy:bM c.P 0 y=some y')(h:(∃ n p,ae A y'=.ptr n p)∨∃ z,ae A y'=.ref z):eb c A o (ae A y') :=
 .same fun a w D E hs=>by
  have h1:=cv hs hy;rcases h with ⟨n,p,h⟩ | ⟨z,h⟩
  ·rw[h] at h1 ⊢;obtain ⟨b,aV,off,_,_,e⟩:=pL h1;exact ⟨a.eval y,by simp only[execOp,ho,e,Sem.run_pure],h1⟩
  ·rw[h] at h1 ⊢;obtain ⟨b,off,cs,e,_⟩:=qZ h1;exact ⟨a.eval y,by simp only[execOp,ho,e,Sem.run_pure],h1⟩
theorem L9{w:World}{D:aW}{E:a8}{x:I}{v:Value}{b:Bool}(h:jD x=some b)(hv:a7 w D E x v):∃ ad,v=.pointer ad∧ad.isNone=b:=by
 cases x <;>simp only[jD,u8] at h <;>try (cases h;done)
 case nilp =>
  subst h;obtain ⟨cs,q1,q2⟩:=hv;simp only[ai] at q2;exact ⟨none,by simpa[bN,I.isAgg,q2] using q1.symm,rfl⟩
 case ptr n p =>
  subst h;obtain ⟨b,aV,off,_,_,e⟩:=pL hv;exact ⟨_,e,rfl⟩
 case ref z =>
  subst h;obtain ⟨b,off,cs,e,_⟩:=qZ hv;exact ⟨_,e,rfl⟩
theorem alH{neg:Bool}{t yt e:TypeId}{y z:Operand}{y' z':aM}{b1 b2:Bool}(ho:o.op=.binOp (if neg then .neq else .eql) t y z yt)(hu:c.P.underlying t=some (.pointer e))(hy:bM c.P 0 y=some y')(hz:bM c.P 0 z=some z')
  (h1:jD (ae A y')=some b1) (h2:jD (ae A z')=some b2) (h:b1=true∨b2=true):eb c A o (.bool (if neg then !(b1&&b2) else (b1&&b2))) :=
 .same fun a w D E hs=>by
  obtain ⟨p,e1,k1⟩:=L9 h1 (cv hs hy);obtain ⟨q,e2,k2⟩:=L9 h2 (cv hs hz);have he:∀ d,(Op.equalIn (d+1) t (.pointer p) (.pointer q)).run c.P w=.ok (b1&&b2) w:=fun d=>by
   subst k1 k2;cases p <;>cases q <;>simp at h <;>simp[Op.equalIn,run_underlying hu]
  refine ⟨.bool (if neg then !(b1&&b2) else (b1&&b2)),?_,oD _⟩;cases neg <;>simp only[execOp,ho,e1,e2,if_true,zz6,if_false,Sem.run_bind,eqGuard] <;>simp[binOp,Op.equal,Op.maxDepth,he]
end
section
variable {c:c6} {A:af} {o:Oper} {x:I}
theorem abo{t:TypeId}{d:Nat}(ho:o.op=.makeMap t none)(hd:o.dst=some d)(hn:d<c.n)(hf:A.o d=none):jr c A o ((A.aU d (.cE [] [])).put d (.mref d)):=by
 intro a w D E hs;have h1:=hs.anc (.inl hn) hf;have h2:=h1.put (x:=.mref d) (v:=.map (some w.heap.size)) hn ⟨_,by simp[bN,I.isAgg];rfl,by
  simp only[ai,if_true];exact ⟨w.heap.size,rfl,rfl⟩⟩
 exact ⟨w.alloc (.map #[] 0),.inl ⟨.map (some w.heap.size),by simp[execOp,ho,Instr.makeMap],D,_,by rw[hd];exact h2⟩⟩
theorem Ak{w:World}{D:aW}{E:a8} : ∀ {xs ys:List I} {us vs:List Value},aK w D E xs us→aK w D E ys vs→aK w D E (xs++ys) (us++vs)
 | [],ys,us,vs,h,k=>by simp only[aK] at h;subst h;simpa using k
 |x::xs,ys,us,vs,h,k=>by
  simp only[aK,zz9] at *;obtain ⟨v,rest,cs,rfl,h1,h2,h3⟩:=h;exact ⟨v,rest++vs,cs,rfl,h1,h2,Ak h3 k⟩
theorem Qm{w:World}{D:aW}{E:a8} : ∀ {xs:List I} {us:List Value} {i:Nat} {y:I} {v:Value} {cs:List Value},aK w D E xs us→bN y v cs→ai w D E y cs→aK w D E (xs.set i y) (us.set i v)
 | [],us,i,y,v,cs,h,_,_=>by simp only[aK] at h;subst h;simp[aK]
 |x::xs,us,i,y,v,cs,h,k1,k2=>by
  simp only[aK] at h;obtain ⟨u,rest,ds,rfl,h1,h2,h3⟩:=h;cases i with
  |zero=>simp only[List.set_cons_zero,aK];exact ⟨v,rest,cs,rfl,k1,k2,h3⟩
  |succ i=>simp only[List.set_cons_succ,aK];exact ⟨u,_,ds,rfl,h1,h2,Qm h3 k1 k2⟩
theorem Ql{w:World}{D:aW}{E:a8}{y:I}{v:Value}{cs:List Value}(h1:bN y v cs)(h2:ai w D E y cs):aK w D E [y] [v]:=by
 simp only[aK];exact ⟨v,[],cs,rfl,h1,h2,rfl⟩
theorem Fs{ty:cW}{k:I} : ∀ {ks:List I} {i j:Nat},fv ty k ks i=some (some j)→∃ x,ks[j-i]?=some x∧i≤j∧cw ty k x=some true
 | [],i,j,h=>by simp[fv] at h
 |x::xs,i,j,h=>by
  simp only[fv] at h;split at h
  ·rename_i hb;simp only[u8] at h;subst h;exact ⟨x,by simp,zz7 _,hb⟩
  ·obtain ⟨y,h1,h2,h3⟩:=Fs h;refine ⟨y,?_,by omega,h3⟩;rw[show j-i=(j-(i+1))+1 from by omega];simpa using h1
  ·cases h
theorem EM{t kt et:TypeId}{m k v:Operand}{m' k' v':aM}{ty:cW}{n:Nat}{ks vs ks' vs':List I}(ho:o.op=.mapUpdate t m k v∨o.op=.insert t m k v)(hu:c.P.underlying t=some (.map kt et))(hk:mC c.P kt=some ty)
  (hm:bM c.P 0 m=some m') (hk':bM c.P 0 k=some k') (hv':bM c.P et v=some v') (hmm:ae A m'=.mref n) (hn:A.o n=some (.cE ks vs)) (hl:gO ty (ae A k') (ae A v') ks vs=some (ks',vs')) (hd:o.dst=none) :
  jr c A o (A.aU n (.cE ks' vs')):=by
 intro a w D E hs;have h1:=cv hs hm;have h2:=cv hs hk';have h3:=cv hs hv';rw[hmm] at h1;unfold gO at hl;split at hl
 case isFalse=>cases hl
 rename_i hc;obtain ⟨hkk,hkv,hvv⟩:=hc;obtain ⟨rk,hrk⟩:=zw2.1 hkk;have hchk:=fun em=>Ek (P:=c.P) (w:=w) (em:=em) hk h2 hrk 9998;obtain ⟨kcs,kp1,kp2⟩:=pZ hkv h2;obtain ⟨vcs,vp1,vp2⟩:=pZ hvv h3;obtain ⟨b,es,ck,k1,k2,k3,k4,k5,k6,k7⟩:=hs.map hn;have hmv:a.eval m=.map (some b):=by
  obtain ⟨cs,q1,q2⟩:=h1;simp only[ai] at q2;obtain ⟨b',q3,q4⟩:=q2;rw[k1] at q3;cases q3;simpa[bN,I.isAgg,q4] using q1.symm
 -- the new entries
 have step:∀ (es':Array MapEntry) (ck':Nat),(Instr.mapUpdate t (.map (some b)) (a.eval k) (a.eval v)).run c.P w=.ok () (w.putObj b (.map es' ck'))→rn es' ck'→aK w D E ks' (es'.toList.map (·.key))→aK w D E vs' (es'.toList.map (·.val)) →
   ∃ w',((∃ u,(execOp a.eval o).run c.P w=.ok (.value u) w'∧cD c (A.aU n (.cE ks' vs')) (a.put o.dst u) w')∨((execOp a.eval o).run c.P w=.ok .skip w'∧cD c (A.aU n (.cE ks' vs')) (a.put o.dst undef) w')):=fun es' ck' hrun hst hks hvs=>by
  refine ⟨w.putObj b (.map es' ck'),.inr ⟨?_,?_⟩⟩
  ·rcases ho with ho | ho <;>simp only[execOp,ho,hmv,Sem.run_bind,hrun,Result.andThen_ok,Sem.run_pure]
  ·rw[hd];have:=hs.Qr (o':=.map es' ck') (x:=.cE ks' vs') k1 rfl rfl k3 rfl (fun q=>by simp) k2 (fun hl' hh hno=>⟨b,es',ck',k1,k2,hh,hst,aK.bO hl' _ _ hks,aK.bO hl' _ _ hvs,hno⟩);exact ⟨D,E,this⟩
 split at hl
 ·rename_i i hfi;simp only[u8,Prod.mk.injEq] at hl;obtain ⟨rfl,rfl⟩:=hl;obtain ⟨q,q1,q2⟩:=tI hk h2 k5 hfi;rcases q2 with ⟨e,_⟩ | ⟨j,e,e1,e2,rfl⟩
  ·cases e
  simp only[zz4,u8] at e1;subst e1;obtain ⟨y,y1,_,y2⟩:=Fs hfi;simp only[Nat.sub_zero] at y1;obtain ⟨y',y3,y4⟩:=nK (j:=i) (v:=e.key) k5 (by simp only[zw8,e2,zy6]);rw[y1,u8] at y3;subst y3;obtain ⟨_,kk2,kk3⟩:=amc hk y2 h2 y4;have hes:es[i]?=some e:=by rw[←zu1];exact e2
  have hlen:i<es.size:=(zx9.1 hes).1;refine step (es.modify i fun e => { e with key:=a.eval k,val:=a.eval v }) ck ?_ ?_ ?_ ?_
  ·have hsb:Instr.sameBits 10000 (((es[i]?).map (·.key)).getD (a.eval k)) (a.eval k)=true:=by
    rw[hes];simp only[zy6,Option.getD_some];rw[←kk2];rw[←kk2] at kk3;exact kk3
   simp only[Instr.mapUpdate,Sem.run_bind,run_underlying hu,Result.andThen_ok,MapKept.run_getObj_map k3,hchk,q1,zz4,Instr.keyThatStays,hsb,if_true,Sem.run_pure,MapKept.run_setObj_map _ k3];rfl
  all_goals
   have em:(es.modify i fun e => { e with key:=a.eval k,val:=a.eval v }).toList=es.toList.set i { e with key:=a.eval k,val:=a.eval v } :=by
    rw[Array.toList_modify];apply List.ext_getElem?;intro j;rw[List.getElem?_modify,List.getElem?_set];by_cases hij:i=j
    ·subst hij;have hge:es[i]'hlen=e:=(zx9.1 hes).2;simp[hlen,hge]
    ·simp[hij]
  ·refine ⟨fun x hx =>?_,?_⟩
   ·rw[em] at hx;rcases List.mem_or_eq_of_mem_set hx with hx | rfl
    ·exact k4.1 x hx
    ·exact k4.1 e (List.mem_of_getElem? e2)
   ·rw[em];have:(es.toList.set i { e with key:=a.eval k,val:=a.eval v }).map (·.born)=es.toList.map (·.born):=by
     rw[List.map_set];apply List.ext_getElem?;intro j;rw[List.getElem?_set];split
     ·rename_i hij;subst hij;simp[e2];exact hlen
     ·rfl
    rw[this];exact k4.2
  ·rw[em,List.map_set];have:(es.toList.map (·.key)).set i (a.eval k)=es.toList.map (·.key):=by
    apply List.ext_getElem?;intro j;rw[List.getElem?_set];split
    ·rename_i hij;subst hij;simp[e2,kk2];exact hlen
    ·rfl
   simp only[this];exact k5
  ·rw[em,List.map_set];exact Qm k6 vp1 vp2
 ·rename_i hfi;simp only[u8,Prod.mk.injEq] at hl;obtain ⟨rfl,rfl⟩:=hl;obtain ⟨q,q1,q2⟩:=tI hk h2 k5 hfi;rcases q2 with ⟨_,rfl⟩ | ⟨j,e,e1,_⟩
  case inr=>cases e1
  refine step (es.push { key:=a.eval k,val:=a.eval v,born:=ck }) (ck+1) ?_ ⟨fun x hx =>?_,?_⟩ ?_ ?_
  ·simp only[Instr.mapUpdate,Sem.run_bind,run_underlying hu,Result.andThen_ok,MapKept.run_getObj_map k3,hchk,q1,MapKept.run_setObj_map _ k3];rfl
  ·simp only[Array.toList_push,zy5,zu6] at hx;rcases hx with hx | rfl
   ·have:=k4.1 x hx;omega
   ·simp
  ·simp only[Array.toList_push,zx4,zy2,zx1];refine List.nodup_append.2 ⟨k4.2,by simp,fun x hx y hy =>?_⟩;simp only[zu6] at hy;subst hy;obtain ⟨e,he,rfl⟩:=zw1.1 hx;exact Nat.ne_of_lt (k4.1 e he)
  ·simp only[Array.toList_push,zx4,zy2,zx1];exact Ak k5 (Ql kp1 kp2)
  ·simp only[Array.toList_push,zx4,zy2,zx1];exact Ak k6 (Ql vp1 vp2)
 ·cases hl
theorem abq{t kt et:TypeId}{y:Operand}{y':aM}{ks vs:List I}{d:Nat}(ho:o.op=.range t y)(hu:c.P.underlying t=some (.map kt et))(hy:bM c.P 0 y=some y')(h:ae A y'=.c7 ks vs)(hd:o.dst=some d)(hn:d<c.n)(hf:A.o d=none) :
  jr c A o ((A.aU d (.it ks vs (List.range ks.length) none)).put d (.dI d)):=by
 intro a w D E hs;have h1:=cv hs hy;rw[h] at h1;obtain ⟨cs,q1,q2⟩:=h1;simp only[ai] at q2;obtain ⟨b,es,ck,q3,q4,q5,q6⟩:=q2;have hv:a.eval y=.map (some b):=by simpa[bN,I.isAgg,q3] using q1.symm
 have h2:=hs.anb (.inl hn) hf q4 q5 q6;have h3:=h2.put (x:=.dI d) (v:=.pointer (some ⟨w.heap.size,0,none⟩)) hn ⟨_,by simp[bN,I.isAgg];rfl,by
  simp only[ai,if_true];exact ⟨w.heap.size,rfl,rfl⟩⟩
 refine ⟨w.alloc (.mapIter (some b) ck #[] ck),.inl ⟨.pointer (some ⟨w.heap.size,0,none⟩),?_,D,_,by rw[hd];exact h3⟩⟩;simp only[execOp,ho,hv,Sem.run_bind,run_range_map w t kt et b es ck hu q4.1,Result.andThen_ok,Sem.run_pure]
theorem Mk{es:Array MapEntry}{bS:Array Nat}{i:Nat} : i∈pw es bS↔∃ e,es[i]?=some e∧bS.contains e.born=false:=by
 unfold pw;simp only[zu8,zw4];constructor
 ·rintro ⟨h1,h2⟩;rw[Array.getElem?_eq_getElem h1] at h2 ⊢;exact ⟨_,rfl,by simpa using h2⟩
 ·rintro ⟨e,h1,h2⟩;exact ⟨(zx9.1 h1).1,by rw[h1];simpa using h2⟩
theorem ap7{es:Array MapEntry}{ck:Nat}(hst:rn es ck){i j:Nat}{e f:MapEntry}(hi:es[i]?=some e)(hj:es[j]?=some f)(h:e.born=f.born):i=j:=by
 have hn:=hst.2;rw[←zu1] at hi hj;have h1:(es.toList.map (·.born))[i]?=some e.born:=by rw[zw8,hi];rfl
 have h2:(es.toList.map (·.born))[j]?=some e.born:=by rw[zw8,hj,h];rfl
 have hil:i<(es.toList.map (·.born)).length:=(zy7.1 h1).1;have hjl:j<(es.toList.map (·.born)).length:=(zy7.1 h2).1;exact (List.getElem?_inj hil hn).1 (h1.trans h2.symm)
theorem amw{es:Array MapEntry}{bS:Array Nat}{ck i:Nat}{e:MapEntry}(hst:rn es ck)(hi:es[i]?=some e):pw es (bS.push e.born)=(pw es bS).filter (· != i):=by
 unfold pw;rw[List.filter_filter];refine List.filter_congr fun j hj =>?_;have hjl:j<es.size:=by simpa using hj
 rw[Array.getElem?_eq_getElem hjl];simp only[Array.contains_push];by_cases hij:j=i
 ·subst hij;rw[Array.getElem?_eq_getElem hjl,u8] at hi;simp[hi]
 ·have:(es[j].born==e.born)=false:=by
   simp only[beq_eq_false_iff_ne,ne_eq];exact fun h=>hij (ap7 hst (Array.getElem?_eq_getElem hjl) hi h)
  have h2:(j != i)=true:=by simpa using hij
  simp[this,h2]
theorem ane{y:Operand}{y':aM}{ks vs:List I}{left:List Nat}{cur:Option Nat}{n:Nat}(ho:o.op=.next y false)(hy:bM c.P 0 y=some y')(h:ae A y'=.dI n)(hn:A.o n=some (.it ks vs left cur))(hdn:∀ k,o.dst=some k→k<c.n){a:Act}{w:World}{D:aW}{E:a8}(hs:a6 c A a w D E) :
  ∃ w' v,(execOp a.eval o).run c.P w=.ok (.value v) w'∧((left=[]∧cD c (A.aT o.dst (.tuple [.bool false])) (a.put o.dst v) w') ∨
   ∃ i k x,i∈left∧ks[i]?=some k∧vs[i]?=some x∧cD c ((A.aU n (.it ks vs (left.filter (· != i)) (some i))).aT o.dst (.tuple [.bool true,k,x])) (a.put o.dst v) w'):=by
 have h1:=cv hs hy;rw[h] at h1;obtain ⟨cs,q1,q2⟩:=h1;simp only[ai] at q2;obtain ⟨r,q3,q4⟩:=q2;have hv:a.eval y=.pointer (some ⟨r,0,none⟩):=by simpa[bN,I.isAgg,q4] using q1.symm
 have hob:=hs.bQ n;rw[hn] at hob;obtain ⟨r',b,es,ck,since,bS,last,k1,k2,k3,k4,k5,k6,k7,k8,k9,k9',k10⟩:=hob;rw[k1] at q3;cases q3;rcases run_next_at (P:=c.P) w o.type r b since last bS es ck k3 k4.1 k7 k8.1 with ⟨h0,hrun⟩ | ⟨e,he,w1,hal,hrun⟩
 ·refine ⟨w,.tuple #[.bool false],by simp only[execOp,ho,hv,Sem.run_bind,hrun,Result.andThen_ok,Sem.run_pure],.inl ⟨?_,D,E,hs.aT hdn ?_⟩⟩
  ·rw[k9];refine List.eq_nil_iff_forall_not_mem.2 fun i hi =>?_;obtain ⟨e,h1,h2⟩:=Mk.1 hi;have hm:e∈leftOf es bS:=by
    unfold leftOf;simp only[Array.mem_filter];exact ⟨Array.mem_of_getElem? h1,by simpa using h2⟩
   rw[Array.eq_empty_of_size_eq_zero h0] at hm;simp at hm
  ·simp only[a7,aK];exact ⟨[.bool false],rfl,.bool false,[],[.bool false],rfl,by simp[bN,I.isAgg],by simp[ai],rfl⟩
 ·have hmem:e∈es.toList∧bS.contains e.born=false:=by
   unfold leftOf at he;simp only[Array.toList_filter,zu8] at he;exact ⟨he.1,by simpa using he.2⟩
  obtain ⟨i,hi⟩:=List.getElem?_of_mem hmem.1;have hie:es[i]?=some e:=by rw[←zu1];exact hi
  obtain ⟨k,hk1,hk2⟩:=nK (j:=i) (v:=e.key) k5 (by simp only[zw8,hi,zy6]);obtain ⟨x,hx1,hx2⟩:=nK (j:=i) (v:=e.val) k6 (by simp only[zw8,hi,zy6]);have hsw:a6 c A a w1 D E:=by
   rcases hal with rfl | rfl
   ·exact hs
   ·exact hs.grow (w':=w.drew) (D':=D) ⟨rfl,rfl,rfl,zz7 _,fun _ _=>rfl⟩ (fun _ _ h=>h) (fun _ _ h _=>h) (fun b o hd=>hs.dy b o hd)
  have hw1:w1.heap=w.heap:=by rcases hal with rfl | rfl <;>rfl
  have k3':w1.heap[r]?=some (.mapIter (some b) since bS last):=by rw[hw1];exact k3
  have hset:=hsw.Qr (x:=.it ks vs (left.filter (· != i)) (some i)) (o':=.mapIter (some b) since (bS.push e.born) ck) k1 rfl rfl k3' rfl (fun q=>by simp) k2
   (fun hl hh hno=>by
    have hm:pA w1 D b es ck:=⟨by rw[hw1];exact k4.1,k4.2.1,k4.2.2⟩
    have hob:=hsw.bQ n;rw[hn] at hob;refine ⟨r,b,es,ck,since,bS.push e.born,ck,k1,k2,hh,hm.bO hl,aK.bO hl _ _ ?_,aK.bO hl _ _ ?_,k7,?_,?_,fun j hj =>?_,hno⟩
    ·obtain ⟨dK,b2,es2,ck2,si2,se2,la2,g1,g2,g3,g4,g5,g6,_⟩:=hob;rw[k1] at g1;cases g1;rw[k3'] at g3;cases g3;have:=g4.1;rw[hw1,k4.1] at this;cases this;exact g5
    ·obtain ⟨dK,b2,es2,ck2,si2,se2,la2,g1,g2,g3,g4,g5,g6,_⟩:=hob;rw[k1] at g1;cases g1;rw[k3'] at g3;cases g3;have:=g4.1;rw[hw1,k4.1] at this;cases this;exact g6
    ·exact ⟨k8.2,k8.2⟩
    ·rw[k9,amw k4.2.2 hie]
    ·cases hj;exact ⟨e,hie,by simp,rfl⟩)
  have hset':a6 c (A.aU n (.it ks vs (left.filter (· != i)) (some i))) a (ChangeMaps.setBlock w1 r (.mapIter (some b) since (bS.push e.born) ck)) D E:=hset;refine ⟨_,.tuple #[.bool true,e.key,e.val],by simp only[execOp,ho,hv,Sem.run_bind,hrun,Result.andThen_ok,Sem.run_pure],.inr ⟨i,k,x,?_,hk1,hx1,D,E,hset'.aT hdn ?_⟩⟩
  ·rw[k9];exact Mk.2 ⟨e,hie,hmem.2⟩
  ·have hob2:=hset'.bQ n;simp only[af.aU,if_true] at hob2;obtain ⟨dK,b2,es2,ck2,si2,se2,la2,g1,g2,g3,g4,g5,g6,_⟩:=hob2;rw[k1] at g1;cases g1;have hr2:(ChangeMaps.setBlock w1 r (.mapIter (some b) since (bS.push e.born) ck)).heap[r]?=some (.mapIter (some b) since (bS.push e.born) ck):=World.putObj_heap_same (w:=w1) (gH k3');rw[hr2] at g3;cases g3;have hb2:(ChangeMaps.setBlock w1 r (.mapIter (some b) since (bS.push e.born) ck)).heap[b]?=some (.map es ck):=by
    have:b≠r:=fun e=>by rw[e] at k4;rw[k4.1] at k3;cases k3
    refine (World.putObj_heap_other (w:=w1) this).trans ?_;rw[hw1];exact k4.1
   have:=g4.1;rw[hb2] at this;cases this;obtain ⟨kk,a1,a2⟩:=nK (j:=i) (v:=e.key) g5 (by simp only[zw8,hi,zy6]);rw[hk1] at a1;cases a1;obtain ⟨xx,b1,b2⟩:=nK (j:=i) (v:=e.val) g6 (by simp only[zw8,hi,zy6]);rw[hx1] at b1;cases b1;obtain ⟨c1,c2,c3⟩:=pZ (re k5 hk1) a2;obtain ⟨d1,d2,d3⟩:=pZ (re k6 hx1) b2;simp only[a7,aK];exact ⟨[.bool true,e.key,e.val],rfl,.bool true,_,[.bool true],rfl,by simp[bN,I.isAgg],by simp[ai],e.key,_,c1,rfl,c2,c3,e.val,[],d1,rfl,d2,d3,rfl⟩
theorem alo{y:Operand}{y':aM}{ks vs:List I}{left:List Nat}{i n:Nat}{k x:I}(ho:o.op=.entry y)(hy:bM c.P 0 y=some y')(h:ae A y'=.dI n)(hn:A.o n=some (.it ks vs left (some i)))(hk:ks[i]?=some k)(hx:vs[i]?=some x):eb c A o (.tuple [k,x]) :=
 .same fun a w D E hs=>by
  have h1:=cv hs hy;rw[h] at h1;obtain ⟨cs,q1,q2⟩:=h1;simp only[ai] at q2;obtain ⟨r,q3,q4⟩:=q2;have hv:a.eval y=.pointer (some ⟨r,0,none⟩):=by simpa[bN,I.isAgg,q4] using q1.symm
  have hob:=hs.bQ n;rw[hn] at hob;obtain ⟨r',b,es,ck,since,bS,last,k1,k2,k3,k4,k5,k6,k7,k8,k9,k9',k10⟩:=hob;rw[k1] at q3;cases q3;obtain ⟨e,e1,e2,rfl⟩:=k9' i rfl;have hi:es.toList[i]?=some e:=by rw[zu1];exact e1
  obtain ⟨kk,a1,a2⟩:=nK (j:=i) (v:=e.key) k5 (by simp only[zw8,hi,zy6]);rw[hk] at a1;cases a1;obtain ⟨xx,b1,b2⟩:=nK (j:=i) (v:=e.val) k6 (by simp only[zw8,hi,zy6]);rw[hx] at b1;cases b1;obtain ⟨c1,c2,c3⟩:=pZ (re k5 hk) a2;obtain ⟨d1,d2,d3⟩:=pZ (re k6 hx) b2;have hf:es.find? (·.born==e.born)=some e:=by rw[←Array.find?_toList];exact find_born e es.toList k4.2.2.2 (List.mem_of_getElem? hi)
  refine ⟨.tuple #[e.key,e.val],?_,?_⟩
  ·have hr:(Instr.entry (.pointer (some ⟨r,0,none⟩))).run c.P w=.ok (.tuple #[e.key,e.val]) w:=by
    simp only[Instr.entry,getObj,Sem.run_bind,Sem.run,k3,k4.1,Result.andThen,e2,bne_self_eq_false,zz6,if_false,hf];rfl
   simp only[execOp,ho,hv,Sem.run_bind,hr,Result.andThen_ok,Sem.run_pure]
  ·simp only[a7,aK];exact ⟨[e.key,e.val],rfl,e.key,_,c1,rfl,c2,c3,e.val,[],d1,rfl,d2,d3,rfl⟩
theorem PW{w:World}{D:aW}{E:a8}{z:I}{v:Value}(h:ai w D E z [v]):∀ n:Nat,aL w D E (List.replicate n z) (List.replicate n v)
 |0=>by simp[aL]
 |n+1=>by simp only[List.replicate_succ,aL];exact ⟨[v],_,rfl,h,PW h n⟩
theorem abp{t e:TypeId}{l l':Operand}{n':aM}{z:I}{n d:Nat}{k:IntKind}(ho:o.op=.makeSlice t l l')(hll:l'=l)(hu:c.P.underlying t=some (.slice e))(hl:bM c.P 0 l=some n')(h:ae A n'=.int k n)(hz:gI c.P e=some z)(hz1:z.size=1)
  (hc1:c.P.cellsOf e=1) (hby:n*c.P.bytesOf e≤281474976710656) (hmax:n≤maxLen) (hd:o.dst=some d) (hn:d<c.n) (hf:A.o d=none):jr c A o ((A.aU d (.box (.agg (List.replicate n z)))).put d (.view d [] 1 0 n)):=by
 subst hll;intro a w D E hs;have h1:=cv hs hl;rw[h] at h1;obtain ⟨e1,_⟩:=fS h1;obtain ⟨i,zv,hi,hzz,hzr⟩:=mY hz;have hzc:=ai.length _ _ (hzr w D E);rw[hz1] at hzc;obtain ⟨u,hu1⟩:∃ u,zv.cells = #[u]:=by
  have:zv.cells.size=1:=by simpa using hzc
  obtain ⟨u,hu⟩:=Array.size_eq_one_iff.1 this;exact ⟨u,hu⟩
 have hsz:i.size=1:=by have:=hc1;simp only[Program.cellsOf,hi,zy6,Option.getD_some] at this;exact this
 have hbytes:(i.bytes:Int)*(n:Int)≤281474976710656:=by
  have:c.P.bytesOf e=i.bytes:=by simp[Program.bytesOf,hi]
  rw[this] at hby;have h2:((i.bytes*n:Nat):Int)≤281474976710656:=by rw[Nat.mul_comm] at hby;omega
  rwa [Int.natCast_mul] at h2
 have hrun:=run_make (P:=c.P) w t e i zv hu hi hzz k k n n (by omega) (Int.le_refl _) hbytes (by have h9:=hmax;unfold maxLen at h9;omega);simp only[Int.toNat_natCast,hsz,Nat.mul_one] at hrun;have hmc:(madeCells zv.cells n).toList=List.replicate n u:=by
  rw[hu1];simp only[madeCells];apply List.ext_getElem?;intro j;simp[List.getElem?_replicate];split <;>simp_all[Nat.mod_one]
 have hcells:ai w D E (.agg (List.replicate n z)) (madeCells zv.cells n).toList:=by
  rw[hmc];simp only[ai];refine PW ?_ n;have:=hzr w D E;rw[hu1] at this;simpa using this
 have h2:=hs.sm (T:=e) (.inl hn) hf hcells;have h3:=h2.put (x:=.view d [] 1 0 n) (v:=.slice (some ⟨w.heap.size,0,none⟩) n n) hn ⟨_,by simp[bN,I.isAgg];rfl,by
  simp only[ai,if_true];refine ⟨w.heap.size,_,0,I.cT (List.replicate n z),rfl,by simp[c5.off],by simp[I.aV,c5.part],by simp[I.dE],by simpa[I.dE] using hmax,by simp[I.dE],fun s hs =>?_⟩;rw[I.dE] at hs;obtain ⟨y,hy,rfl⟩:=zw1.1 hs;rw[I.mS,(List.mem_replicate.1 hy).2,hz1]⟩
 refine ⟨_,.inl ⟨_,?_,D,_,by rw[hd];exact h3⟩⟩;simp only[execOp,ho,e1,Sem.run_bind,hrun,Result.andThen_ok,Sem.run_pure]
end
end Go.Abs
namespace Go.Abs
open Go Go.RowKit
mutual
/-- Values that lead to no memory. -/
def I.flat:I→Bool
 | .agg fs | .tuple fs=>I.qx fs
 | .bool _ | .int _ _ | .db _ | .nilp | .dz | .eg | .raw _ | .undef | .dx=>true
 |_=>false
def I.qx:List I→Bool
 | []=>true
 |x::xs=>x.flat&&I.qx xs
end
mutual
theorem ai.flat{w w':World}{D D':aW}{E E':a8} : ∀ (x:I) (cs:List Value),x.flat=true→ai w D E x cs→ai w' D' E' x cs
 | .agg fs,cs,hf,hr=>by simp only[ai,I.flat] at *;exact aL.flat fs cs hf hr
 | .bool b,cs,_,hr=>by simpa only[ai] using hr
 | .int k n,cs,_,hr=>by simpa only[ai] using hr
 | .db s,cs,_,hr=>by simpa only[ai] using hr
 | .nilp,cs,_,hr=>by simpa only[ai] using hr
 | .dz,cs,_,hr=>by simpa only[ai] using hr
 | .eg,cs,_,hr=>by simpa only[ai] using hr
 | .raw _,cs,_,hr=>by simpa only[ai] using hr
 | .undef,_,_,hr=>by simp only[ai] at hr
 | .dx,_,_,hr=>by simp only[ai] at hr
 | .tuple _,_,_,hr=>by simp only[ai] at hr
 | .nils _,_,hf,_ | .c0 _,_,hf,_ | .slice _ _,_,hf,_ | .ref _,_,hf,_ | .func _ _,_,hf,_ | .iface _ _,_,hf,_ | .ptr _ _,_,hf,_ | .own _ _,_,hf,_ | .view _ _ _ _ _,_,hf,_ | .mref _,_,hf,_ | .dI _,_,hf,_ | .c7 _ _,_,hf,_=>by simp[I.flat] at hf
theorem aL.flat{w w':World}{D D':aW}{E E':a8} : ∀ (xs:List I) (cs:List Value),I.qx xs=true→aL w D E xs cs→aL w' D' E' xs cs
 | [],cs,_,hr=>by simpa only[aL] using hr
 |x::xs,cs,hf,hr=>by
  simp only[aL,I.qx,zz3] at *;obtain ⟨c1,c2,h1,h2,h3⟩:=hr;exact ⟨c1,c2,h1,ai.flat x c1 hf.1 h2,aL.flat xs c2 hf.2 h3⟩
end
theorem aK.flat{w w':World}{D D':aW}{E E':a8} : ∀ (xs:List I) (vs:List Value),I.qx xs=true→aK w D E xs vs→aK w' D' E' xs vs
 | [],vs,_,hr=>by simpa only[aK] using hr
 |x::xs,vs,hf,hr=>by
  simp only[aK,I.qx,zz3] at *;obtain ⟨v,rest,cs,h1,h2,h3,h4⟩:=hr;exact ⟨v,rest,cs,h1,h2,ai.flat x cs hf.1 h3,aK.flat xs rest hf.2 h4⟩
theorem a7.flat{w w':World}{D D':aW}{E E':a8}{x:I}{v:Value}(hf:x.flat=true)(hr:a7 w D E x v):a7 w' D' E' x v:=by
 cases x <;>simp only[a7] at * <;>first
  |exact hr
  |(obtain ⟨vs,h1,h2⟩:=hr;exact ⟨vs,h1,aK.flat _ _ (by simpa[I.flat] using hf) h2⟩)
  |(obtain ⟨cs,h1,h2⟩:=hr;exact ⟨cs,h1,ai.flat _ _ hf h2⟩)
def dV:a8:=fun _=>none
def aA(P:Program)(f:FuncId)(args:List I)(r:I):Prop :=
 iC P f=true∧∀ (w:World) (D:aW) (vs:List Value),(∀ b o,D b o→b<w.heap.size)→aK w D dV args vs →
  Calls P f vs.toArray w fun e w'=>∃ v D',e=.returned v∧a7 w' D' dV r v∧Below w.heap.size w w'∧(∀ b o,D' b o→b<w'.heap.size)∧∀ b o,D' b o→b<w.heap.size→D b o
def cF(P:Program)(f:FuncId)(args:List I)(os:List (Nat×ah))(post:cO):Prop :=
 iC P f=true∧rD (Calls P f) (fun _ _ _=>True) args os post
def aY(p:Nat→Bool):List (Nat×ah)→Prop
 | []=>True
 |(_,v)::r=>v.only p=true∧aY p r
def cR(ns:List Nat)(os:List (Nat×ah)):List (Nat×ah):=os.filter fun q => !ns.contains q.1
def gU(ns:List Nat)(ts:List (Nat×I)):List (Nat×I):=ts.map fun q=>(q.1,if q.2.only (fun n => !ns.contains n) then q.2 else .dx)
def ji(ns:List Nat)(os:List (Nat×ah)):List (Nat×ah):=os.filter fun q=>ns.contains q.1
def j6(ρ:List (Nat×Nat))(os:List (Nat×ah)):List Nat:=os.map fun q=>bD ρ q.1
def jV(aC:Bool)(A0:af)(ρ:List (Nat×Nat))(os:List (Nat×ah)):List I→List I→Prop
 | [],[]=>True
 |x::xs,c::cs=>((x=c.aN (bD ρ)∧c.only (aq os)=true∧c.cq=true)∨bC aC A0 x=some c)∧jV aC A0 ρ os xs cs
 |_,_=>False
structure aE where
 dst:Option Nat
 op:ct
 guard:Option (Nat×Bool)
 deriving Inhabited
inductive cP where
 |done (A:af)
 |fail
 |call (f:FuncId) (avs:List I) (a1 a2:Option (List I)) (dst:Option Nat) (rest:List aE) (A:af)
 |qj (v:Value) (avs:List I) (dst:Option Nat) (rest:List aE) (A:af)
 |jR (f:FuncId) (avs:List I) (dst:Option Nat) (rest:List aE) (A:af)
 |any (p:Nat→Prop) (k:Nat→cP)
def cX(x:Option I)(k:I→cP):cP:=match x with
 |some v=>k v
 |none=>.fail
def zB(s:Option Nat)(v old:I):Prop:=v.cq=true∧cj s v=true∧v.aV=old.aV
def zq(e esz bytes l sz:Nat)(ys:List I)(T sz':Nat)(es:List I):Prop:=l=es.length∧sz=esz∧T=e∧sz'=esz∧ys≠[]∧es.length+ys.length≤maxLen∧(es.length+ys.length)*bytes≤140737488355328
def r5(ys:List I):List Int:=ys.filterMap fun y=>match y with | .int .i64 i=>some i | _=>none
def zr(e esz bytes l:Nat)(ys:List I)(T:Nat)(xs:List Int)(z:I):Prop:=l=xs.length∧esz=1∧T=e∧z=.int .i64 0∧ys=(r5 ys).map (.int .i64)∧ys≠[]∧xs.length+ys.length≤maxLen∧(xs.length+ys.length)*bytes≤140737488355328
def kK:I→Bool
 | .slice _ es=>es.isEmpty
 | .c0 _=>true
 |_=>false
open Classical in
noncomputable def gJ(A:af)(dst:Option Nat)(esz bytes:Nat)(z:I)(es ys:List I)(k:af→cP):cP :=
 match dst with
 |some d=>match A.o d with
  |none=>if (es.length+ys.length)*bytes≤140737488355328∧es.length+ys.length≤maxLen then
    .any (fun m=>es.length+ys.length+m≤maxLen) (fun m=>k ((A.aU d (.box (.agg (es++(ys++List.replicate m z))))).aT dst (.view d [] esz 0 (es.length+ys.length)))) else .fail
  |some _=>.fail
 |none=>.fail
open Classical in
noncomputable def fu(A:af)(dst:Option Nat)(esz bytes:Nat)(z:I)(s:I):Option (List I)→Option (List I)→(af→cP)→cP
 |some es,some ys,k=>if ys=[] then k (A.aT dst s) else match s with
  | .nils _=>gJ A dst esz bytes z es ys k
  | .c0 _=>gJ A dst esz bytes z es ys k
  | .view n p sz lo l=>match A.o n with
   |some (.box b)=>match b.at p with
    |some (.agg fs)=>if lo+l+ys.length≤fs.length then
      (if sz=esz∧I.cT ys=I.cT ((fs.drop (lo+l)).take ys.length) then k ((A.aU n (.box (iS b p (lo+l) fs ys))).aT dst (.view n p esz lo (l+ys.length))) else .fail)
      else gJ A dst esz bytes z es ys k
    |_=>.fail
   |_=>.fail
  |_=>.fail
 |_,_,_=>.fail
open Classical in
noncomputable def rI(A:af)(dst:Option Nat)(esz bytes:Nat)(z:I)(m:Nat)(s:I):Option (List I)→(af→cP)→cP
 |some es,k=>match s with
  | .view n p _ lo l=>match A.o n with
   |some (.box b)=>match b.at p with
    |some (.agg fs)=>if 0<m∧fs.length<lo+l+m then gJ A dst esz bytes z es (List.replicate m z) k else .fail
    |_=>.fail
   |_=>.fail
  |_=>.fail
 |_,_=>.fail
open Classical in
noncomputable def nY(A:af)(esz:Nat)(z:I)(k:af→cP):I→cP
 | .view n p sz lo l=>match A.o n with
  |some (.box b)=>match b.at p with
   |some (.agg fs)=>if sz=esz∧I.cT (List.replicate l z)=I.cT ((fs.drop lo).take l) then k (A.aU n (.box (iS b p lo fs (List.replicate l z)))) else .fail
   |_=>.fail
  |_=>.fail
 | .nils _=>k A
 | .c0 _=>k A
 |_=>.fail
open Classical in
noncomputable def o7(A:af)(dst:Option Nat)(esz:Nat)(k:af→cP):I→Option (List I)→cP
 | .view n p sz lo l,some ys=>match A.o n with
  |some (.box b)=>match b.at p with
   |some (.agg fs)=>if sz=esz∧I.cT (ys.take (min ys.length l))=I.cT ((fs.drop lo).take (min ys.length l)) then k ((A.aU n (.box (iS b p lo fs (ys.take (min ys.length l))))).aT dst (.int .i64 (min ys.length l:Nat))) else .fail
   |_=>.fail
  |_=>.fail
 |_,_=>.fail
open Classical in
noncomputable def bA(A:af)(dst:Option Nat)(op:ct)(rest:List aE)(k:af→cP):cP :=
 match op with
 | .alloc z=>match dst with
  |some d=>match A.o d with
   |none=>k ((A.aU d (.box z)).put d (.ptr d []))
   |some _=>.fail
  |none=>.fail
 | .box x=>match dst with
  |some d=>match A.o d with
   |none=>if (ae A x).cq then k ((A.aU d (.box (ae A x))).put d (.ptr d [])) else .fail
   |some _=>.fail
  |none=>.fail
 | .bu s x v=>match dst with
  |none=>match ae A x with
   | .ptr n p=>match A.o n with
    |some (.box b)=>match b.at p with
     |some old=>if zB s (ae A v) old then k (A.aU n (.box (b.dS p (ae A v)))) else .fail
     |none=>.fail
    |_=>.fail
   |_=>.fail
  |some _=>.fail
 | .dH e esz bytes z s x=>match ae A s with
  | .own n l=>match ae A x with
   | .slice sz ys=>match A.o n with
    |some (.b9 T sz' es)=>if zq e esz bytes l sz ys T sz' es then k ((A.aU n (.b9 e esz (es++ys))).aT dst (.own n (es.length+ys.length))) else .fail
    |some (.c4 T xs)=>if zr e esz bytes l ys T xs z then k ((A.aU n (.c4 e (xs++r5 ys))).aT dst (.own n (xs.length+ys.length))) else .fail
    |_=>.fail
   |_=>.fail
  |s'=>fu A dst esz bytes z s' (eB A esz s') (eB A esz (ae A x)) k
 | .kO _ esz bytes z s n=>match ae A n with
  | .int _ m=>rI A dst esz bytes z m.toNat (ae A s) (eB A esz (ae A s)) k
  |_=>.fail
 | .nilS neg x=>if kK (ae A x) then .any (fun m=>m<2) (fun m=>k (A.aT dst (.bool (m==0)))) else cX (bF A (.nilS neg x)) fun v=>k (A.aT dst v)
 | .jb esz z x=>match dst with
  |none=>nY A esz z k (ae A x)
  |some _=>.fail
 | .jc esz x y=>o7 A dst esz k (ae A x) (eB A esz (ae A y))
 | .call f args=>.call f (args.map (ae A)) (cn true A (args.map (ae A))) (cn false A (args.map (ae A))) dst rest A
 | .eM x args=>match ae A x with
  | .func f caps=>.call f (args.map (ae A)++caps) (cn true A (args.map (ae A)++caps)) (cn false A (args.map (ae A)++caps)) dst rest A
  | .raw v=>.qj v (args.map (ae A)) dst rest A
  |_=>.fail
 | .jR f args=>.jR f (args.map (ae A)) dst rest A
 | .kz=>match dst with
  |some d=>match A.o d with
   |none=>k ((A.aU d (.cE [] [])).put d (.mref d))
   |some _=>.fail
  |none=>.fail
 | .kX _ bytes z n=>match dst with
  |some d=>match A.o d with
   |none=>match ae A n with
    | .int _ n=>if 0≤n∧n.toNat*bytes≤281474976710656∧n.toNat≤maxLen then k ((A.aU d (.box (.agg (List.replicate n.toNat z)))).put d (.view d [] 1 0 n.toNat)) else .fail
    |_=>.fail
   |some _=>.fail
  |none=>.fail
 | .ir ty m key v=>match dst with
  |none=>match ae A m with
   | .mref n=>match A.o n with
    |some (.cE ks vs)=>match gO ty (ae A key) (ae A v) ks vs with
     |some (ks',vs')=>k (A.aU n (.cE ks' vs'))
     |none=>.fail
    |_=>.fail
   |_=>.fail
  |some _=>.fail
 | .ln x=>match dst with
  |some d=>match A.o d with
   |none=>match ae A x with
    | .c7 ks vs=>k ((A.aU d (.it ks vs (List.range ks.length) none)).put d (.dI d))
    |_=>.fail
   |some _=>.fail
  |none=>.fail
 | .j7 x=>match ae A x with
  | .dI n=>match A.o n with
   |some (.it ks vs left cur)=>if left=[] then k (A.aT dst (.tuple [.bool false])) else
     .any (fun i=>i∈left) fun i=>match ks[i]?,vs[i]? with
      |some kk,some x=>k ((A.aU n (.it ks vs (left.filter (· != i)) (some i))).aT dst (.tuple [.bool true,kk,x]))
      |_,_=>.fail
   |_=>.fail
  |_=>.fail
 |op=>cX (bF A op) fun v=>k (A.aT dst v)
noncomputable def aF:List aE→af→cP
 | [],A=>.done A
 |g::rest,A=>match g.guard with
  |none=>bA A g.dst g.op rest (aF rest)
  |some (t,b)=>match A.t t with
   | .bool b'=>if b'=b then bA A g.dst g.op rest (aF rest) else aF rest (A.aT g.dst .undef)
   | .undef=>aF rest (A.aT g.dst .undef)
   |_=>.fail
def Bx(P:Program)(A:af)(f:FuncId)(avs:List I)(r:I):Prop :=
 ∀ (c:c6) (a:Act) (w:World) (D:aW) (E:a8) (vs:List Value),c.P=P→a6 c A a w D E→gC (a7 w D E) avs vs→∃ v,(callFunc f vs.toArray).run P w=.ok (.value v) w∧a7 w D E r v
inductive bn (P:Program) (Y:Value→List I→List (Nat×ah)→cO→Prop) (dr:Bool) (K:af→Prop):cP→Prop where
 |done {A:af} : K A→bn P Y dr K (.done A)
 |flat {f:FuncId} {avs cargs:List I} {a2:Option (List I)} {dst:Option Nat} {rest:List aE} {A:af} (r:I):aA P f cargs r→r.flat=true→bn P Y dr K (aF rest (A.aT dst r))→bn P Y dr K (.call f avs (some cargs) a2 dst rest A)
 |lead {f:FuncId} {avs cargs:List I} {a1:Option (List I)} {dst:Option Nat} {rest:List aE} {A:af} (r:I):aA P f cargs r→bn P Y dr K (aF rest (A.aT dst r))→bn P Y dr K (.call f avs a1 (some cargs) dst rest A)
 |iQ {f:FuncId} {avs cargs:List I} {a1 a2:Option (List I)} {dst:Option Nat} {rest:List aE} {ts:List (Nat×I)} {os0:List (Nat×ah)} (ns:List Nat) (r:I):dr=false→aA P f cargs r→cn true (aw ts (ji ns os0)) avs=some cargs →
   aY (fun n => !ns.contains n) (cR ns os0)→bn P Y dr K (aF rest ((aw (gU ns ts) (cR ns os0)).aT dst r))→bn P Y dr K (.call f avs a1 a2 dst rest (aw ts os0))
 |bQ {f:FuncId} {avs:List I} {a1 a2:Option (List I)} {dst:Option Nat} {rest:List aE} {ts:List (Nat×I)} {os0:List (Nat×ah)} (aC:Bool) (ρ:List (Nat×Nat)) (os:List (Nat×ah)) (cargs:List I) (post:cO):dr=false→cF P f cargs os post →
   fK ρ os os0→jV aC (aw ts (cR (j6 ρ os) os0)) ρ os avs cargs→(∀ r os',post r os'→dn aC ρ os os0 r os') →
   (∀ r os',post r os'→bn P Y dr K (aF rest ((aw ts (dB ρ os'++os0)).aT dst (r.aN (bD ρ)))))→bn P Y dr K (.call f avs a1 a2 dst rest (aw ts os0))
 |AL {v:Value} {avs:List I} {dst:Option Nat} {rest:List aE} {ts:List (Nat×I)} {os0:List (Nat×ah)} (os:List (Nat×ah)) (cargs:List I) (post:cO):dr=false→Y v cargs os post →
   fK [] os os0→jV false (aw ts (cR (j6 [] os) os0)) [] os avs cargs→(∀ r os',post r os'→dn false [] os os0 r os') →
   (∀ r os',post r os'→bn P Y dr K (aF rest ((aw ts (dB [] os'++os0)).aT dst (r.aN (bD [])))))→bn P Y dr K (.qj v avs dst rest (aw ts os0))
 |ext {f:FuncId} {avs:List I} {dst:Option Nat} {rest:List aE} {A:af} (r:I):dr=false→Bx P A f avs r→bn P Y dr K (aF rest (A.aT dst r))→bn P Y dr K (.jR f avs dst rest A)
 |any {p:Nat→Prop} {k:Nat→cP} : dr=false→(∀ m,p m→bn P Y dr K (k m))→bn P Y dr K (.any p k)
def EN(n:Nat):Option Nat→Bool
 |some d=>decide (d<n)
 |none=>true
def qi(P:Program)(n:Nat)(b8:Array Oper)(o:Oper):Option aE :=
 match dO P o with
 |none=>none
 |some g=>if EN n o.dst=true then
   match o.guard with
   |none=>some ⟨o.dst,g,none⟩
   |some (j,b)=>match (b8[j]?).bind (·.dst) with
    |some t=>some ⟨o.dst,g,some (t,b)⟩
    |none=>none
  else none
def lA(P:Program)(n:Nat)(b8:Array Oper):List Oper→Option (List aE)
 | []=>some []
 |o::l=>match qi P n b8 o,lA P n b8 l with
  |some g,some gs=>some (g::gs)
  |_,_=>none
end Go.Abs
namespace Go.Abs
open Go Go.RowKit
section
variable {c:c6} {A:af} {o:Oper} {x:I}
theorem ao1{g:ct}(hg:dO c.P o=some g)(h:bF A g=some x):eb c A o x:=by
 unfold dO at hg;split at hg
 -- move
 ·rename_i y ho;simp only[zz1] at hg;obtain ⟨z,hz,rfl⟩:=hg;simp only[bF,u8] at h;subst h;exact LJ (.inl ho) hz
 ·rename_i y ho;simp only[zz1] at hg;obtain ⟨z,hz,rfl⟩:=hg;simp only[bF,u8] at h;subst h;exact LJ (.inr ho) hz
 -- pick
 ·rename_i q y z ho;split at hg
  ·rename_i q' y' z' h1 h2 h3;simp only[u8] at hg;subst hg;simp only[bF] at h;split at h
   ·rename_i t ht;simp only[u8] at h;subst h;exact alG ho h1 h2 h3 ht
   ·cases h
  ·cases hg
 -- binOp
 ·rename_i op t y z yt ho;split at hg
  ·rename_i k y' z' hu h1 h2;simp only[u8] at hg;subst hg;exact LH ho h1 h2 h
  ·rename_i y' z' hu h1 h2;simp only[u8] at hg;subst hg;exact LH ho h1 h2 h
  ·rename_i e y' z' hu h1 h2;split at hg
   ·rename_i s;split at hg
    ·rename_i hop;simp only[u8] at hg;subst hg;have ho':o.op=.binOp (if (op==.neq)=true then .neq else .eql) t y z yt:=by
      rcases hop with rfl | rfl <;>simpa using ho
     simp only[bF] at h;split at h
     ·rename_i s' hs';simp only[u8] at h;subst h;have:=yq (r:=true) ho' hu h1 h2 (.inl ⟨s',hs',rfl⟩);rw[show (if (op==BinOp.neq)=true then !true else true) = !(op==BinOp.neq) from by cases (op==BinOp.neq) <;>rfl] at this;exact this
     ·rename_i s' es hs';split at h
      ·cases h
      ·rename_i hne;simp only[u8] at h;subst h;have:=yq (r:=false) ho' hu h1 h2 (.inr (.inl ⟨s',es,hs',by simpa using hne,rfl⟩));rw[show (if (op==BinOp.neq)=true then !false else false)=(op==BinOp.neq) from by cases (op==BinOp.neq) <;>rfl] at this;exact this
     ·rename_i n p s' lo k hs';simp only[u8] at h;subst h;have:=yq (r:=false) ho' hu h1 h2 (.inr (.inr ⟨n,p,s',lo,k,hs',rfl⟩));rw[show (if (op==BinOp.neq)=true then !false else false)=(op==BinOp.neq) from by cases (op==BinOp.neq) <;>rfl] at this;exact this
     ·cases h
    ·cases hg
   ·cases hg
  ·rename_i e y' z' hu h1 h2;split at hg
   ·rename_i hop;simp only[u8] at hg;subst hg;have ho':o.op=.binOp (if (op==.neq)=true then .neq else .eql) t y z yt:=by
     rcases hop with rfl | rfl <;>simpa using ho
    simp only[bF] at h;cases hb1:jD (ae A y') with
    |none=>rw[hb1] at h;cases h
    |some b1=>cases hb2:jD (ae A z') with
     |none=>rw[hb1,hb2] at h;cases h
     |some b2 =>
      rw[hb1,hb2] at h;simp only[nE] at h;split at h
      ·rename_i hor;simp only[u8] at h;subst h;exact alH ho' hu h1 h2 hb1 hb2 (by simpa using hor)
      ·cases h
   ·cases hg
  ·rename_i d y' z' _ _ _ _ hu h1 h2;split at hg
   ·rename_i hop;simp only[zz1] at hg;obtain ⟨ty,hty,rfl⟩:=hg;have ho':o.op=.binOp (if (op==.neq)=true then .neq else .eql) t y z yt:=by
     rcases hop.1 with rfl | rfl <;>simpa using ho
    simp only[bF,zz1] at h;obtain ⟨r,hr,rfl⟩:=h;exact alp ho' h1 h2 hop.2 hty hr
   ·cases hg
  ·cases hg
 -- unOp
 ·rename_i op t y ho;simp only[zz1] at hg;obtain ⟨z,hz,rfl⟩:=hg;simp only[bF] at h;split at h
  ·rename_i b hb;simp only[u8] at h;subst h;exact alF ho hz hb
  ·rename_i k n hb;simp only[u8] at h;subst h;exact alE ho hz hb
  ·rename_i k n hb;simp only[u8] at h;subst h;exact aln ho hz hb
  ·cases h
 -- nilCheck
 ·rename_i y ho;simp only[zz1] at hg;obtain ⟨z,hz,rfl⟩:=hg;simp only[bF] at h;cases hy:ae A z <;>rw[hy] at h <;>simp only[nA,u8] at h <;>try (cases h;done)
  ·subst h;rw[←hy];exact LK ho hz (.inr ⟨_,hy⟩)
  ·subst h;rw[←hy];exact LK ho hz (.inl ⟨_,_,hy⟩)
 -- makeMap
 ·simp only[u8] at hg;subst hg;simp[bF] at h
 -- lookup
 ·rename_i t m k ok ho;split at hg
  ·rename_i kt et m' k' hu h1 h2;split at hg
   ·rename_i ty z hk hz;split at hg
    ·rename_i hp;simp only[u8] at hg;subst hg;simp only[bF] at h;cases hm:gV A (ae A m') with
     |none=>rw[hm] at h;cases h
     |some q =>
      obtain ⟨ks,vs⟩:=q;rw[hm] at h;simp only[sc] at h;cases hl:gN ty z (ae A k') ks vs with
      |none=>rw[hl] at h;cases h
      |some q =>
       obtain ⟨v,b⟩:=q;rw[hl] at h;simp only[sd,u8] at h;subst h;exact alC ho hu hk hz hp h1 h2 hm hl
    ·cases hg
   ·cases hg
  ·cases hg
 -- mapUpdate,insert
 iterate 2
  ·split at hg
   ·split at hg
    ·simp only[u8] at hg;subst hg;simp[bF] at h
    ·cases hg
   ·cases hg
 -- makeSlice
 ·split at hg
  ·split at hg
   ·split at hg
    ·simp only[u8] at hg;subst hg;simp[bF] at h
    ·cases hg
   ·cases hg
  ·cases hg
 -- range
 ·split at hg
  ·simp only[zz1] at hg;obtain ⟨z,_,rfl⟩:=hg;simp[bF] at h
  ·cases hg
 -- next
 ·simp only[zz1] at hg;obtain ⟨z,_,rfl⟩:=hg;simp[bF] at h
 -- entry
 ·rename_i y ho;simp only[zz1] at hg;obtain ⟨z,hz,rfl⟩:=hg;simp only[bF] at h;split at h
  ·rename_i n hn;split at h
   ·rename_i ks vs left cur hob;cases cur with
    |none=>cases h
    |some i =>
     simp only[qq] at h;split at h
     ·rename_i kk xx hk hx;simp only[u8] at h;subst h;exact alo ho hz hn hob hk hx
     ·cases h
   ·cases h
  ·cases h
 -- convert
 ·rename_i oP dst y ho;split at hg
  ·rename_i k0 k y' h1 h2 h3;simp only[u8] at hg;subst hg;simp only[bF] at h;split at h
   ·rename_i k1 n hn;simp only[u8] at h;subst h;exact alm ho h1 h2 h3 hn
   ·cases h
  ·cases hg
 -- load
 ·rename_i t y ho;split at hg
  ·rename_i s y' h1 h2;simp only[u8] at hg;subst hg;simp only[bF] at h;split at h
   ·rename_i v hv;split at h
    ·rename_i hok;simp only[u8] at h;subst h;exact alB ho h1 h2 hv hok
    ·cases h
   ·cases h
  ·cases hg
 -- fieldAddr
 ·rename_i t y f ho;split at hg
  ·rename_i fs y' hu h1;split at hg
   ·rename_i fd hf;split at hg
    ·cases hg
    ·rename_i hz;simp only[u8] at hg;subst hg;simp only[bF] at h;split at h
     ·rename_i gs hgs;split at h
      ·rename_i v hv;split at h
       ·rename_i hoff;simp only[u8] at h;subst h;exact als ho hu hf hz h1 hgs hv hoff
       ·cases h
      ·cases h
     ·rename_i n p hp;split at h
      ·rename_i gs hgs;split at h
       ·rename_i hoff;simp only[u8] at h;subst h;exact alr ho hu hf hz h1 hp hgs hoff.1 hoff.2
       ·cases h
      ·cases h
     ·cases h
   ·cases hg
  ·cases hg
 -- field
 ·rename_i t y f ho;split at hg
  ·rename_i fs y' hu h1;split at hg
   ·rename_i fd hf;simp only[zz1] at hg;obtain ⟨s,hs,rfl⟩:=hg;simp only[bF] at h;split at h
    ·rename_i gs hgs;split at h
     ·rename_i v hv;split at h
      ·rename_i hoff;simp only[u8] at h;subst h;exact alu ho hu hf hs h1 hgs hv hoff.1 hoff.2
      ·cases h
     ·cases h
    ·cases h
   ·cases hg
  ·cases hg
 -- indexAddr
 ·rename_i t y i ho;split at hg
  ·rename_i n e y' i' hu h1 h2;split at hg
   ·rename_i hinfo;obtain ⟨ti,hti⟩:=zw2.1 hinfo;simp only[u8] at hg;subst hg;simp only[bF] at h;split at h
    ·rename_i kk k hk;split at h
     ·rename_i hb;split at h
      ·rename_i gs hgs;split at h
       ·rename_i hev;simp only[zz1] at h;obtain ⟨v,hv,rfl⟩:=h;exact alw ho hu hti h1 h2 hgs hk hb hev hv
       ·cases h
      ·rename_i m p hp;split at h
       ·rename_i gs hgs;split at h
        ·rename_i hev;simp only[u8] at h;subst h;exact alv ho hu hti h1 h2 hp hk hb hgs hev
        ·cases h
       ·cases h
      ·cases h
     ·cases h
    ·cases h
   ·cases hg
  ·rename_i e y' i' hu h1 h2;split at hg
   ·rename_i hinfo;obtain ⟨ti,hti⟩:=zw2.1 hinfo;simp only[u8] at hg;subst hg;simp only[bF] at h;split at h
    ·rename_i kk k hk;split at h
     ·rename_i sz es hes;split at h
      ·rename_i hb;obtain ⟨rfl,hb⟩:=hb;simp only[zz1] at h;obtain ⟨v,hv,rfl⟩:=h;exact alx ho hu hti h1 h2 hes hk hb hv
      ·cases h
     ·rename_i m l hm;split at h
      ·rename_i T sz es hes;split at h
       ·rename_i hb;obtain ⟨rfl,rfl,hb⟩:=hb;simp only[zz1] at h;obtain ⟨v,hv,rfl⟩:=h;exact aly ho hu hti h1 h2 hm hes hk hb hv
       ·cases h
      ·cases h
     ·rename_i m p sz lo l hm;split at h
      ·rename_i fs hfs;split at h
       ·rename_i hb;simp only[u8] at h;subst h;exact alz ho hu hti h1 h2 hb.1 hm hfs hk hb.2
       ·cases h
      ·cases h
     ·cases h
    ·cases h
   ·cases hg
  ·cases hg
 -- index
 ·rename_i t y i ho;split at hg
  ·rename_i n e y' i' hu h1 h2;simp only[zz1] at hg;obtain ⟨s,hs,rfl⟩:=hg;simp only[bF] at h;split at h
   ·rename_i kk k hk;split at h
    ·rename_i hb;split at h
     ·rename_i gs hgs;split at h
      ·rename_i hev;split at h
       ·rename_i v hv;split at h
        ·rename_i hok;simp only[u8] at h;subst h;exact alA ho hu hs h1 h2 hgs hk hb hev hv hok
        ·cases h
       ·cases h
      ·cases h
     ·cases h
    ·cases h
   ·cases h
  ·cases hg
 -- slice
 ·rename_i t y lo hi mx ho;split at hg
  ·rename_i n e y' hu h1;split at hg
   ·split at hg
    ·rename_i hinfo;obtain ⟨ti,hti⟩:=zw2.1 hinfo;simp only[u8] at hg;subst hg;simp only[bF] at h;split at h
     ·rename_i m p hp;split at h
      ·rename_i gs hgs;split at h
       ·rename_i hev;simp only[u8] at h;subst h;exact alJ ho hu hti h1 hp hgs hev.1 hev.2.1 hev.2.2
       ·cases h
      ·cases h
     ·rename_i gs hgs;split at h
      ·rename_i hev;simp only[u8] at h;subst h;exact alK ho hu hti h1 hgs hev.1 hev.2.1
      ·cases h
     ·cases h
    ·cases hg
   ·cases hg
  ·rename_i e y' hu h1;split at hg
   ·rename_i lo' hi' mx' q1 q2 q3;split at hg
    ·rename_i hc;obtain ⟨ti,hti⟩:=zw2.1 hc.2;simp only[u8] at hg;subst hg;simp only[bF] at h;split at h
     ·rename_i sz es hes;split at h
      ·rename_i hsz;subst hsz;exact yr ho hu hti h1 q1 q2 q3 hc.1 (.inl hes) h
      ·cases h
     ·rename_i sz hes;split at h
      ·rename_i hsz;subst hsz;exact yr ho hu hti h1 q1 q2 q3 hc.1 (.inr (.inl ⟨hes,rfl⟩)) h
      ·cases h
     ·rename_i sz hes;split at h
      ·rename_i hsz;subst hsz;exact yr ho hu hti h1 q1 q2 q3 hc.1 (.inr (.inr ⟨hes,rfl⟩)) h
      ·cases h
     ·rename_i n p sz l0 k hv;split at h
      ·rename_i fs hfs;split at h
       ·rename_i hsz;exact alI ho hu hti h1 q1 q2 q3 hc.1 hsz hv hfs h
       ·cases h
      ·cases h
     ·cases h
    ·cases hg
   ·cases hg
  ·cases hg
 -- build
 ·rename_i t parts ho;split at hg
  ·rename_i zs ps hz hp;split at hg
   ·rename_i fs hu;split at hg
    ·rename_i hc;simp only[u8] at hg;subst hg;simp only[bF,zz1] at h;obtain ⟨zs',h,rfl⟩:=h;exact LI ho hz hp (.inl ⟨fs,hu,hc.1,hc.2⟩) h
    ·cases hg
   ·rename_i n e hu;split at hg
    ·rename_i hc;simp only[u8] at hg;subst hg;simp only[bF,zz1] at h;obtain ⟨zs',h,rfl⟩:=h;exact LI ho hz hp (.inr ⟨n,e,hu,hc.1,hc.2.1,hc.2.2⟩) h
    ·cases hg
   ·cases hg
  ·cases hg
 -- buildSlice
 ·rename_i t len parts ho;split at hg
  ·rename_i e hu;split at hg
   ·rename_i ps hp;split at hg
    ·rename_i h0;obtain ⟨rfl,rfl,h0⟩:=h0;obtain ⟨ti,hti⟩:=zw2.1 h0;simp only[u8] at hg;subst hg;simp only[bF,u8] at h;subst h;exact alk ho hu hti
    split at hg
    ·rename_i hc;obtain ⟨c1,c2,c3,gf,jv⟩:=hc;simp only[u8] at hg;subst hg;simp only[bF] at h;split at h
     ·rename_i es hes;split at h
      ·rename_i hev;simp only[u8] at h;subst h;refine alj ho hu hp c1 c2 c3 gf jv hes (fun y hy =>?_) hev.2;have:=zx3.1 hev.1 y hy;simpa using this
      ·cases h
     ·cases h
    ·cases hg
   ·cases hg
  ·cases hg
 -- extract
 ·rename_i y i ho;simp only[zz1] at hg;obtain ⟨z,hz,rfl⟩:=hg;simp only[bF] at h;split at h
  ·rename_i fs hfs;exact alq ho hz hfs h
  ·cases h
 -- makeFunc
 ·rename_i f first caps ho
  split at hg
  ·rename_i hfirst;simp only[zz1] at hg;obtain ⟨ys,hys,rfl⟩:=hg;simp only[bF] at h;split at h
   ·rename_i hv;simp only[u8] at h;subst h;have hf:first = #[]:=by simpa using hfirst
    rw[hf] at ho;refine alD ho hys (fun y hy =>?_);have:=zx3.1 hv (ae A y) (zw1.2 ⟨y,hy,rfl⟩);exact this
   ·cases h
  ·cases hg
 -- alloc
 ·simp only[zz1] at hg;obtain ⟨z,_,rfl⟩:=hg;simp[bF] at h
 -- box
 ·simp only[zz1] at hg;obtain ⟨z,_,rfl⟩:=hg;simp[bF] at h
 -- store
 ·split at hg
  ·split at hg
   ·simp only[u8] at hg;subst hg;simp[bF] at h
   ·cases hg
  ·cases hg
 -- call
 ·split at hg
  ·simp only[zz1] at hg;obtain ⟨z,_,rfl⟩:=hg;simp[bF] at h
  ·simp only[zz1] at hg;obtain ⟨z,_,rfl⟩:=hg;simp[bF] at h
 ·split at hg
  ·simp only[u8] at hg;subst hg;simp[bF] at h
  ·cases hg
 -- len
 ·rename_i args tys ho;split at hg
  ·rename_i y ty hargs htys;have ho':o.op=.call { callee:=.builtin .len,args := #[y],argTypes := #[ty] } :=by
    rw[ho];have e1:args = #[y]:=by apply Array.ext';simpa using hargs
    have e2:tys = #[ty]:=by apply Array.ext';simpa using htys
    rw[e1,e2]
   split at hg
   ·rename_i e hu;simp only[zz1] at hg;obtain ⟨y',hy,rfl⟩:=hg;simp only[bF] at h;split at h
    ·rename_i sz es hes;simp only[u8] at h;subst h;refine qA ho' hu (.inl ⟨e,rfl⟩) hy (fun a w D E hs v hv =>?_);rw[hes] at hv;obtain ⟨ad,cap,e1,e2,e3,_⟩:=nJ hv;exact ⟨zu4 e2 e3,fun _=>⟨ad,cap,e1⟩,fun e=>by cases e⟩
    ·rename_i sz hes;simp only[u8] at h;subst h;refine qA (n:=0) ho' hu (.inl ⟨e,rfl⟩) hy (fun a w D E hs v hv =>?_);rw[hes] at hv;obtain ⟨cs,q1,q2⟩:=hv;simp only[ai] at q2;exact ⟨by simp[maxLen],fun _=>⟨none,0,by simpa[bN,I.isAgg,q2] using q1.symm⟩,fun e=>by cases e⟩
    ·rename_i sz hes;simp only[u8] at h;subst h;refine qA (n:=0) ho' hu (.inl ⟨e,rfl⟩) hy (fun a w D E hs v hv =>?_);rw[hes] at hv;obtain ⟨cs,q1,q2⟩:=hv;simp only[ai] at q2;obtain ⟨ad,q2⟩:=q2;exact ⟨by simp[maxLen],fun _=>⟨ad,0,by simpa[bN,I.isAgg,q2] using q1.symm⟩,fun e=>by cases e⟩
    ·rename_i m l hm;split at h
     ·rename_i T sz es hes;split at h
      ·rename_i hl;subst hl;simp only[u8] at h;subst h;refine qA ho' hu (.inl ⟨e,rfl⟩) hy (fun a w D E hs v hv =>?_);rw[hm] at hv;rcases hs.own hes hv with ⟨rfl,_,rfl⟩ | ⟨b,cap,cs,pre,rest,_,rfl,_,_,_,_,_,k8,k9,_⟩
       ·exact ⟨by simp[maxLen],fun _=>⟨none,0,rfl⟩,fun e=>by cases e⟩
       ·exact ⟨zu4 k8 k9,fun _=>⟨_,_,rfl⟩,fun e=>by cases e⟩
      ·cases h
     ·cases h
    ·rename_i n p sz lo k hm;simp only[u8] at h;subst h;refine qA ho' hu (.inl ⟨e,rfl⟩) hy (fun a w D E hs v hv =>?_);rw[hm] at hv;obtain ⟨cs,q1,q2⟩:=hv;simp only[ai] at q2;obtain ⟨b,aV,off,l,_,_,_,q2,q3,q4,_⟩:=q2;exact ⟨by omega,fun _=>⟨_,_,by simpa[bN,I.isAgg,q2] using q1.symm⟩,fun e=>by cases e⟩
    ·cases h
   ·rename_i hu;simp only[zz1] at hg;obtain ⟨y',hy,rfl⟩:=hg;simp only[bF] at h;split at h
    ·rename_i s hs';simp only[u8] at h;subst h;refine qA ho' hu (.inr rfl) hy (fun a w D E hs v hv =>?_);rw[hs'] at hv;obtain ⟨e1,e2⟩:=oO hv;exact ⟨e2,(fun e=>by obtain ⟨_,e⟩:=e;cases e),fun _=>⟨s,e1,rfl⟩⟩
    ·cases h
   ·cases hg
  ·cases hg
 -- append
 ·split at hg
  ·split at hg
   ·split at hg
    ·simp only[zz1] at hg;obtain ⟨z,_,rfl⟩:=hg;simp[bF] at h
    ·split at hg
     ·simp only[zz1] at hg;obtain ⟨z,_,rfl⟩:=hg;simp[bF] at h
     ·cases hg
   ·cases hg
  ·cases hg
 -- cap
 ·rename_i args tys ho;split at hg
  ·rename_i y ty hargs htys;have ho':o.op=.call { callee:=.builtin .cap,args := #[y],argTypes := #[ty] } :=by
    rw[ho];have e1:args = #[y]:=by apply Array.ext';simpa using hargs
    have e2:tys = #[ty]:=by apply Array.ext';simpa using htys
    rw[e1,e2]
   split at hg
   ·rename_i e hu;simp only[zz1] at hg;obtain ⟨y',hy,rfl⟩:=hg;simp only[bF] at h;split at h
    ·rename_i sz hes;simp only[u8] at h;subst h;refine yp ho' hu hy (fun a w D E hs v hv =>?_);rw[hes] at hv;obtain ⟨cs,q1,q2⟩:=hv;simp only[ai] at q2;exact ⟨by simp[maxLen],_,_,by simpa[bN,I.isAgg,q2] using q1.symm⟩
    ·rename_i sz hes;simp only[u8] at h;subst h;refine yp ho' hu hy (fun a w D E hs v hv =>?_);rw[hes] at hv;obtain ⟨cs,q1,q2⟩:=hv;simp only[ai] at q2;obtain ⟨ad,q2⟩:=q2;exact ⟨by simp[maxLen],_,_,by simpa[bN,I.isAgg,q2] using q1.symm⟩
    ·rename_i n p sz lo k hm;split at h
     ·rename_i fs hfs;simp only[u8] at h;subst h;refine yp ho' hu hy (fun a w D E hs v hv =>?_);rw[hm] at hv;obtain ⟨_,b,cs,T,off,c1,c2,c3,_,_,_,_,_,_,_,_,_,_,_,q1,q2⟩:=hs.view hv hfs;exact ⟨by omega,_,_,q2⟩
     ·cases h
    ·cases h
   ·cases hg
  ·cases hg
 -- clear
 ·split at hg
  ·split at hg
   ·simp only[zz1] at hg;obtain ⟨z,_,rfl⟩:=hg;simp[bF] at h
   ·cases hg
  ·cases hg
 -- copy
 ·split at hg
  ·split at hg
   ·split at hg
    ·simp only[u8] at hg;subst hg;simp[bF] at h
    ·cases hg
   ·cases hg
  ·cases hg
 ·cases hg
theorem gC.append{α β:Type}{R:α→β→Prop} : ∀ {xs:List α} {ys:List β} {xs':List α} {ys':List β},gC R xs ys→gC R xs' ys'→gC R (xs++xs') (ys++ys')
 |_,_,_,_,.nil,h=>h
 |_,_,_,_,.cons h1 h2,h=>.cons h1 (h2.append h)
theorem Aj{w:World}{D:aW}{E:a8} : ∀ {xs:List I} {vs:List Value},aK w D E xs vs→gC (a7 w D E) xs vs
 | [],vs,h=>by simp only[aK] at h;subst h;exact .nil
 |x::xs,vs,h=>by
  simp only[aK] at h;obtain ⟨v,rest,cs,rfl,h1,h2,h3⟩:=h;exact .cons (nz h1 h2) (Aj h3)
theorem VU {P : Program} {f : FuncId} (h : iC P f = true) : ∃ fn, P.funcs[f]? = some fn ∧ ¬ fn.name = "runtime.NumGoroutine" ∧ ¬ fn.body = none := by
 unfold iC at h;cases hf:P.funcs[f]? with
 |none=>simp[hf] at h
 |some fn =>
  simp only[hf,Option.any_some,zz3,bne_iff_ne,ne_eq] at h;refine ⟨fn,rfl,by simpa using h.1,?_⟩;cases hb:fn.body <;>simp_all
theorem Af{P:Program}{w:World}{f:FuncId}{args:Array Value}(h:iC P f=true):(callFunc f args).run P w=.ok (.enter f args) w:=by
 obtain ⟨fn,h1,h2,h3⟩:=VU h;simp[callFunc,h1,h2,h3]
theorem aA.aqo{f:FuncId}{avs cargs:List I}{r:I}{vs:List Value}{a:Act}{w:World}{D:aW}{E:a8}(hs:a6 c A a w D E)(h:aA c.P f cargs r)(hf:r.flat=true)(hc:cn true A avs=some cargs)(hv:gC (a7 w D E) avs vs) :
  Calls c.P f vs.toArray w fun e w'=>∃ v D',e=.returned v∧a6 c A a w' D' E∧a7 w' D' E r v:=by
 have hw:iZ true A D E (fun b _=>b<w.heap.size):=by
  refine ⟨fun b o hd=>hs.dy b o hd,fun n T sz es b cap hn az o _=>hs.gF az rfl,fun _ n x b aV hn az o _=>hs.gF az rfl,fun _ n ks vs b hn az=>hs.gF az rfl⟩
 have hrv:=nq (E':=dV) hs (fun _ _ h=>h) hw avs cargs vs (nL _ _ hv (rX hc)) hc;refine (h.2 w _ vs (fun _ _ hd=>hd) hrv).mono fun e w' ⟨v,D',he,h1,h2,h3,h4⟩=>⟨v,D,he,?_,a7.flat hf h1⟩
 exact hs.grow h2 (fun _ _ hd=>hd) (fun _ _ hd _=>hd) (fun b o hd=>Nat.lt_of_lt_of_le (hs.dy b o hd) h2.size)
theorem aA.aqq{f:FuncId}{avs cargs:List I}{r:I}{vs:List Value}{a:Act}{w:World}{D:aW}{E:a8}(hs:a6 c A a w D E)(h:aA c.P f cargs r)(hc:cn false A avs=some cargs)(hv:gC (a7 w D E) avs vs) :
  Calls c.P f vs.toArray w fun e w'=>∃ v D',e=.returned v∧a6 c A a w' D' E∧a7 w' D' E r v:=by
 obtain ⟨hs1,hw⟩:=hs.pN;have hrv:=nq (E':=dV) hs (fun _ _ h=>h) hw avs cargs vs (nL _ _ hv (rX hc)) hc;refine (h.2 w _ vs hs1.dy hrv).mono fun e w' ⟨v,D',he,h1,h2,h3,h4⟩=>⟨v,fun b o=>pJ A D E b o∨(w.heap.size≤b∧D' b o),he,?_,?_⟩
 ·refine hs1.grow h2 (fun _ _ hd=>.inl hd) ?_ ?_
  ·rintro b o (hd | ⟨hle,_⟩) hlt
   ·exact hd
   ·omega
  ·rintro b o (hd | ⟨_,hd⟩)
   ·exact Nat.lt_of_lt_of_le (hs1.dy b o hd) h2.size
   ·exact h3 b o hd
 ·refine a7.bO (E:=dV) ⟨fun b o hd =>?_,fun _ _ _ _ h=>h,fun n b aV hn=>by simp[dV] at hn,fun n aG l hn=>by simp[dV] at hn,fun n b hn=>by simp[dV] at hn,fun n b hn=>by simp[dV] at hn,fun _ _ _ _ h=>h⟩ h1;rcases Nat.lt_or_ge b w.heap.size with hlt | hge
  ·exact .inl (h4 b o hd hlt)
  ·exact .inr ⟨hge,hd⟩
theorem Mq(p:Nat→Bool)(os:List (Nat×ah))(n:Nat):ao (os.filter fun q=>p q.1) n=if p n then ao os n else none:=by
 induction os with
 |nil=>simp[ao]
 |cons q os ih =>
  obtain ⟨k,v⟩:=q;simp only[zx8];by_cases hk:p k=true
  ·simp only[hk,if_true,ao,ih];by_cases hn:n=k
   ·subst hn;simp only[hk,if_true]
   ·simp only[if_neg hn]
  ·simp only[hk,zz6,if_false,ih,ao];by_cases hn:n=k
   ·subst hn;simp[hk]
   ·simp only[if_neg hn]
theorem nu(ns:List Nat)(os:List (Nat×ah))(n:Nat):ao (cR ns os) n=if ns.contains n then none else ao os n:=by
 rw[cR,Mq (fun n => !ns.contains n)];cases ns.contains n <;>rfl
theorem px(ns:List Nat)(os:List (Nat×ah))(n:Nat):ao (ji ns os) n=if ns.contains n then ao os n else none:=Mq _ _ _
theorem uX{p:Nat→Bool} : ∀ {os:List (Nat×ah)},aY p os→∀ k x,ao os k=some x→x.only p=true
 | [],_,k,x,hx=>by simp[ao] at hx
 |(j,v)::r,h,k,x,hx=>by
  simp only[aY] at h;simp only[ao] at hx;split at hx
  ·simp only[u8] at hx;subst hx;exact h.1
  ·exact uX h.2 k x hx
theorem Mr(ns:List Nat):∀ (ts:List (Nat×I)) (t:Nat),cm (gU ns ts) t=if (cm ts t).only (fun n => !ns.contains n) then cm ts t else .dx
 | [],t=>by simp[gU,cm,I.only]
 |(k,v)::r,t=>by
  simp only[gU,zy2,cm];by_cases h:t=k
  ·simp only[if_pos h]
  ·simp only[if_neg h];exact Mr ns r t
theorem a6.FA{a:Act}{w:World}{D:aW}{E:a8}{ts:List (Nat×I)}{os0:List (Nat×ah)}(h:a6 c (aw ts os0) a w D E)(ns:List Nat)(ho:aY (fun n => !ns.contains n) (cR ns os0)) :
  ∃ D' E',a6 c (aw (gU ns ts) (cR ns os0)) a w D' E'∧iZ true (aw ts (ji ns os0)) D E D':=by
 have h1:=h.pN.1;have hw1:=h.pN.2;obtain ⟨D1,hD1⟩:∃ D1,D1=pJ (aw ts os0) D E:=⟨_,rfl⟩
 rw[←hD1] at h1 hw1;obtain ⟨D2,hD2⟩:∃ D2:aW,D2=fun b o=>D1 b o∨(∃ n x aV,ns.contains n=true∧ao os0 n=some (.box x)∧E n=some (.aC b aV)∧o<x.size)∨∃ n ks vs,ns.contains n=true∧ao os0 n=some (.cE ks vs)∧E n=some (.cE b)∧o=0:=⟨_,rfl⟩
 obtain ⟨E2,hE2⟩:∃ E2:a8,E2=fun n=>if ns.contains n then none else E n:=⟨_,rfl⟩
 have e2:∀ n,(!ns.contains n)=true→E2 n=E n:=fun n hn=>by rw[hE2];simp at hn;simp[hn]
 have hl:ec w D1 E2 w D2 E2:=⟨fun b o hd=>by rw[hD2];exact .inl hd,fun _ _ _ _ h=>h,fun _ _ _ h=>h,fun _ aG l h=>⟨aG,l,h,zz7 _,fun _=>rfl⟩,fun _ _ h=>h,fun _ _ h=>h,fun _ _ _ _ h=>h⟩
 have qK:∀ b o,D2 b o→D1 b o∨∃ n e q,ns.contains n=true∧E n=some e∧e.aG=some b∧c.fE b∧w.heap[b]?=some q:=fun b o hd=>by
  rw[hD2] at hd;rcases hd with hd | ⟨n,x,aV,k1,k2,k3,k4⟩ | ⟨n,ks,vs,k1,k2,k3,_⟩
  ·exact .inl hd
  ·obtain ⟨b',cs,T,q1,q2,q3,_⟩:=h.box (n:=n) (x:=x) (by simpa[aw] using k2);rw[k3] at q1;simp only[u8,bZ.aC.injEq] at q1;obtain ⟨rfl,rfl⟩:=q1;exact .inr ⟨n,_,_,k1,k3,rfl,q2,q3⟩
  ·obtain ⟨b',es,ck,q1,q2,q3,_⟩:=h.map (n:=n) (ks:=ks) (vs:=vs) (by simpa[aw] using k2);rw[k3] at q1;cases q1;exact .inr ⟨n,_,_,k1,k3,rfl,q2,q3⟩
 refine ⟨D2,E2,⟨h1.sz,h1.fj,fun t =>?_,h1.eh,fun b o hd hm =>?_,fun b o hd =>?_,fun n =>?_,fun n m e e' b g1 g2 g3 g4 =>?_,fun n e hn =>?_,h1.fx,fun b o hd=>hl.dh b o (h1.cV b o hd),h1.fD,h1.gl⟩,?_⟩
 ·simp only[aw,Mr];have ht:=h1.eH t;simp only[aw] at ht;split
  ·rename_i hp;exact a7.bO hl (a7.dM e2 hp ht)
  ·simp[a7]
 ·rcases qK b o hd with hd | ⟨n,e,q,_,_,_,k,_⟩
  ·exact h1.dh b o hd hm
  ·exact absurd k hm
 ·rcases qK b o hd with hd | ⟨n,e,q,_,_,_,_,k⟩
  ·exact h1.dy b o hd
  ·exact gH k
 ·simp only[aw,nu];by_cases hn:ns.contains n=true
  ·simp only[hn,if_true,df];rw[hE2];simp only[hn,if_true]
  ·have hnb:(!ns.contains n)=true:=by simpa using hn
   simp only[hn,zz6,if_false];have hob:=h1.bQ n;simp only[aw] at hob;cases hx:ao os0 n with
   |none=>rw[hx] at hob;simp only[df] at hob ⊢;rw[e2 n hnb];exact hob
   |some x =>
    have hon:=uX ho n x (by rw[nu,if_neg hn];exact hx);have nD:∀ e b,E n=some e→e.aG=some b→∀ o,D2 b o→D1 b o:=fun e b he hb o hd=>by
     rcases qK b o hd with hd | ⟨m,e',q,k1,k3,k2,_⟩
     ·exact hd
     ·have:=h.da n m e _ b he k3 hb k2;subst this;exact absurd k1 hn
    rw[hx] at hob;cases x with
    |box x =>
     obtain ⟨b,cs,T,k1,k2,k3,k4,k5⟩:=hob;exact ⟨b,cs,T,(e2 n hnb).trans k1,k2,k3,ai.bO hl _ _ (ai.dM e2 _ _ (by simpa[ah.only] using hon) k4),fun o hd=>k5 o (nD _ b k1 rfl o hd)⟩
    |b9 T sz es =>
     obtain ⟨aG,k1,k2,k3⟩:=hob;refine ⟨aG,(e2 n hnb).trans k1,k2,?_⟩;cases aG with
     |none=>exact k3
     |some bc =>
      obtain ⟨b,cap⟩:=bc;obtain ⟨cs,pre,rest,q1,q2,q3,q4,q5,q6,q7,q8⟩:=k3;exact ⟨cs,pre,rest,q1,q2,q3,aL.bO hl _ _ (aL.dM e2 _ _ (by simpa[ah.only] using hon) q4),q5,q6,q7,fun o hd=>q8 o (nD _ b k1 rfl o hd)⟩
    |c4 T xs =>
     obtain ⟨aG,k1,k2,k3⟩:=hob;refine ⟨aG,(e2 n hnb).trans k1,k2,?_⟩;cases aG with
     |none=>exact k3
     |some bc =>
      obtain ⟨b,cap⟩:=bc;obtain ⟨cs,r,q1,q2,q3,q4,q5,q6,q7⟩:=k3;exact ⟨cs,r,q1,q2,q3,q4,q5,q6,fun o hd=>q7 o (nD _ b k1 rfl o hd)⟩
    |dZ x =>
     obtain ⟨b,k1,k2,k3,k4,k5⟩:=hob;exact ⟨b,(e2 n hnb).trans k1,k2,k3,k4,fun o hd=>k5 o (nD _ b k1 rfl o hd)⟩
    |cE ks vs =>
     obtain ⟨b,es,ck,k1,k2,k3,k4,k5,k6,k7⟩:=hob;simp only[ah.only,zz3] at hon;exact ⟨b,es,ck,(e2 n hnb).trans k1,k2,k3,k4,aK.bO hl _ _ (aK.dM e2 _ _ hon.1 k5),aK.bO hl _ _ (aK.dM e2 _ _ hon.2 k6),fun o hd=>k7 o (nD _ b k1 rfl o hd)⟩
    |it ks vs left cur =>
     obtain ⟨r,b,es,ck,si,se,la,k1,k2,k3,k4,k5,k6,k7,k8,k9,k9',k10⟩:=hob;simp only[ah.only,zz3] at hon;exact ⟨r,b,es,ck,si,se,la,(e2 n hnb).trans k1,k2,k3,k4.bO hl,aK.bO hl _ _ (aK.dM e2 _ _ hon.1 k5),aK.bO hl _ _ (aK.dM e2 _ _ hon.2 k6),k7,k8,k9,k9',fun o hd=>k10 o (nD _ r k1 rfl o hd)⟩
 ·have cut:∀ n e,E2 n=some e→E n=some e:=fun n e he=>by
   rw[hE2] at he;simp only at he;split at he
   ·cases he
   ·exact he
  exact h.da n m e e' b (cut n e g1) (cut m e' g2) g3 g4
 ·by_cases hm:ns.contains n=true
  ·left;rw[hE2];simp only[hm,if_true]
  ·rw[e2 n (by simpa using hm)];exact h.en n e hn
 ·refine ⟨fun b o hd=>by rw[hD2];exact .inl (hw1.dh b o hd),fun n T sz es b cap hn az o hlt =>?_,fun _ n x b aV hn az o hlt =>?_,fun _ n ks vs b hn az =>?_⟩
  ·simp only[aw,px] at hn;split at hn
   ·rw[hD2];exact .inl (hw1.b9 n T sz es b cap hn az o hlt)
   ·cases hn
  ·simp only[aw,px] at hn;split at hn
   ·rename_i hk;rw[hD2];exact .inr (.inl ⟨n,x,aV,hk,hn,az,hlt⟩)
   ·cases hn
  ·simp only[aw,px] at hn;split at hn
   ·rename_i hk;rw[hD2];exact .inr (.inr ⟨n,ks,vs,hk,hn,az,rfl⟩)
   ·cases hn
theorem aA.aqp{f:FuncId}{avs cargs:List I}{r:I}{vs:List Value}{a:Act}{w:World}{D:aW}{E:a8}{ts:List (Nat×I)}{os0:List (Nat×ah)}(hs:a6 c (aw ts os0) a w D E)(ns:List Nat)(ho:aY (fun n => !ns.contains n) (cR ns os0))
  (h:aA c.P f cargs r) (hc:cn true (aw ts (ji ns os0)) avs=some cargs) (hv:gC (a7 w D E) avs vs) :
  Calls c.P f vs.toArray w fun e w'=>∃ v D' E',e=.returned v∧a6 c (aw (gU ns ts) (cR ns os0)) a w' D' E'∧a7 w' D' E' r v:=by
 obtain ⟨D1,E1,hs1,hw⟩:=hs.FA ns ho;have hu:eI (aw ts (ji ns os0)) (aw ts os0):=fun n x hx=>by
  simp only[aw,px] at hx ⊢;split at hx
  ·exact hx
  ·cases hx
 have hrv:=nq (E':=dV) hs hu hw avs cargs vs (nL _ _ hv (rX hc)) hc;refine (h.2 w _ vs hs1.dy hrv).mono fun e w' ⟨v,D',he,h1,h2,h3,h4⟩=>⟨v,fun b o=>D1 b o∨(w.heap.size≤b∧D' b o),E1,he,?_,?_⟩
 ·refine hs1.grow h2 (fun _ _ hd=>.inl hd) ?_ ?_
  ·rintro b o (hd | ⟨hle,_⟩) hlt
   ·exact hd
   ·omega
  ·rintro b o (hd | ⟨_,hd⟩)
   ·exact Nat.lt_of_lt_of_le (hs1.dy b o hd) h2.size
   ·exact h3 b o hd
 ·refine a7.bO (E:=dV) ⟨fun b o hd =>?_,fun _ _ _ _ h=>h,fun n b aV hn=>by simp[dV] at hn,fun n aG l hn=>by simp[dV] at hn,fun n b hn=>by simp[dV] at hn,fun n b hn=>by simp[dV] at hn,fun _ _ _ _ h=>h⟩ h1;rcases Nat.lt_or_ge b w.heap.size with hlt | hge
  ·exact .inl (h4 b o hd hlt)
  ·exact .inr ⟨hge,hd⟩
theorem we{a:Act}{w:World}{D D1:aW}{E:a8}{ts:List (Nat×I)}{os0 os:List (Nat×ah)}{ρ:List (Nat×Nat)}{aC:Bool}{A0:af}(hs:a6 c (aw ts os0) a w D E)(hu:eI A0 (aw ts os0))(hD:∀ b o,D b o→D1 b o)(hw:iZ aC A0 D E D1) :
  ∀ (avs cargs:List I) (vs:List Value),jV aC A0 ρ os avs cargs→gC (a7 w D E) avs vs→aK w D1 (az ρ os E) cargs vs
 | [],[],vs,_,hv=>by cases hv;simp[aK]
 | [],_::_,_,h,_=>by simp[jV] at h
 |_::_,[],_,h,_=>by simp[jV] at h
 |x::xs,y::ys,vs,h,hv=>by
  cases hv with
  |cons hv hvs =>
  rename_i v vs;simp only[jV] at h;have ih:=we hs hu hD hw xs ys vs h.2 hvs;have hl:ec w D (az ρ os E) w D1 (az ρ os E):=⟨hD,fun _ _ _ _ h=>h,fun _ _ _ h=>h,fun _ aG l h=>⟨aG,l,h,zz7 _,fun _=>rfl⟩,fun _ _ h=>h,fun _ _ h=>h,fun _ _ _ _ h=>h⟩
  have h1:∃ cs,bN y v cs∧ai w D1 (az ρ os E) y cs:=by
   rcases h.1 with ⟨k1,k2,k3⟩ | k
   ·rw[k1] at hv;have h2:=a7.bO hl ((a7.aN (w:=w) (D:=D) (p:=aq os) (ρ:=bD ρ) (E:=az ρ os E) (E':=E) (fun n hn=>by simp only[az,hn,if_true]) k2).1 hv);cases y <;>simp only[a7] at h2 <;>first | (simp[I.cq] at k3;done) | exact h2
   ·have h2:aK w D E [x] [v]:=nL [x] [v] (.cons hv .nil) (by
     intro z hz;simp only[zu6] at hz;subst hz;cases z <;>simp_all[bC,I.cq])
    have h3:=nq (E':=az ρ os E) hs hu hw [x] [y] [v] h2 (by simp[cn,k]);simp only[aK] at h3;obtain ⟨v',rest,cs,e,k1,k2,_⟩:=h3;simp only[List.cons.injEq] at e;obtain ⟨rfl,_⟩:=e;exact ⟨cs,k1,k2⟩
  obtain ⟨cs,k1,k2⟩:=h1;simp only[aK];exact ⟨v,vs,cs,rfl,k1,k2,ih⟩
theorem eI.drop(ts:List (Nat×I))(ns:List Nat)(os0:List (Nat×ah)):eI (aw ts (cR ns os0)) (aw ts os0):=fun n x hx=>by
 simp only[aw,nu] at hx ⊢;split at hx
 ·cases hx
 ·exact hx
theorem rD.use{run:Array Value→World→(Ending→World→Prop)→Prop}{since:World→aW→a8→Prop}{avs cargs:List I}{post:cO}{vs:List Value}{a:Act}{w:World}{D:aW}{E:a8}{ts:List (Nat×I)}{os0 os:List (Nat×ah)}{ρ:List (Nat×Nat)}
  (hs:a6 c (aw ts os0) a w D E) (h:rD run since cargs os post) (aC:Bool) (hmono:∀ {vs w R R'},run vs w R→(∀ e w,R e w→R' e w)→run vs w R') (hsince:(aC=true→∀ D E,since w D E)∧(aC=false→since w (pJ (aw ts os0) D E) (az ρ os E)))
  (hg:fK ρ os os0) (ha:jV aC (aw ts (cR (j6 ρ os) os0)) ρ os avs cargs) (hb:∀ r os',post r os'→dn aC ρ os os0 r os') (hv:gC (a7 w D E) avs vs) :
  run vs.toArray w fun e w'=>∃ v r os' D2 E2,e=.returned v∧post r os'∧a6 c (aw ts (dB ρ os'++os0)) a w' D2 E2∧a7 w' D2 E2 (r.aN (bD ρ)) v∧∀ m e,az ρ os E m=some e→aq os' m=true→∃ e',E2 (bD ρ m)=some e'∧e.le e':=by
 have notName:∀ n,(j6 ρ os).contains n=false→∀ m,aq os m=true→bD ρ m≠n:=fun n hn m hm he=>by
  obtain ⟨q,hq,rfl⟩:=yQ.1 hm;have:(j6 ρ os).contains n=true:=by simp only[j6,List.contains_iff_mem,zw1];exact ⟨q,hq,he⟩
  rw[this] at hn;cases hn
 have other:∀ {D:aW},a6 c (aw ts os0) a w D E→∀ n e b x,ao (cR (j6 ρ os) os0) n=some x→E n=some e→e.aG=some b→¬ dJ (az ρ os E) b:=fun hs n e b x hx he hb ho=>by
  obtain ⟨m,e',h1,h2,hb',_⟩:=hs.ud hg ho;rw[nu] at hx;split at hx
  ·cases hx
  ·rename_i hc;have:=hs.da n (bD ρ m) e _ b he h2 hb hb';exact notName n (by simpa using hc) m h1 this.symm
 cases aC with
 |true =>
  obtain ⟨D1,hD1⟩:∃ D1:aW,D1=fun b o=>D b o∨(b<w.heap.size∧¬ dJ (az ρ os E) b):=⟨_,rfl⟩
  have hD:∀ b o,D b o→D1 b o:=fun b o hd=>by rw[hD1];exact .inl hd
  have hw:iZ true (aw ts (cR (j6 ρ os) os0)) D E D1:=by
   refine ⟨hD,fun n T sz es b cap hn az o _ =>?_,fun _ n x b aV hn az o _ =>?_,fun _ n ks vs b hn az =>?_⟩
   ·rw[hD1];exact .inr ⟨hs.gF az rfl,other hs n _ b _ hn az rfl⟩
   ·rw[hD1];exact .inr ⟨hs.gF az rfl,other hs n _ b _ hn az rfl⟩
   ·rw[hD1];exact .inr ⟨hs.gF az rfl,other hs n _ b _ hn az rfl⟩
  have hrv:=we hs (eI.drop ts _ os0) hD hw avs cargs vs ha hv;refine hmono (h w D1 (az ρ os E) vs (hsince.1 rfl _ _) (fun b o hd=>by
   rw[hD1] at hd;rcases hd with hd | hd
   ·exact hs.dy b o hd
   ·exact hd.1) (hs.LQ hg hD fun b o hd ho=>by
    rw[hD1] at hd;rcases hd with hd | hd
    ·exact hd
    ·exact absurd ho hd.2) hrv) ?_
  rintro e w' ⟨v,D',E',r,os',he,hp,h1,h2,h3,h4,h5,h6,h7,h8⟩;obtain ⟨D2,E2,k1,k2⟩:=hs.qe hg hD (fun h=>by cases h) (hb r os' hp) h1 h2 h3 h5 h4 h8 h6 h7;exact ⟨v,r,os',D2,E2,he,hp,k1,k2⟩
 |false =>
  obtain ⟨hs1,hw⟩:=hs.pN;have hw':iZ false (aw ts (cR (j6 ρ os) os0)) D E (pJ (aw ts os0) D E):=⟨hw.dh,fun n T sz es b cap hn az o hlt=>hw.b9 n T sz es b cap (eI.drop ts _ os0 n _ hn) az o hlt,(fun hb=>by cases hb),fun hb=>by cases hb⟩
  have hrv:=we hs (eI.drop ts _ os0) hw.dh hw' avs cargs vs ha hv;refine hmono (h w _ (az ρ os E) vs (hsince.2 rfl) hs1.dy (hs1.LQ hg (fun _ _ h=>h) fun b o hd _=>hd) hrv) ?_;rintro e w' ⟨v,D',E',r,os',he,hp,h1,h2,h3,h4,h5,h6,h7,h8⟩;obtain ⟨D2,E2,k1,k2⟩:=hs1.qe hg (fun _ _ h=>h) (fun _ _ _ h=>h) (hb r os' hp) h1 h2 h3 h5 h4 h8 h6 h7;exact ⟨v,r,os',D2,E2,he,hp,k1,k2⟩
theorem a6.since{A:af}{a:Act}{w:World}{D:aW}{E E':a8}(h:a6 c A a w D E)(az:∀ n,E' n=E n∨E' n=none):Bw c w D E' :=
 ⟨h.eh,h.cV,h.dh,fun n e hn=>by
  rcases az n with k | k
  ·rw[k];exact h.en n e hn
  ·exact .inl k,h.gl⟩
theorem pd(c:c6)(f:FuncId):c.bB.fn f:=by unfold c6.bB;split <;>trivial
theorem EJ(c:c6):c.bB.depth.isSome=true→1≤9:=fun _=>by omega
theorem m7{a:Act}{w:World} : ∀ f,o.about c.P w a.eval=some f→c.bB.fn f:=fun f _=>pd c f
theorem nN{g:ct}(hg:dO c.P o=some g)(r:Option Nat)(ρ:Operand→Value):o.semAt r ρ=execOp ρ o:=by
 cases r with
 |none=>rfl
 |some l =>
  refine Oper.semAt_some l ρ o fun cl h =>?_;unfold dO at hg;rw[h] at hg;simp at hg
theorem VW{f:FuncId}{args:Array Value}{w:World}{R:Ending→World→Prop}(h:Calls c.P f args w R):CallsIn c.bB (9-1) c.P f args w R:=by
 have h1:CallsIn Fence.wide (9-1) c.P f args w R:=callsIn_wide.2 h;unfold c6.bB;split
 ·exact h1
 ·exact h1
theorem tf.mono{P:Program}{v:Value}{vs:Array Value}{w:World}{R R':Ending→World→Prop}(h:tf P v vs w R)(hr:∀ e w,R e w→R' e w):tf P v vs w R':=by
 obtain ⟨l,h1,fn,tmps,assign,body,h2,h3⟩:=h;exact ⟨l,h1,fn,tmps,assign,body,h2,h3.mono hr⟩
theorem apu{l:Nat}{f:FuncId}{tmps:Array Value}{assign body:Code}{w:World}{R:Ending→World→Prop}(h:RoundIn Fence.wide 9 c.P l f tmps assign body w R):RoundIn c.bB (9-1) c.P l f tmps assign body w R:=by
 have h1:RoundIn Fence.wide (9-1) c.P l f tmps assign body w R:=⟨h.1,fun cc cs _=>h.2 cc cs (room_wide _)⟩
 unfold c6.bB;split
 ·exact h1
 ·exact h1
theorem jr.wp{B:af}{g:ct}(hg:dO c.P o=some g)(h:jr c A o B){a:Act}{w:World}{K:Act→World→Prop}{Q:Exit→Act→World→Prop}(hs:cD c A a w)(hK:∀ a w,cD c B a w→K a w):o.wpIn c.bB 9 c.P a w K Q:=by
 obtain ⟨D,E,hs⟩:=hs;obtain ⟨w',h⟩:=h a w D E hs;refine ⟨m7,?_⟩;rw[nN hg];rcases h with ⟨v,h1,h2⟩ | ⟨h1,h2⟩
 ·rw[h1];exact hK _ _ h2
 ·rw[h1];exact hK _ _ h2
theorem D9{dr:Bool}{K:af→Prop}{f:FuncId}{avs:List I}{a1 a2:Option (List I)}{vs:List Value}{dst:Option Nat}{rest:List aE}{a:Act}{w:World}{Kw:Act→World→Prop}{Q:Exit→Act→World→Prop}{g:ct}(hg:dO c.P o=some g)(h1:cn true A avs=a1)(h2:cn false A avs=a2)
  (hs:∀ D E,a6 c A a w D E→gC (a7 w D E) avs vs) (hsim:cD c A a w) (hwp:bn c.P c.Y dr K (.call f avs a1 a2 dst rest A)) (hd:o.dst=dst) (hdn:∀ k,dst=some k→k<c.n)
  (hrun:iC c.P f=true→(execOp a.eval o).run c.P w=.ok (.enter f vs.toArray) w)
  (hK:∀ B a' w',bn c.P c.Y dr K (aF rest B)→cD c B a' w'→Kw a' w'):o.wpIn c.bB 9 c.P a w Kw Q:=by
 obtain ⟨D,E,hsw⟩:=hsim;have pV:∀ {R:Ending→World→Prop},iC c.P f=true→Calls c.P f vs.toArray w R→(∀ e w',R e w'→∃ v,e=.returned v∧Kw (a.put o.dst v) w')→o.wpIn c.bB 9 c.P a w Kw Q:=fun {R} hc hcl hR=>by
  refine ⟨m7,?_⟩;rw[nN hg,hrun hc,Oper.uponIn_enter];refine ⟨EJ c,VW (hcl.mono fun e w' he =>?_)⟩;obtain ⟨v,rfl,hv⟩:=hR e w' he;exact hv
 cases hwp with
 |flat r hspec hflat hrest =>
  refine pV hspec.1 (hspec.aqo hsw hflat h1 (hs D E hsw)) ?_;rintro e w' ⟨v,D',he,hs',hv⟩;refine ⟨v,he,?_⟩;rw[hd];exact hK _ _ _ hrest ⟨D',E,hs'.aT hdn hv⟩
 |lead r hspec hrest =>
  refine pV hspec.1 (hspec.aqq hsw h2 (hs D E hsw)) ?_;rintro e w' ⟨v,D',he,hs',hv⟩;refine ⟨v,he,?_⟩;rw[hd];exact hK _ _ _ hrest ⟨D',E,hs'.aT hdn hv⟩
 |iQ ns r hdr hspec hf ho hrest =>
  refine pV hspec.1 (hspec.aqp hsw ns ho hf (hs D E hsw)) ?_;rintro e w' ⟨v,D',E',he,hs',hv⟩;refine ⟨v,he,?_⟩;rw[hd];exact hK _ _ _ hrest ⟨D',E',hs'.aT hdn hv⟩
 |bQ aC ρ os cargs post hdr hspec hgv ha hb hrest =>
  refine pV hspec.1 (hspec.2.use hsw aC (fun h=>h.mono) ⟨fun _ _ _=>trivial,fun _=>trivial⟩ hgv ha hb (hs D E hsw)) ?_;rintro e w' ⟨v,r,os',D2,E2,he,hp,hs',hv,_⟩;refine ⟨v,he,?_⟩;rw[hd];exact hK _ _ _ (hrest r os' hp) ⟨D2,E2,hs'.aT hdn hv⟩
theorem VV{dr:Bool}{K:af→Prop}{v:Value}{avs:List I}{vs:List Value}{dst:Option Nat}{rest:List aE}{a:Act}{w:World}{Kw:Act→World→Prop}{Q:Exit→Act→World→Prop}{g:ct}(hg:dO c.P o=some g)
  (hs:∀ D E,a6 c A a w D E→gC (a7 w D E) avs vs) (hsim:cD c A a w) (hwp:bn c.P c.Y dr K (.qj v avs dst rest A)) (hd:o.dst=dst) (hdn:∀ k,dst=some k→k<c.n)
  (hrun:∀ l,v=.func (.yield l) #[] #[]→(execOp a.eval o).run c.P w=(Instr.yield l vs.toArray).run c.P w)
  (hK:∀ B a' w',bn c.P c.Y dr K (aF rest B)→cD c B a' w'→Kw a' w'):o.wpIn c.bB 9 c.P a w Kw Q:=by
 obtain ⟨D,E,hsw⟩:=hsim;cases hwp with
 |AL os cargs post hdr hY hgv ha hb hrest =>
  have hyr:=(hsw.fD _ _ _ _ hY).use (ρ:=[]) hsw false (fun h=>h.mono) ⟨(fun h=>by cases h),fun _=>hsw.pN.1.since (fun n=>by simp only[az,bD];split <;>simp)⟩ hgv ha hb (hs D E hsw);obtain ⟨l,rfl,fn,tmps,assign,body,h2,h3⟩:=hyr;refine ⟨m7,?_⟩;rw[nN hg,hrun l rfl,h2,Oper.uponIn_round];refine ⟨EJ c,apu (h3.mono fun e w' he =>?_)⟩;obtain ⟨v,r,os',D2,E2,rfl,hp,hs',hv,_⟩:=he;rw[hd];exact hK _ _ _ (hrest r os' hp) ⟨D2,E2,hs'.aT hdn hv⟩
end
section
variable {c:c6} {A:af} {o:Oper}
theorem wA{P:Program}{n:Nat}{b8:Array Oper}{g:aE}(h:qi P n b8 o=some g):dO P o=some g.op∧g.dst=o.dst∧(∀ k,o.dst=some k→k<n) ∧
  ((o.guard=none∧g.guard=none)∨∃ j b t,o.guard=some (j,b)∧(b8[j]?).bind (·.dst)=some t∧g.guard=some (t,b)):=by
 unfold qi at h;split at h
 ·cases h
 rename_i g' hg';split at h
 case isFalse=>cases h
 rename_i hd;have hdst:∀ k,o.dst=some k→k<n:=by
  intro k hk;rw[hk] at hd;simpa[EN] using hd
 split at h
 ·rename_i hgd;simp only[u8] at h;subst h;exact ⟨hg',rfl,hdst,.inl ⟨hgd,rfl⟩⟩
 ·rename_i j b hgd;split at h
  ·rename_i t ht;simp only[u8] at h;subst h;exact ⟨hg',rfl,hdst,.inr ⟨j,b,t,hgd,ht,rfl⟩⟩
  ·cases h
theorem LD{dr:Bool}{K:af→Prop}{op:ct}{dst:Option Nat}{rest:List aE}{a:Act}{w:World}{Kw:Act→World→Prop}{Q:Exit→Act→World→Prop}(hop:dO c.P o=some op)(hd:o.dst=dst)(hdn:∀ k,dst=some k→k<c.n)
  (hsim:cD c A a w) (hK:∀ B a' w',bn c.P c.Y dr K (aF rest B)→cD c B a' w'→Kw a' w') (h:bn c.P c.Y dr K (cX (bF A op) fun v=>aF rest (A.aT dst v))):o.wpIn c.bB 9 c.P a w Kw Q:=by
 cases hv:bF A op with
 |some v =>
  rw[hv] at h;exact ((ao1 hop hv).does (by rw[hd];exact hdn)).wp hop hsim (fun a' w' hs=>by rw[hd] at hs;exact hK _ a' w' h hs)
 |none=>rw[hv] at h;cases h
theorem akV{dr:Bool}{K:af→Prop}{dst:Option Nat}{rest:List aE}{a:Act}{w:World}{Kw:Act→World→Prop}{Q:Exit→Act→World→Prop}{z:I}(hop:dO c.P o=some (.alloc z))(hd:o.dst=dst)(hdn:∀ k,dst=some k→k<c.n)
  (hwp:bn c.P c.Y dr K (bA A dst (.alloc z) rest (aF rest))) (hsim:cD c A a w) (hK:∀ B a' w',bn c.P c.Y dr K (aF rest B)→cD c B a' w'→Kw a' w'):o.wpIn c.bB 9 c.P a w Kw Q:=by
 have hop0:=hop;simp only[bA] at hwp;split at hwp
 case h_2=>cases hwp
 rename_i d;split at hwp
 case h_2=>cases hwp
 rename_i hf;unfold dO at hop;split at hop <;>try (first | (simp at hop;done) | ((repeat' split at hop) <;>simp at hop;done))
 rename_i t ho;simp only[zz1,ct.alloc.injEq] at hop;obtain ⟨z',hz,rfl⟩:=hop;exact (abg ho hz hd (hdn d rfl) hf).wp hop0 hsim (fun a' w' hs=>hK _ a' w' hwp hs)
theorem akY{dr:Bool}{K:af→Prop}{dst:Option Nat}{rest:List aE}{a:Act}{w:World}{Kw:Act→World→Prop}{Q:Exit→Act→World→Prop}{x:aM}(hop:dO c.P o=some (.box x))(hd:o.dst=dst)(hdn:∀ k,dst=some k→k<c.n)
  (hwp:bn c.P c.Y dr K (bA A dst (.box x) rest (aF rest))) (hsim:cD c A a w) (hK:∀ B a' w',bn c.P c.Y dr K (aF rest B)→cD c B a' w'→Kw a' w'):o.wpIn c.bB 9 c.P a w Kw Q:=by
 have hop0:=hop;simp only[bA] at hwp;split at hwp
 case h_2=>cases hwp
 rename_i d;split at hwp
 case h_2=>cases hwp
 rename_i hf;split at hwp
 case isFalse=>cases hwp
 rename_i hv;unfold dO at hop;split at hop <;>try (first | (simp at hop;done) | ((repeat' split at hop) <;>simp at hop;done))
 rename_i t y ho;simp only[zz1,ct.box.injEq] at hop;obtain ⟨z',hz,rfl⟩:=hop;exact (abl ho hz hv hd (hdn d rfl) hf).wp hop0 hsim (fun a' w' hs=>hK _ a' w' hwp hs)
theorem ak9{dr:Bool}{K:af→Prop}{dst:Option Nat}{rest:List aE}{a:Act}{w:World}{Kw:Act→World→Prop}{Q:Exit→Act→World→Prop}{s:Option Nat}{x v:aM}(hop:dO c.P o=some (.bu s x v))(hd:o.dst=dst)(hdn:∀ k,dst=some k→k<c.n)
  (hwp:bn c.P c.Y dr K (bA A dst (.bu s x v) rest (aF rest))) (hsim:cD c A a w) (hK:∀ B a' w',bn c.P c.Y dr K (aF rest B)→cD c B a' w'→Kw a' w'):o.wpIn c.bB 9 c.P a w Kw Q:=by
 have hop0:=hop;simp only[bA] at hwp;split at hwp
 case h_2=>cases hwp
 split at hwp
 case h_2=>cases hwp
 rename_i n p hp;split at hwp
 case h_2=>cases hwp
 rename_i b hb;split at hwp
 case h_2=>cases hwp
 rename_i old hat;split at hwp
 case isFalse=>cases hwp
 rename_i hok;unfold dO at hop;split at hop <;>try (first | (simp at hop;done) | ((repeat' split at hop) <;>simp at hop;done))
 rename_i t y z ho;split at hop
 case h_2=>cases hop
 rename_i s' x' v' h1 h2 h3;split at hop
 case isFalse=>cases hop
 rename_i hk;simp only[u8,ct.bu.injEq] at hop;obtain ⟨rfl,rfl,rfl⟩:=hop;exact (abr ho h1 hk h2 h3 hp hb hat hok.1 hok.2.1 hok.2.2 hd).wp hop0 hsim (fun a' w' hs=>hK _ a' w' hwp hs)
theorem akZ{dr:Bool}{K:af→Prop}{dst:Option Nat}{rest:List aE}{a:Act}{w:World}{Kw:Act→World→Prop}{Q:Exit→Act→World→Prop}{f:FuncId}{args:List aM}(hop:dO c.P o=some (.call f args))(hd:o.dst=dst)(hdn:∀ k,dst=some k→k<c.n)
  (hwp:bn c.P c.Y dr K (bA A dst (.call f args) rest (aF rest))) (hsim:cD c A a w) (hK:∀ B a' w',bn c.P c.Y dr K (aF rest B)→cD c B a' w'→Kw a' w'):o.wpIn c.bB 9 c.P a w Kw Q:=by
 have hop0:=hop;simp only[bA] at hwp;unfold dO at hop;split at hop <;>try (first | (simp at hop;done) | ((repeat' split at hop) <;>simp at hop;done))
 rename_i f' xs ts ho;split at hop
 case isFalse=>simp at hop
 simp only[zz1,ct.call.injEq] at hop;obtain ⟨ys,hys,rfl,rfl⟩:=hop;refine D9 (vs:=xs.toList.map a.eval) hop0 rfl rfl (fun D E hs=>qc hs xs.toList ts.toList ys hys) hsim hwp hd hdn (fun hc =>?_) hK;have e:xs.map a.eval=(xs.toList.map a.eval).toArray:=by apply Array.ext';simp
 simp only[execOp,ho,resolve,Act.eval,Deferred.ofValue,Sem.run_bind,Sem.run_pure,Result.andThen_ok,invoke,Array.append_empty,Array.empty_append,Af hc];rw[←e]
theorem ala{dr:Bool}{K:af→Prop}{dst:Option Nat}{rest:List aE}{a:Act}{w:World}{Kw:Act→World→Prop}{Q:Exit→Act→World→Prop}{f:FuncId}{args:List aM}(hop:dO c.P o=some (.jR f args))(hd:o.dst=dst)(hdn:∀ k,dst=some k→k<c.n)
  (hwp:bn c.P c.Y dr K (bA A dst (.jR f args) rest (aF rest))) (hsim:cD c A a w) (hK:∀ B a' w',bn c.P c.Y dr K (aF rest B)→cD c B a' w'→Kw a' w'):o.wpIn c.bB 9 c.P a w Kw Q:=by
 have hop0:=hop;simp only[bA] at hwp;unfold dO at hop;split at hop <;>try (first | (simp at hop;done) | ((repeat' split at hop) <;>simp at hop;done))
 rename_i f' xs ts ho;split at hop
 case isTrue=>simp at hop
 simp only[zz1,ct.jR.injEq] at hop;obtain ⟨ys,hys,rfl,rfl⟩:=hop;obtain ⟨D,E,hs⟩:=hsim;cases hwp with
 |ext r hdr hx hw =>
  obtain ⟨v,g1,g2⟩:=hx c a w D E (xs.toList.map a.eval) rfl hs (qc hs xs.toList ts.toList ys hys);have e:xs.map a.eval=(xs.toList.map a.eval).toArray:=by apply Array.ext';simp
  have hrun:(execOp a.eval o).run c.P w=.ok (.value v) w:=by
   simp only[execOp,ho,resolve,Act.eval,Deferred.ofValue,Sem.run_bind,Sem.run_pure,Result.andThen_ok,invoke,Array.append_empty,Array.empty_append];rw[←e] at g1;exact g1
  refine ⟨m7,?_⟩;rw[nN hop0,hrun,Oper.uponIn_value];exact hK _ _ _ hw ⟨D,E,by rw[hd];exact hs.aT hdn g2⟩
theorem ak3{dr:Bool}{K:af→Prop}{dst:Option Nat}{rest:List aE}{a:Act}{w:World}{Kw:Act→World→Prop}{Q:Exit→Act→World→Prop} (hop:dO c.P o=some (.kz))(hd:o.dst=dst)(hdn:∀ k,dst=some k→k<c.n)
  (hwp:bn c.P c.Y dr K (bA A dst (.kz) rest (aF rest))) (hsim:cD c A a w) (hK:∀ B a' w',bn c.P c.Y dr K (aF rest B)→cD c B a' w'→Kw a' w'):o.wpIn c.bB 9 c.P a w Kw Q:=by
 have hop0:=hop;simp only[bA] at hwp;split at hwp
 case h_2=>cases hwp
 rename_i d;split at hwp
 case h_2=>cases hwp
 rename_i hf;unfold dO at hop;split at hop <;>try (first | (simp at hop;done) | ((repeat' split at hop) <;>simp at hop;done))
 rename_i t ho;exact (abo ho hd (hdn d rfl) hf).wp hop0 hsim (fun a' w' hs=>hK _ a' w' hwp hs)
theorem ak4{dr:Bool}{K:af→Prop}{dst:Option Nat}{rest:List aE}{a:Act}{w:World}{Kw:Act→World→Prop}{Q:Exit→Act→World→Prop}{e:TypeId}{bytes:Nat}{z:I}{n:aM}(hop:dO c.P o=some (.kX e bytes z n))(hd:o.dst=dst)(hdn:∀ k,dst=some k→k<c.n)
  (hwp:bn c.P c.Y dr K (bA A dst (.kX e bytes z n) rest (aF rest))) (hsim:cD c A a w) (hK:∀ B a' w',bn c.P c.Y dr K (aF rest B)→cD c B a' w'→Kw a' w'):o.wpIn c.bB 9 c.P a w Kw Q:=by
 have hop0:=hop;simp only[bA] at hwp;split at hwp
 case h_2=>cases hwp
 rename_i d;split at hwp
 case h_2=>cases hwp
 rename_i hf;split at hwp
 case h_2=>cases hwp
 rename_i k m hn;split at hwp
 case isFalse=>cases hwp
 rename_i hc;unfold dO at hop;split at hop <;>try (first | (simp at hop;done) | ((repeat' split at hop) <;>simp at hop;done))
 rename_i t l l' ho;split at hop
 case h_2=>cases hop
 rename_i e' n' hu hl;split at hop
 case h_2=>cases hop
 rename_i z' hz;split at hop
 case isFalse=>cases hop
 rename_i hc2;simp only[u8,ct.kX.injEq] at hop;obtain ⟨rfl,rfl,rfl,rfl⟩:=hop;obtain ⟨j,rfl⟩:=Int.eq_ofNat_of_zero_le hc.1;simp only[Int.toNat_natCast] at hc hwp;exact (abp ho (apA hc2.1) hu hl hn hz hc2.2.1 hc2.2.2 hc.2.1 hc.2.2 hd (hdn d rfl) hf).wp hop0 hsim (fun a' w' hs=>hK _ a' w' hwp hs)
theorem ak5{dr:Bool}{K:af→Prop}{dst:Option Nat}{rest:List aE}{a:Act}{w:World}{Kw:Act→World→Prop}{Q:Exit→Act→World→Prop}{ty:cW}{m k v:aM}(hop:dO c.P o=some (.ir ty m k v))(hd:o.dst=dst)(hdn:∀ k,dst=some k→k<c.n)
  (hwp:bn c.P c.Y dr K (bA A dst (.ir ty m k v) rest (aF rest))) (hsim:cD c A a w) (hK:∀ B a' w',bn c.P c.Y dr K (aF rest B)→cD c B a' w'→Kw a' w'):o.wpIn c.bB 9 c.P a w Kw Q:=by
 have hop0:=hop;simp only[bA] at hwp;split at hwp
 case h_2=>cases hwp
 split at hwp
 case h_2=>cases hwp
 rename_i n hm;split at hwp
 case h_2=>cases hwp
 rename_i ks vs hn;split at hwp
 case h_2=>cases hwp
 rename_i ks' vs' hl;unfold dO at hop;split at hop <;>try (first | (simp at hop;done) | ((repeat' split at hop) <;>simp at hop;done))
 all_goals
  rename_i t mo ko vo ho;split at hop
  case h_2=>cases hop
  rename_i kt et m' k' hu h1 h2;split at hop
  case h_2=>cases hop
  rename_i ty' v' hk h3;simp only[u8,ct.ir.injEq] at hop;obtain ⟨rfl,rfl,rfl,rfl⟩:=hop
 ·exact (EM (.inl ho) hu hk h1 h2 h3 hm hn hl hd).wp hop0 hsim (fun a' w' hs=>hK _ a' w' hwp hs)
 ·exact (EM (.inr ho) hu hk h1 h2 h3 hm hn hl hd).wp hop0 hsim (fun a' w' hs=>hK _ a' w' hwp hs)
theorem ak8{dr:Bool}{K:af→Prop}{dst:Option Nat}{rest:List aE}{a:Act}{w:World}{Kw:Act→World→Prop}{Q:Exit→Act→World→Prop}{x:aM}(hop:dO c.P o=some (.ln x))(hd:o.dst=dst)(hdn:∀ k,dst=some k→k<c.n)
  (hwp:bn c.P c.Y dr K (bA A dst (.ln x) rest (aF rest))) (hsim:cD c A a w) (hK:∀ B a' w',bn c.P c.Y dr K (aF rest B)→cD c B a' w'→Kw a' w'):o.wpIn c.bB 9 c.P a w Kw Q:=by
 have hop0:=hop;simp only[bA] at hwp;split at hwp
 case h_2=>cases hwp
 rename_i d;split at hwp
 case h_2=>cases hwp
 rename_i hf;split at hwp
 case h_2=>cases hwp
 rename_i ks vs hx;unfold dO at hop;split at hop <;>try (first | (simp at hop;done) | ((repeat' split at hop) <;>simp at hop;done))
 rename_i t y ho;split at hop
 case h_2=>cases hop
 rename_i kt et hu;simp only[zz1,ct.ln.injEq] at hop;obtain ⟨z,hz,rfl⟩:=hop;exact (abq ho hu hz hx hd (hdn d rfl) hf).wp hop0 hsim (fun a' w' hs=>hK _ a' w' hwp hs)
theorem ak7{dr:Bool}{K:af→Prop}{dst:Option Nat}{rest:List aE}{a:Act}{w:World}{Kw:Act→World→Prop}{Q:Exit→Act→World→Prop}{x:aM}(hop:dO c.P o=some (.j7 x))(hd:o.dst=dst)(hdn:∀ k,dst=some k→k<c.n)
  (hwp:bn c.P c.Y dr K (bA A dst (.j7 x) rest (aF rest))) (hsim:cD c A a w) (hK:∀ B a' w',bn c.P c.Y dr K (aF rest B)→cD c B a' w'→Kw a' w'):o.wpIn c.bB 9 c.P a w Kw Q:=by
 have hop0:=hop;simp only[bA] at hwp;split at hwp
 case h_2=>cases hwp
 rename_i n hx;split at hwp
 case h_2=>cases hwp
 rename_i ks vs left cur hn;unfold dO at hop;split at hop <;>try (first | (simp at hop;done) | ((repeat' split at hop) <;>simp at hop;done))
 rename_i y ho;simp only[zz1,ct.j7.injEq] at hop;obtain ⟨z,hz,rfl⟩:=hop;obtain ⟨D,E,hs⟩:=hsim;obtain ⟨w',v,hrun,hor⟩:=ane ho hz hx hn (by rw[hd];exact hdn) hs;refine ⟨m7,?_⟩;rw[nN hop0,hrun,Oper.uponIn_value];rw[hd] at hor;split at hwp
 ·rename_i hl;rcases hor with ⟨_,hor⟩ | ⟨i,k,x,hi,_⟩
  ·exact hK _ _ _ hwp (by rw[hd];exact hor)
  ·rw[hl] at hi;cases hi
 ·rename_i hl;rcases hor with ⟨h,_⟩ | ⟨i,k,x,hi,hk,hx,hor⟩
  ·exact absurd h hl
  ·cases hwp with
   |any hdr hall =>
    have:=hall i hi;simp only[hk,hx] at this;exact hK _ _ _ this (by rw[hd];exact hor)
theorem ak0{dr:Bool}{K:af→Prop}{dst:Option Nat}{rest:List aE}{a:Act}{w:World}{Kw:Act→World→Prop}{Q:Exit→Act→World→Prop}{x:aM}{args:List aM}(hop:dO c.P o=some (.eM x args))(hd:o.dst=dst)(hdn:∀ k,dst=some k→k<c.n)
  (hwp:bn c.P c.Y dr K (bA A dst (.eM x args) rest (aF rest))) (hsim:cD c A a w) (hK:∀ B a' w',bn c.P c.Y dr K (aF rest B)→cD c B a' w'→Kw a' w'):o.wpIn c.bB 9 c.P a w Kw Q:=by
 have hop0:=hop;simp only[bA] at hwp;unfold dO at hop;split at hop <;>try (first | (simp at hop;done) | ((repeat' split at hop) <;>simp at hop;done))
 rename_i y xs ts _ ho;split at hop
 case h_2=>cases hop
 rename_i y' ys h1 h2;simp only[u8,ct.eM.injEq] at hop;obtain ⟨rfl,rfl⟩:=hop;obtain ⟨D,E,hs⟩:=hsim;have hv:=cv hs h1;split at hwp
 ·rename_i f caps hx;rw[hx] at hv;obtain ⟨cs,q1,q2⟩:=hv;simp only[ai] at q2;obtain ⟨vs,q3,q4⟩:=q2;have hval:a.eval y=.func (.func f) #[] vs.toArray:=by simpa[bN,I.isAgg,q3] using q1.symm
  refine D9 (vs:=xs.toList.map a.eval++vs) hop0 rfl rfl (fun D' E' hs'=>(qc hs' xs.toList ts.toList ys h2).append ?_) ⟨D,E,hs⟩ hwp hd hdn (fun hc =>?_) hK
  ·have hv':=cv hs' h1;rw[hx] at hv';obtain ⟨cs',q1',q2'⟩:=hv';simp only[ai] at q2';obtain ⟨vs',q3',q4'⟩:=q2';have hval':a.eval y=.func (.func f) #[] vs'.toArray:=by simpa[bN,I.isAgg,q3'] using q1'.symm
   rw[hval] at hval';simp only[Value.func.injEq,true_and,Array.mk.injEq] at hval';subst hval';exact Aj q4'
  ·have e:xs.map a.eval=(xs.toList.map a.eval).toArray:=by apply Array.ext';simp
   simp only[execOp,ho,resolve,hval,Deferred.ofValue,Sem.run_bind,Sem.run_pure,Result.andThen_ok,invoke,Array.empty_append,Af hc];rw[e];simp
 ·rename_i u hx;rw[hx] at hv;obtain ⟨cs,q1,q2⟩:=hv;simp only[ai] at q2;have hval:a.eval y=u:=by simpa[bN,I.isAgg,q2.1] using q1.symm
  refine VV (vs:=xs.toList.map a.eval) hop0 (fun D' E' hs'=>qc hs' xs.toList ts.toList ys h2) ⟨D,E,hs⟩ hwp hd hdn (fun l hl =>?_) hK;subst hl;have e:xs.map a.eval=(xs.toList.map a.eval).toArray:=by apply Array.ext';simp
  simp only[execOp,ho,resolve,hval,Deferred.ofValue,Sem.run_bind,Sem.run_pure,Result.andThen_ok,invoke,Array.empty_append];rw[e]
 ·cases hwp
theorem ak6{dr:Bool}{K:af→Prop}{dst:Option Nat}{rest:List aE}{a:Act}{w:World}{Kw:Act→World→Prop}{Q:Exit→Act→World→Prop}{neg:Bool}{x:aM}(hop:dO c.P o=some (.nilS neg x))(hd:o.dst=dst)(hdn:∀ k,dst=some k→k<c.n)
  (hwp:bn c.P c.Y dr K (bA A dst (.nilS neg x) rest (aF rest))) (hsim:cD c A a w) (hK:∀ B a' w',bn c.P c.Y dr K (aF rest B)→cD c B a' w'→Kw a' w'):o.wpIn c.bB 9 c.P a w Kw Q:=by
 have hop0:=hop;simp only[bA] at hwp;split at hwp
 case isFalse=>exact LD hop hd hdn hsim hK hwp
 rename_i hu;cases hwp with
 |any hdr hall =>
 unfold dO at hop;split at hop <;>try (first | (simp at hop;done) | ((repeat' split at hop) <;>simp at hop;done))
 rename_i bop t y z yt ho;split at hop
 ·simp at hop
 ·simp at hop
 ·rename_i e y' z' hut h1 h2;split at hop
  ·rename_i s;split at hop
   ·rename_i hopp;simp only[u8,ct.nilS.injEq] at hop;obtain ⟨rfl,rfl⟩:=hop;have ho':o.op=.binOp (if (bop==.neq)=true then .neq else .eql) t y z yt:=by
     rcases hopp with rfl | rfl <;>simpa using ho
    obtain ⟨D,E,hs⟩:=hsim;have hund:∃ sz,ae A y'=.slice sz []∨ae A y'=.c0 sz:=by
     generalize ae A y'=q at hu;cases q <;>simp only[kK,zz6,List.isEmpty_iff] at hu
     ·rename_i sz;exact ⟨sz,.inr rfl⟩
     ·rename_i sz es;subst hu;exact ⟨sz,.inl rfl⟩
    obtain ⟨b,hrun⟩:=anf ho' hut h1 h2 hund hs;refine ⟨m7,?_⟩;rw[nN hop0,hrun,Oper.uponIn_value];have hb:=hall (if b then 0 else 1) (by cases b <;>simp);refine hK _ _ _ hb ⟨D,E,?_⟩;rw[hd];have e:((if b=true then (0:Nat) else 1)==0)=b:=by cases b <;>rfl
    rw[e];exact hs.aT hdn (oD b)
   ·cases hop
  ·cases hop
 ·split at hop <;>simp at hop
 ·split at hop <;>simp at hop
 ·cases hop
theorem akW{dr:Bool}{K:af→Prop}{dst:Option Nat}{rest:List aE}{a:Act}{w:World}{Kw:Act→World→Prop}{Q:Exit→Act→World→Prop}{e:TypeId}{esz bytes:Nat}{z:I}{s x:aM}(hop:dO c.P o=some (.dH e esz bytes z s x))(hd:o.dst=dst)(hdn:∀ k,dst=some k→k<c.n)
  (hwp:bn c.P c.Y dr K (bA A dst (.dH e esz bytes z s x) rest (aF rest))) (hsim:cD c A a w) (hK:∀ B a' w',bn c.P c.Y dr K (aF rest B)→cD c B a' w'→Kw a' w'):o.wpIn c.bB 9 c.P a w Kw Q:=by
 have hop0:=hop;simp only[bA] at hwp;unfold dO at hop;split at hop <;>try (first | (simp at hop;done) | ((repeat' split at hop) <;>simp at hop;done))
 rename_i args tys ho;split at hop
 case h_2=>cases hop
 rename_i y q t t' ha ht;split at hop
 case h_2=>cases hop
 rename_i e' s' x' k1 k2 k3;split at hop
 case isFalse=>split at hop <;>simp at hop
 rename_i hk;simp only[zz1,ct.dH.injEq] at hop;obtain ⟨zz,hz1,rfl,rfl,rfl,rfl,rfl,rfl⟩:=hop;obtain ⟨rfl,hk2,hk3⟩:=hk;have ha':args = #[y,q]:=by apply Array.ext';simpa using ha
 have ht':tys = #[t,t]:=by apply Array.ext';simpa using ht
 subst ha' ht';rw[hz1] at hk3;simp only[zy6,u8] at hk3;have hinfo:(c.P.info? e').isSome=true:=by
  obtain ⟨ti,_,hti,_⟩:=mY hz1;rw[hti];rfl
 have grow:∀ es ys,eB A (c.P.cellsOf e') (ae A s')=some es→eB A (c.P.cellsOf e') (ae A x')=some ys→ys≠[]→(∀ a w D E,a6 c A a w D E→∀ ad l cp,a.eval y=.slice ad l cp→cp<l+ys.length) →
   bn c.P c.Y dr K (gJ A dst (c.P.cellsOf e') (c.P.bytesOf e') zz es ys (aF rest))→o.wpIn c.bB 9 c.P a w Kw Q:=fun es ys hse hsx hne hfull h=>by
  simp only[gJ] at h;split at h
  case h_2=>cases h
  rename_i d;split at h
  case h_2=>cases h
  rename_i hf;split at h
  case isFalse=>cases h
  rename_i hb;cases h with
  |any hdr hall =>
   obtain ⟨D,E,hs⟩:=hsim;obtain ⟨v,w',m,g1,g2,g3⟩:=S7 ho k1 k2 k3 hz1 hk3 hse hsx hb.1 hd (hdn d rfl) hf hne hs (hfull a w D E hs) hb.2;refine ⟨m7,?_⟩;rw[nN hop0,g1,Oper.uponIn_value,hd];rw[hd] at g3;exact hK _ _ _ (hall m g2) g3
 split at hwp
 ·rename_i n l hs';split at hwp
  case h_2=>cases hwp
  rename_i sz ys hx';split at hwp
  case h_3=>cases hwp
  case h_2 =>
   rename_i T xs hn;split at hwp
   case isFalse=>cases hwp
   rename_i hok;obtain ⟨h1,h2,h3,h4,h5,h6,h7,h8⟩:=hok;subst h3 h4;have hl5:ys.length=(r5 ys).length:=(congrArg List.length h5).trans (by simp);rw[hl5] at h7 h8 hwp;rw[h5] at hx';have hd':=abi (o:=o) ho k1 k2 k3 hz1 h2 hs' hn h1 hx' (fun e=>h6 (by rw[h5,e];rfl)) h7 h8 (by rw[hd];exact hdn);exact hd'.wp hop0 hsim (fun a' w' hs=>by rw[hd] at hs;exact hK _ a' w' hwp hs)
  rename_i T sz' es hn;split at hwp
  case isFalse=>cases hwp
  rename_i hok;obtain ⟨h1,h2,h3,h4,h5,h6,h7⟩:=hok;subst h2 h3 h4;have hd':=abh (o:=o) ho k1 k2 k3 hz1 hk3 hk2 hs' hn h1 hx' rfl h5 h6 h7 (by rw[hd];exact hdn);exact hd'.wp hop0 hsim (fun a' w' hs=>by rw[hd] at hs;exact hK _ a' w' hwp hs)
 ·simp only[fu] at hwp;split at hwp
  case h_2=>cases hwp
  rename_i es ys hse hsx;split at hwp
  ·rename_i hne;subst hne;exact ((abk ho k1 hinfo k2 k3 hse hsx).does (by rw[hd];exact hdn)).wp hop0 hsim (fun a' w' hs=>by rw[hd] at hs;exact hK _ a' w' hwp hs)
  ·rename_i hne;have hpos:0<ys.length:=List.length_pos_iff.2 hne;split at hwp
   ·rename_i z0 hsv;refine grow es ys hse hsx hne (fun a w D E hs ad l cp hv =>?_) hwp;have h0:=cv hs k2;rw[hsv] at h0;obtain ⟨cs,q1,q2⟩:=h0;simp only[ai] at q2;have:a.eval y=.slice none 0 0:=by simpa[bN,I.isAgg,q2] using q1.symm
    rw[this] at hv;simp only[Value.slice.injEq] at hv;omega
   ·rename_i z0 hsv;refine grow es ys hse hsx hne (fun a w D E hs ad l cp hv =>?_) hwp;have h0:=cv hs k2;rw[hsv] at h0;obtain ⟨cs,q1,q2⟩:=h0;simp only[ai] at q2;obtain ⟨ad',q2⟩:=q2;have:a.eval y=.slice ad' 0 0:=by simpa[bN,I.isAgg,q2] using q1.symm
    rw[this] at hv;simp only[Value.slice.injEq] at hv;omega
   ·rename_i n p sz lo l hsv;split at hwp
    case h_2=>cases hwp
    rename_i b hn;split at hwp
    case h_2=>cases hwp
    rename_i fs hat;split at hwp
    ·rename_i hroom;split at hwp
     case isFalse=>cases hwp
     rename_i hok;obtain ⟨rfl,hsh⟩:=hok;exact (abj ho k1 hinfo k2 k3 hsv hn hat hsx hroom hsh (by rw[hd];exact hdn)).wp hop0 hsim (fun a' w' hs=>by rw[hd] at hs;exact hK _ a' w' hwp hs)
    ·rename_i hroom;refine grow es ys hse hsx hne (fun a w D E hs ad l' cp hv =>?_) hwp;have h0:=cv hs k2;rw[hsv] at h0;obtain ⟨_,bb,cs,T,off,c1,c2,c3,_,_,_,_,_,_,_,_,_,_,r1,dK,u7⟩:=hs.view (fs:=fs) h0 (by simp only[cH,hn,hat]);rw[u7] at hv;simp only[Value.slice.injEq] at hv;omega
   ·cases hwp
theorem akX{dr:Bool}{K:af→Prop}{dst:Option Nat}{rest:List aE}{a:Act}{w:World}{Kw:Act→World→Prop}{Q:Exit→Act→World→Prop}{e:TypeId}{esz bytes:Nat}{z:I}{s n:aM}(hop:dO c.P o=some (.kO e esz bytes z s n))(hd:o.dst=dst)(hdn:∀ k,dst=some k→k<c.n)
  (hwp:bn c.P c.Y dr K (bA A dst (.kO e esz bytes z s n) rest (aF rest))) (hsim:cD c A a w) (hK:∀ B a' w',bn c.P c.Y dr K (aF rest B)→cD c B a' w'→Kw a' w'):o.wpIn c.bB 9 c.P a w Kw Q:=by
 have hop0:=hop;simp only[bA] at hwp;unfold dO at hop;split at hop <;>try (first | (simp at hop;done) | ((repeat' split at hop) <;>simp at hop;done))
 rename_i args tys ho;split at hop
 case h_2=>cases hop
 rename_i y q t t' ha ht;split at hop
 case h_2=>cases hop
 rename_i e' s' x' k1 k2 k3;split at hop
 case isTrue=>simp at hop
 split at hop
 case isFalse=>cases hop
 rename_i hk;simp only[zz1,ct.kO.injEq] at hop;obtain ⟨zz,hz1,rfl,rfl,rfl,rfl,rfl,rfl⟩:=hop;obtain ⟨hint,hk2,hk3⟩:=hk;have ha':args = #[y,q]:=by apply Array.ext';simpa using ha
 have ht':tys = #[t,t']:=by apply Array.ext';simpa using ht
 subst ha' ht';rw[hz1] at hk3;simp only[zy6,u8] at hk3;obtain ⟨kt,hkt⟩:∃ kt,c.P.underlying t'=some (.int kt):=by
  cases hu:c.P.underlying t' with
  |none=>rw[hu] at hint;cases hint
  |some dsc=>cases dsc <;>rw[hu] at hint <;>first | exact ⟨_,rfl⟩ | cases hint
 split at hwp
 case h_2=>cases hwp
 rename_i kx bh hx';simp only[rI] at hwp;split at hwp
 case h_2=>cases hwp
 rename_i es hse;split at hwp
 case h_2=>cases hwp
 rename_i nn p sz lo l hsv;split at hwp
 case h_2=>cases hwp
 rename_i bb hn;split at hwp
 case h_2=>cases hwp
 rename_i fs hat;split at hwp
 case isFalse=>cases hwp
 rename_i hroom;simp only[gJ] at hwp;split at hwp
 case h_2=>cases hwp
 rename_i d;split at hwp
 case h_2=>cases hwp
 rename_i hf;split at hwp
 case isFalse=>cases hwp
 rename_i hb;rw[zv4] at hb;cases hwp with
 |any hdr hall =>
  obtain ⟨D,E,hs⟩:=hsim;obtain ⟨v,w',m,g1,g2,g3⟩:=Tc ho k1 k2 k3 hkt hx' rfl hroom.1 hk2 hz1 hk3 hse hb.1 hd (hdn d rfl) hf hs (fun ad l' cp hv=>by
   have h0:=cv hs k2;rw[hsv] at h0;have hsv':=hse;obtain ⟨_,b1,cs,T,off,c1,c2,c3,_,_,_,_,_,_,_,_,_,_,r1,dK,u7⟩:=hs.view (fs:=fs) h0 (by simp only[cH,hn,hat]);rw[u7] at hv;simp only[Value.slice.injEq] at hv;have hel:es.length=l:=by
    rw[hsv] at hse;simp only[eB,cH,hn,hat] at hse;split at hse
    ·simp only[u8] at hse;rw[←hse,zy4,zy8];omega
    ·cases hse
   omega) hb.2
  refine ⟨m7,?_⟩;rw[nN hop0,g1,Oper.uponIn_value,hd];rw[hd] at g3;have:=hall m (by rw[zv4];exact g2);rw[zv4] at this;exact hK _ _ _ this g3
theorem ak1{dr:Bool}{K:af→Prop}{dst:Option Nat}{rest:List aE}{a:Act}{w:World}{Kw:Act→World→Prop}{Q:Exit→Act→World→Prop}{esz:Nat}{z:I}{x:aM}(hop:dO c.P o=some (.jb esz z x))(hd:o.dst=dst)(hdn:∀ k,dst=some k→k<c.n)
  (hwp:bn c.P c.Y dr K (bA A dst (.jb esz z x) rest (aF rest))) (hsim:cD c A a w) (hK:∀ B a' w',bn c.P c.Y dr K (aF rest B)→cD c B a' w'→Kw a' w'):o.wpIn c.bB 9 c.P a w Kw Q:=by
 have hop0:=hop;simp only[bA] at hwp;split at hwp
 case h_2=>cases hwp
 unfold dO at hop;split at hop <;>try (first | (simp at hop;done) | ((repeat' split at hop) <;>simp at hop;done))
 rename_i args tys ho;split at hop
 case h_2=>cases hop
 rename_i y t ha ht;split at hop
 case h_2=>cases hop
 rename_i e' x' k1 k2;simp only[zz1,ct.jb.injEq] at hop;obtain ⟨zz,hz1,rfl,rfl,rfl⟩:=hop;have ha':args = #[y]:=by apply Array.ext';simpa using ha
 have ht':tys = #[t]:=by apply Array.ext';simpa using ht
 subst ha' ht';have nothing:bn c.P c.Y dr K (aF rest A)→(∀ a w D E,a6 c A a w D E→∃ ad cp,a.eval y=.slice ad 0 cp)→o.wpIn c.bB 9 c.P a w Kw Q:=fun h hv=>by
  obtain ⟨D,E,hs⟩:=hsim;obtain ⟨ad,cp,hv⟩:=hv a w D E hs;refine ⟨m7,?_⟩;have hrun:(execOp a.eval o).run c.P w=.ok (.value (.tuple #[])) w:=by
   cases ad <;>simp[execOp,ho,resolve,invoke,builtin,Builtin.clear_,run_underlying k1,hv]
  rw[nN hop0,hrun,Oper.uponIn_value,hd];exact hK _ _ _ h ⟨D,E,hs⟩
 unfold nY at hwp;split at hwp
 ·rename_i n p sz lo l hv;split at hwp
  case h_2=>cases hwp
  rename_i b hn;split at hwp
  case h_2=>cases hwp
  rename_i fs hat;split at hwp
  case isFalse=>cases hwp
  rename_i hok;obtain ⟨rfl,hsh⟩:=hok;exact (abm ho k1 k2 hz1 hv hn hat hsh hd).wp hop0 hsim (fun a' w' hs=>hK _ a' w' hwp hs)
 ·rename_i z0 hv;refine nothing hwp fun a w D E hs =>?_;have h0:=cv hs k2;rw[hv] at h0;obtain ⟨cs,q1,q2⟩:=h0;simp only[ai] at q2;exact ⟨none,0,by simpa[bN,I.isAgg,q2] using q1.symm⟩
 ·rename_i z0 hv;refine nothing hwp fun a w D E hs =>?_;have h0:=cv hs k2;rw[hv] at h0;obtain ⟨cs,q1,q2⟩:=h0;simp only[ai] at q2;obtain ⟨ad,q2⟩:=q2;exact ⟨ad,0,by simpa[bN,I.isAgg,q2] using q1.symm⟩
 ·cases hwp
theorem ak2{dr:Bool}{K:af→Prop}{dst:Option Nat}{rest:List aE}{a:Act}{w:World}{Kw:Act→World→Prop}{Q:Exit→Act→World→Prop}{esz:Nat}{x y:aM}(hop:dO c.P o=some (.jc esz x y))(hd:o.dst=dst)(hdn:∀ k,dst=some k→k<c.n)
  (hwp:bn c.P c.Y dr K (bA A dst (.jc esz x y) rest (aF rest))) (hsim:cD c A a w) (hK:∀ B a' w',bn c.P c.Y dr K (aF rest B)→cD c B a' w'→Kw a' w'):o.wpIn c.bB 9 c.P a w Kw Q:=by
 have hop0:=hop;simp only[bA] at hwp;unfold dO at hop;split at hop <;>try (first | (simp at hop;done) | ((repeat' split at hop) <;>simp at hop;done))
 rename_i args tys ho;split at hop
 case h_2=>cases hop
 rename_i u v t t' ha ht;split at hop
 case h_2=>cases hop
 rename_i e' x' y' k1 k2 k3;split at hop
 case isFalse=>cases hop
 rename_i hk;simp only[u8,ct.jc.injEq] at hop;obtain ⟨rfl,rfl,rfl⟩:=hop;obtain ⟨rfl,hinfo⟩:=hk;have ha':args = #[u,v]:=by apply Array.ext';simpa using ha
 have ht':tys = #[t,t]:=by apply Array.ext';simpa using ht
 subst ha' ht';unfold o7 at hwp;split at hwp
 ·rename_i n p sz lo l ys hv hsx;split at hwp
  case h_2=>cases hwp
  rename_i b hn;split at hwp
  case h_2=>cases hwp
  rename_i fs hat;split at hwp
  case isFalse=>cases hwp
  rename_i hok;obtain ⟨rfl,hsh⟩:=hok;exact (abn ho k1 hinfo k2 k3 hv hn hat hsx rfl hsh (by rw[hd];exact hdn)).wp hop0 hsim (fun a' w' hs=>by rw[hd] at hs;exact hK _ a' w' hwp hs)
 ·cases hwp
theorem yk{dr:Bool}{K:af→Prop}{op:ct}{dst:Option Nat}{rest:List aE}{a:Act}{w:World}{Kw:Act→World→Prop}{Q:Exit→Act→World→Prop}(hop:dO c.P o=some op)(hd:o.dst=dst)(hdn:∀ k,dst=some k→k<c.n)
  (hwp:bn c.P c.Y dr K (bA A dst op rest (aF rest))) (hsim:cD c A a w) (hK:∀ B a' w',bn c.P c.Y dr K (aF rest B)→cD c B a' w'→Kw a' w'):o.wpIn c.bB 9 c.P a w Kw Q:=by
 cases op with
 |alloc z=>exact akV hop hd hdn hwp hsim hK
 |box x=>exact akY hop hd hdn hwp hsim hK
 |bu s x v=>exact ak9 hop hd hdn hwp hsim hK
 |call f args=>exact akZ hop hd hdn hwp hsim hK
 |jR f args=>exact ala hop hd hdn hwp hsim hK
 |kz=>exact ak3 hop hd hdn hwp hsim hK
 |kX e bytes z n=>exact ak4 hop hd hdn hwp hsim hK
 |ir ty m k v=>exact ak5 hop hd hdn hwp hsim hK
 |ln x=>exact ak8 hop hd hdn hwp hsim hK
 |j7 x=>exact ak7 hop hd hdn hwp hsim hK
 |eM x args=>exact ak0 hop hd hdn hwp hsim hK
 |nilS neg x=>exact ak6 hop hd hdn hwp hsim hK
 |dH e esz bytes z s x=>exact akW hop hd hdn hwp hsim hK
 |kO e esz bytes z s n=>exact akX hop hd hdn hwp hsim hK
 |jb esz z x=>exact ak1 hop hd hdn hwp hsim hK
 |jc esz x y=>exact ak2 hop hd hdn hwp hsim hK
 |_=>exact LD hop hd hdn hsim hK (by simpa only[bA] using hwp)
theorem yu{j t:Nat}{b8:Array Oper}{a:Act}{w:World}{b b':Bool}(hs:cD c A a w)(hg:o.guard=some (j,b))(ht:(b8[j]?).bind (·.dst)=some t)(hv:A.t t=.bool b'):Region.wanted o (yielded b8 a.tmps)=(b'==b):=by
 obtain ⟨D,E,hs⟩:=hs;have h:=hs.eH t;rw[hv] at h;have h:=mQ h;have hy:yielded b8 a.tmps j=some b':=by
  unfold yielded;rw[ht];simp only[Option.bind_some];simp only[Array.getD_eq_getD_getElem?] at h;cases hh:a.tmps[t]? with
  |none=>simp[hh,undef] at h
  |some v=>simp only[hh,Option.getD_some] at h;subst h;rfl
 unfold Region.wanted;rw[hg];simp only[hy];cases b <;>cases b' <;>rfl
theorem yw{j t:Nat}{b8:Array Oper}{a:Act}{w:World}{b:Bool}(hs:cD c A a w)(hg:o.guard=some (j,b))(ht:(b8[j]?).bind (·.dst)=some t)(hv:A.t t=.undef):Region.wanted o (yielded b8 a.tmps)=false:=by
 obtain ⟨D,E,hs⟩:=hs;have h:=hs.eH t;rw[hv] at h;simp only[a7] at h;have hy:yielded b8 a.tmps j=none:=by
  unfold yielded;rw[ht];simp only[Option.bind_some];simp only[Array.getD_eq_getD_getElem?] at h;cases hh:a.tmps[t]? with
  |none=>rfl
  |some v=>simp only[hh,Option.getD_some] at h;subst h;rfl
 unfold Region.wanted;rw[hg];simp only[hy];rfl
theorem cD.qV{a:Act}{w:World}(h:cD c A a w){d:Option Nat}(hd:∀ k,d=some k→k<c.n):cD c (A.aT d .undef) (a.put d undef) w:=by
 obtain ⟨D,E,h⟩:=h;exact ⟨D,E,h.aT hd (by simp[a7])⟩
theorem ue{dr:Bool}{K:af→Prop}{b8:Array Oper}{Q:Exit→Act→World→Prop}(hQ:∀ B a w,K B→cD c B a w→Q .normal a w):∀ (l:List Oper) (gs:List aE) (A:af) (a:Act) (w:World),lA c.P c.n b8 l=some gs→bn c.P c.Y dr K (aF gs A) →
  cD c A a w→wpListIn c.bB 9 c.P b8 Q l a w
 | [],gs,A,a,w,hc,hwp,hs=>by
  simp only[lA,u8] at hc;subst hc;simp only[aF] at hwp;cases hwp with
  |done hk=>exact hQ A a w hk hs
 |o::l,gs,A,a,w,hc,hwp,hs=>by
  simp only[lA] at hc;split at hc
  case h_2=>cases hc
  rename_i g gs' hg hgs;simp only[u8] at hc;subst hc;obtain ⟨h1,h2,h3,h4⟩:=wA hg;have step:bn c.P c.Y dr K (bA A g.dst g.op gs' (aF gs'))→o.wpIn c.bB 9 c.P a w (wpListIn c.bB 9 c.P b8 Q l) Q:=fun h =>
   yk h1 h2.symm (by rw[h2];exact h3) h hs (fun B a' w' hw hs'=>ue hQ l gs' B a' w' hgs hw hs')
  simp only[wpListIn];simp only[aF] at hwp;rcases h4 with ⟨h5,h6⟩ | ⟨j,b,t,h5,h6,h7⟩
  ·rw[h6] at hwp;have hw:Region.wanted o (yielded b8 a.tmps)=true:=by simp[Region.wanted,h5]
   rw[hw,if_pos rfl];exact step hwp
  ·rw[h7] at hwp;simp only at hwp;split at hwp
   ·rename_i b' hb';rw[yu hs h5 h6 hb'];split at hwp
    ·rename_i hbb;subst hbb;simp only[BEq.rfl,if_true];exact step hwp
    ·rename_i hbb;have:(b'==b)=false:=by simpa using hbb
     rw[this];simp only[zz6,if_false];exact ⟨fun f _=>pd c f,ue hQ l gs' _ _ w hgs hwp (by rw[h2];exact hs.qV h3)⟩
   ·rename_i hb';rw[yw hs h5 h6 hb'];simp only[zz6,if_false];exact ⟨fun f _=>pd c f,ue hQ l gs' _ _ w hgs hwp (by rw[h2];exact hs.qV h3)⟩
   ·cases hwp
end
def aM.sl:aM→List Nat
 | .t n=>[n]
 | .c _=>[]
def uR:Option aM→List Nat
 |some x=>x.sl
 |none=>[]
def kH(l:List aM):List Nat:=l.flatMap aM.sl
def ct.dg:ct→List Nat
 | .mv x=>x.sl
 | .pick c a b=>c.sl++(a.sl++b.sl)
 | .bin _ x y=>x.sl++y.sl
 | .eqv _ _ x y=>x.sl++y.sl
 | .nilS _ x=>x.sl
 | .conv _ x=>x.sl
 | .un _ x=>x.sl
 | .ld _ x=>x.sl
 | .fa _ _ x=>x.sl
 | .fl _ _ _ x=>x.sl
 | .ia _ _ x i=>x.sl++i.sl
 | .is _ x i=>x.sl++i.sl
 | .ix _ _ _ x i=>x.sl++i.sl
 | .len x=>x.sl
 | .lenT x=>x.sl
 | .va _ _ x=>x.sl
 | .sl _ x lo hi mx=>x.sl++(uR lo++(uR hi++uR mx))
 | .bld _ ps=>kH (ps.map (·.2))
 | .bs _ _ ps=>kH ps
 | .ext x _=>x.sl
 | .mk _ caps=>kH caps
 | .alloc _=>[]
 | .box x=>x.sl
 | .bu _ x v=>x.sl++v.sl
 | .dH _ _ _ _ s x=>s.sl++x.sl
 | .kO _ _ _ _ s x=>s.sl++x.sl
 | .cap x=>x.sl
 | .bs0 _=>[]
 | .jb _ _ x=>x.sl
 | .jc _ x y=>x.sl++y.sl
 | .call _ args=>kH args
 | .eM x args=>x.sl++kH args
 | .jR _ args=>kH args
 | .nilC x=>x.sl
 | .ptrE _ x y=>x.sl++y.sl
 | .kX _ _ _ n=>n.sl
 | .kz=>[]
 | .lk _ _ _ m k=>m.sl++k.sl
 | .ir _ m k v=>m.sl++(k.sl++v.sl)
 | .ln x=>x.sl
 | .j7 x=>x.sl
 | .ent x=>x.sl
def aE.dg(g:aE):List Nat:=g.op.dg++(match g.guard with | some (t,_)=>[t] | none=>[])
def ct.hZ:ct→Nat
 | .mv _ | .pick .. | .bin .. | .eqv .. | .nilS .. | .conv .. | .un .. | .fl .. | .ix .. | .lenT _ | .bld .. | .ext .. | .mk .. | .nilC _ | .ptrE .. =>0
 | .ld .. | .fa .. | .ia .. | .is .. | .len _ | .va .. | .bs .. | .sl .. | .cap _ | .bs0 _ | .lk .. | .ent _=>1
 | .call .. | .eM .. =>2
 | .alloc _ | .box _=>3
 | .bu .. =>4
 | .dH .. | .kO .. | .jb .. | .jc .. | .jR .. | .kX .. | .kz | .ir .. | .ln _ | .j7 _=>5
def wP(a b:Nat):Bool:=(decide (a≤2)&&decide (b≤3))||(a==0&&b==4)
def ot(g h:aE):Bool:=wP g.op.hZ h.op.hZ&&(match g.dst with
  |some d => !h.dg.contains d&&h.dst != some d
  |none=>true)&&(match h.dst with
  |some d => !g.dg.contains d
  |none=>true)
def eC(A A':af)(l:List Nat):Prop:=∀ k∈l,A'.t k=A.t k
section
variable {A A':af}
theorem dv{x:aM}(h:eC A A' x.sl):ae A' x=ae A x:=by
 cases x with
 |t n=>exact h n (by simp[aM.sl])
 |c x=>rfl
theorem eC.l{l m:List Nat}(h:eC A A' (l++m)):eC A A' l:=fun k hk=>h k (List.mem_append_left _ hk)
theorem eC.r{l m:List Nat}(h:eC A A' (l++m)):eC A A' m:=fun k hk=>h k (List.mem_append_right _ hk)
theorem nk:∀ {l:List aM},eC A A' (kH l)→l.map (ae A')=l.map (ae A)
 | [],_=>rfl
 |x::l,h=>by
  simp only[kH,List.flatMap_cons] at h;simp only[zy2,dv h.l,nk (l:=l) h.r]
theorem qv{x:Option aM}(h:eC A A' (uR x)):x.map (ae A')=x.map (ae A):=by
 cases x with
 |none=>rfl
 |some x=>simp only[zy6,dv (x:=x) h]
theorem E9:∀ {l:List (Nat×aM)},eC A A' (kH (l.map (·.2)))→(l.map fun p=>(p.1,ae A' p.2))=l.map fun p=>(p.1,ae A p.2)
 | [],_=>rfl
 |x::l,h=>by
  simp only[kH,zy2,List.flatMap_cons] at h;simp only[zy2,dv h.l,E9 (l:=l) h.r]
theorem sk{f g:I→Option I}(h:∀ x v,f x=some v→g x=some v):∀ {xs vs:List I},gw f xs=some vs→gw g xs=some vs
 | [],vs,hx=>by simpa only[gw] using hx
 |x::xs,vs,hx=>by
  simp only[gw] at hx ⊢;cases h1:f x with
  |none=>rw[h1] at hx;cases hx
  |some y=>cases h2:gw f xs with
   |none=>rw[h1,h2] at hx;cases hx
   |some ys=>rw[h1,h2] at hx;rw[h x y h1,sk h h2];exact hx
theorem xn(hu:eI A A'):∀ (k:Nat) (x v:I),ev A k x=some v→ev A' k x=some v
 |0,_,_,h=>by simp[ev] at h
 |k+1,x,v,h=>by
  have ih:=xn hu k;simp only[ev] at h ⊢;split at h
  ·rename_i hc;rw[if_pos hc];exact h
  ·rename_i hc;rw[if_neg hc];cases x <;>simp only[] at h ⊢ <;>try (cases h;done)
   case agg fs =>
    simp only[zz1] at h ⊢;obtain ⟨a,h1,h2⟩:=h;exact ⟨a,sk ih h1,h2⟩
   case func f fs =>
    simp only[zz1] at h ⊢;obtain ⟨a,h1,h2⟩:=h;exact ⟨a,sk ih h1,h2⟩
   case ptr n p =>
    cases hd:cH A (.ptr n p) with
    |none=>rw[hd] at h;cases h
    |some y =>
     rw[hd] at h;rw[kp hu hd];simp only[zz1] at h ⊢;obtain ⟨a,h1,h2⟩:=h;exact ⟨a,ih _ _ h1,h2⟩
   case view n p sz lo l =>
    cases hd:cH A (.ptr n p) with
    |none=>rw[hd] at h;cases h
    |some y=>rw[hd] at h;rw[kp hu hd];exact h
   case mref n =>
    cases ho:A.o n with
    |none=>rw[ho] at h;cases h
    |some y =>
     rw[ho] at h;rw[hu n y ho];cases y <;>try (cases h;done)
     simp only at h ⊢;split at h
     ·rename_i hk;rw[if_pos hk];simp only[zz1] at h ⊢;obtain ⟨a,h1,h2⟩:=h;exact ⟨a,sk ih h1,h2⟩
     ·cases h
   case own n l =>
    cases ho:A.o n with
    |none=>rw[ho] at h;cases h
    |some y=>rw[ho] at h;rw[hu n y ho];exact h
mutual
theorem Fo(hu:eI A A'){aC:Bool} : ∀ {x v:I},bC aC A x=some v→bC aC A' x=some v
 | .ptr n p,v,h=>by
  simp only[bC] at h ⊢;cases aC <;>simp only[zz6,if_false,if_true] at h ⊢
  ·exact h
  ·cases hd:cH A (.ptr n p) with
   |none=>rw[hd] at h;cases h
   |some y =>
    rw[hd] at h;rw[kp hu hd];simp only at h ⊢;split at h
    ·rename_i hc;rw[if_pos hc];exact h
    ·rename_i hc;rw[if_neg hc];simp only[zz1] at h ⊢;obtain ⟨a,h1,h2⟩:=h;exact ⟨a,xn hu 9 _ _ h1,h2⟩
 | .mref n,v,h=>by
  simp only[bC] at h ⊢;cases aC <;>simp only[zz6,if_false,if_true] at h ⊢
  ·exact h
  ·cases ho:A.o n with
   |none=>rw[ho] at h;cases h
   |some y =>
    rw[ho] at h;rw[hu n y ho];cases y <;>try (cases h;done)
    simp only at h ⊢;split at h
    ·rename_i hk;rw[if_pos hk];simp only[zz1] at h ⊢;obtain ⟨a,h1,h2⟩:=h;exact ⟨a,sk (xn hu 9) h1,h2⟩
    ·cases h
 | .dI _,_,h=>by simp[bC] at h
 | .c7 _ _,_,h=>by simpa only[bC] using h
 | .own n k,v,h=>by
  simp only[bC] at h ⊢;cases ho:A.o n with
  |none=>rw[ho] at h;cases h
  |some y=>rw[ho] at h;rw[hu n y ho];exact h
 | .view n p sz lo k,v,h=>by
  simp only[bC] at h ⊢;cases aC <;>simp only[zz6,if_false,if_true] at h ⊢
  ·exact h
  ·cases hd:cH A (.ptr n p) with
   |none=>rw[hd] at h;cases h
   |some y=>rw[hd] at h;rw[kp hu hd];exact h
 | .func f caps,v,h=>by
  simp only[bC,zz1] at h ⊢;obtain ⟨a,h1,h2⟩:=h;exact ⟨a,mu hu h1,h2⟩
 | .agg fs,v,h=>by
  simp only[bC,zz1] at h ⊢;obtain ⟨a,h1,h2⟩:=h;exact ⟨a,mu hu h1,h2⟩
 | .nils _,_,h | .c0 _,_,h | .tuple _,_,h | .undef,_,h | .dx,_,h | .bool _,_,h | .int _ _,_,h | .db _,_,h | .nilp,_,h | .dz,_,h | .eg,_,h | .raw _,_,h | .slice _ _,_,h | .ref _,_,h | .iface _ _,_,h=>by simpa only[bC] using h
theorem mu(hu:eI A A'){aC:Bool} : ∀ {xs vs:List I},cn aC A xs=some vs→cn aC A' xs=some vs
 | [],vs,h=>by simpa only[cn] using h
 |x::xs,vs,h=>by
  simp only[cn] at h ⊢;cases h1:bC aC A x with
  |none=>rw[h1] at h;cases h
  |some y=>cases h2:cn aC A xs with
   |none=>rw[h1,h2] at h;cases h
   |some ys=>rw[h1,h2] at h;rw[Fo hu h1,mu hu h2];exact h
end
theorem zP{op:ct}(hc:op.hZ=0)(h:eC A A' op.dg):bF A' op=bF A op:=by
 cases op <;>simp only[ct.hZ] at hc <;>try (cases hc;done)
 all_goals simp only[ct.dg] at h
 case mv x=>simp only[bF,dv h]
 case pick c a b=>simp only[bF,dv h.l,dv h.r.l,dv h.r.r]
 case bin _ x y=>simp only[bF,dv h.l,dv h.r]
 case eqv _ _ x y=>simp only[bF,dv h.l,dv h.r]
 case nilS x=>simp only[bF,dv h]
 case conv x=>simp only[bF,dv h]
 case un x=>simp only[bF,dv h]
 case fl x=>simp only[bF,dv h]
 case ix x i=>simp only[bF,dv h.l,dv h.r]
 case lenT x=>simp only[bF,dv h]
 case bld zs ps=>simp only[bF,E9 h]
 case ext x i=>simp only[bF,dv h]
 case mk f caps=>simp only[bF,nk h]
 case nilC x=>simp only[bF,dv h]
 case ptrE neg x y=>simp only[bF,dv h.l,dv h.r]
theorem amN(hu:eI A A'){m:I}{q:List I×List I}(h:gV A m=some q):gV A' m=some q:=by
 cases m with
 |mref n =>
  simp only[gV] at h ⊢;cases hd:A.o n with
  |none=>simp only[hd] at h;cases h
  |some y=>simp only[hd] at h;simp only[hu n y hd];exact h
 |raw v=>cases v <;>first | (cases h;done) | (rename_i m;cases m <;>first | exact h | cases h)
 |c7 ks vs=>exact h
 |_=>simp only[gV] at h;cases h
theorem NP{op:ct}(hu:eI A A')(h:eC A A' op.dg){v:I}(hv:bF A op=some v):bF A' op=some v:=by
 by_cases hc:op.hZ=0
 ·rw[zP hc h];exact hv
 cases op <;>try (exact absurd rfl hc)
 all_goals simp only[ct.dg] at h
 case ld s x =>
  simp only[bF,dv h] at hv ⊢;cases hd:cH A (ae A x) with
  |none=>rw[hd] at hv;cases hv
  |some y=>rw[hd] at hv;rw[kp hu hd];exact hv
 case fa f off x =>
  simp only[bF,dv h] at hv ⊢;generalize ae A x=z at *;cases z <;>try (first | exact hv | (rename_i y;cases y <;>exact hv))
  rename_i n p;cases hd:cH A (.ptr n p) with
  |none=>simp only[hd] at hv;cases hv
  |some y=>simp only[hd] at hv;simp only[kp hu hd];exact hv
 case ia n esz x i =>
  simp only[bF,dv h.l,dv h.r] at hv ⊢;generalize ae A x=z at *;cases z <;>try (first | exact hv | (rename_i y;cases y <;>exact hv))
  rename_i n p;cases hd:cH A (.ptr n p) with
  |none=>simp only[hd] at hv;(repeat' split at hv) <;>cases hv
  |some y=>simp only[hd] at hv;simp only[kp hu hd];exact hv
 case is esz x i =>
  simp only[bF,dv h.l,dv h.r] at hv ⊢;generalize ae A i=q at *;cases q <;>try (exact hv)
  simp only at hv ⊢;generalize ae A x=z at *;cases z <;>try (first | exact hv | (rename_i y;cases y <;>exact hv))
  ·rename_i n p;cases hd:A.o n with
   |none=>simp only[hd] at hv;cases hv
   |some y=>simp only[hd] at hv;simp only[hu n y hd];exact hv
  ·rename_i n p sz lo k;simp only at hv ⊢;cases hd:cH A (.ptr n p) with
   |none=>simp only[hd] at hv;cases hv
   |some y=>simp only[hd] at hv;simp only[kp hu hd];exact hv
 case len x =>
  simp only[bF,dv h] at hv ⊢;generalize ae A x=z at *;cases z <;>try (first | exact hv | (rename_i y;cases y <;>exact hv))
  rename_i n p;cases hd:A.o n with
  |none=>simp only[hd] at hv;cases hv
  |some y=>simp only[hd] at hv;simp only[hu n y hd];exact hv
 case cap x =>
  simp only[bF,dv h] at hv ⊢;generalize ae A x=z at *;cases z <;>try (first | exact hv | (rename_i y;cases y <;>exact hv))
  rename_i n p sz lo k;simp only at hv ⊢;cases hd:cH A (.ptr n p) with
  |none=>simp only[hd] at hv;cases hv
  |some y=>simp only[hd] at hv;simp only[kp hu hd];exact hv
 case bs0 esz=>exact hv
 case sl esz x lo hi mx =>
  simp only[bF,dv h.l,qv h.r.l,qv h.r.r.l,qv h.r.r.r] at hv ⊢;generalize ae A x=z at *;cases z <;>try (first | exact hv | (rename_i y;cases y <;>exact hv))
  rename_i n p sz l0 k;simp only at hv ⊢;cases hd:cH A (.ptr n p) with
  |none=>simp only[hd] at hv;cases hv
  |some y=>simp only[hd] at hv;simp only[kp hu hd];exact hv
 case va n esz x =>
  simp only[bF,dv h] at hv ⊢;generalize ae A x=z at *;cases z <;>try (first | exact hv | (rename_i y;cases y <;>exact hv))
  rename_i n p;cases hd:cH A (.ptr n p) with
  |none=>simp only[hd] at hv;cases hv
  |some y=>simp only[hd] at hv;simp only[kp hu hd];exact hv
 case lk ty z ok m k =>
  simp only[bF,dv h.l,dv h.r] at hv ⊢;cases hd:gV A (ae A m) with
  |none=>rw[hd] at hv;cases hv
  |some y=>rw[hd] at hv;rw[amN hu hd];exact hv
 case ent x =>
  simp only[bF,dv h] at hv ⊢;generalize ae A x=z at *;cases z <;>try (exact hv)
  rename_i n;simp only at hv ⊢;cases hd:A.o n with
  |none=>simp only[hd] at hv;cases hv
  |some y=>simp only[hd] at hv;simp only[hu n y hd];exact hv
 case bs esz ps =>
  simp only[bF,nk h] at hv ⊢;cases hd:cn false A (ps.map (ae A)) with
  |none=>rw[hd] at hv;cases hv
  |some y=>rw[hd] at hv;rw[mu hu hd];exact hv
 all_goals (simp only[bF] at hv;cases hv)
end
def pass(A:af)(g:aE):Prop:=match g.guard with | none=>True | some (t,b)=>A.t t=.bool b
def gX(A:af)(g:aE):Prop:=match g.guard with | none=>False | some (t,b)=>A.t t=.bool (!b)∨A.t t=.undef
inductive kh (P:Program) (A:af):ct→I→Prop where
 |pure {op:ct} {v:I} : bF A op=some v→kh P A op v
 |flat {f:FuncId} {args:List aM} {cargs:List I} {r:I} : cn true A (args.map (ae A))=some cargs→aA P f cargs r→r.flat=true→kh P A (.call f args) r
 |lead {f:FuncId} {args:List aM} {cargs:List I} {r:I} : cn false A (args.map (ae A))=some cargs→aA P f cargs r→kh P A (.call f args) r
 |vB {x:aM} {f:FuncId} {caps:List I} {args:List aM} {cargs:List I} {r:I} : ae A x=.func f caps→cn true A (args.map (ae A)++caps)=some cargs→aA P f cargs r→r.flat=true→kh P A (.eM x args) r
 |vC {x:aM} {f:FuncId} {caps:List I} {args:List aM} {cargs:List I} {r:I} : ae A x=.func f caps→cn false A (args.map (ae A)++caps)=some cargs→aA P f cargs r→kh P A (.eM x args) r
def tc(A:af)(op:ct)(x:I):Prop:=op=.alloc x∨∃ y,op=.box y∧(ae A y).cq=true∧x=ae A y
def td(A:af)(op:ct)(n:Nat)(z:ah):Prop:=∃ s x v p b old,op=.bu s x v∧ae A x=.ptr n p∧A.o n=some (.box b)∧b.at p=some old∧zB s (ae A v) old∧z=.box (b.dS p (ae A v))
def Sz(A:af)(dst:Option Nat)(op:ct)(B:af):Prop:=op.hZ=5∧∀ (rest:List aE) (k:af→cP),bA A dst op rest k=k B
theorem aqm{A:af}{neg:Bool}{x:aM}{v:I}(h:bF A (.nilS neg x)=some v):kK (ae A x)=false:=by
 simp only[bF] at h;generalize ae A x=q at *;cases q <;>simp only[kK] <;>simp only at h <;>try (cases h;done)
 rename_i sz es;cases es with
 |nil=>simp at h
 |cons=>rfl
inductive fM (P:Program) (g:aE) (A:af):af→Prop where
 |skip:gX A g→fM P g A (A.aT g.dst .undef)
 |val {v:I} : pass A g→kh P A g.op v→fM P g A (A.aT g.dst v)
 |j5 {d:Nat} {x:I} : pass A g→g.dst=some d→tc A g.op x→A.o d=none→fM P g A ((A.aU d (.box x)).put d (.ptr d []))
 |bu {n:Nat} {z:ah} : pass A g→g.dst=none→td A g.op n z→fM P g A (A.aU n z)
 |je {B:af} : pass A g→Sz A g.dst g.op B→fM P g A B
theorem wi{b' b:Bool}(h:b'≠b):b' = !b:=by cases b <;>cases b' <;>simp_all
section
variable {P:Program} {Y:Value→List I→List (Nat×ah)→cO→Prop} {K:af→Prop}
theorem fM.MY{A:af}{g:aE}{rest:List aE}(hp:pass A g)(h:bn P Y true K (bA A g.dst g.op rest (aF rest))):∃ B,fM P g A B∧bn P Y true K (aF rest B):=by
 have pure:bn P Y true K (cX (bF A g.op) fun v=>aF rest (A.aT g.dst v))→∃ B,fM P g A B∧bn P Y true K (aF rest B):=by
  intro h;cases hv:bF A g.op with
  |none=>rw[hv] at h;cases h
  |some v=>rw[hv] at h;exact ⟨_,.val hp (.pure hv),h⟩
 obtain ⟨dst,op,gd⟩:=g;cases op with
 |alloc z =>
  simp only[bA] at h;split at h
  case h_2=>cases h
  split at h
  case h_2=>cases h
  rename_i hd _ ho;exact ⟨_,.j5 hp rfl (.inl rfl) ho,h⟩
 |box x =>
  simp only[bA] at h;split at h
  case h_2=>cases h
  split at h
  case h_2=>cases h
  rename_i hd _ ho;split at h
  case isFalse=>cases h
  rename_i hv;exact ⟨_,.j5 hp rfl (.inr ⟨x,rfl,hv,rfl⟩) ho,h⟩
 |bu s x v =>
  simp only[bA] at h;split at h
  case h_2=>cases h
  split at h
  case h_2=>cases h
  rename_i n p hx;split at h
  case h_2=>cases h
  rename_i b hb;split at h
  case h_2=>cases h
  rename_i old hat;split at h
  case isFalse=>cases h
  rename_i hok;exact ⟨_,.bu hp rfl ⟨s,x,v,p,b,old,rfl,hx,hb,hat,hok,rfl⟩,h⟩
 |nilS neg x =>
  simp only[bA] at h;split at h
  ·cases h with | any hdr=>cases hdr
  ·exact pure h
 |dH e esz bytes z s x =>
  simp only[bA] at h;split at h
  ·rename_i n l hs';split at h
   case h_2=>cases h
   rename_i sz ys hx';split at h
   case h_3=>cases h
   case h_2 =>
    rename_i T xs hn;split at h
    case isFalse=>cases h
    rename_i hok;exact ⟨_,.je hp ⟨rfl,fun rest k=>by simp only[bA,hs',hx',hn,if_pos hok]⟩,h⟩
   rename_i T sz' es hn;split at h
   case isFalse=>cases h
   rename_i hok;exact ⟨_,.je hp ⟨rfl,fun rest k=>by simp only[bA,hs',hx',hn,if_pos hok]⟩,h⟩
  ·rename_i hno;have hg:∀ (rest:List aE) (k:af→cP),bA A dst (.dH e esz bytes z s x) rest k=fu A dst esz bytes z (ae A s) (eB A esz (ae A s)) (eB A esz (ae A x)) k:=fun rest k=>by
    simp only[bA]
   simp only[fu] at h hg;split at h
   case h_2=>cases h
   rename_i es ys hse hsx;simp only[hse,hsx] at hg;have grow:¬ bn P Y true K (gJ A dst esz bytes z es ys (aF rest)):=fun h=>by
    simp only[gJ] at h;split at h
    case h_2=>cases h
    split at h
    case h_2=>cases h
    split at h
    case isFalse=>cases h
    cases h with | any hdr=>cases hdr
   split at h
   ·rename_i hne;simp only[if_pos hne] at hg;exact ⟨_,.je hp ⟨rfl,hg⟩,h⟩
   ·rename_i hne;simp only[if_neg hne] at hg;split at h
    ·exact absurd h grow
    ·exact absurd h grow
    ·rename_i n p sz lo l hsv;split at h
     case h_2=>cases h
     rename_i b hn;split at h
     case h_2=>cases h
     rename_i fs hat;split at h
     ·rename_i hroom;split at h
      case isFalse=>cases h
      rename_i hok;simp only[hsv,hn,hat,if_pos hroom,if_pos hok] at hg;exact ⟨_,.je hp ⟨rfl,hg⟩,h⟩
     ·exact absurd h grow
    ·cases h
 |jR f args =>
  simp only[bA] at h;cases h with | ext r hdr=>cases hdr
 |kO e esz bytes z s n =>
  exfalso
  simp only[bA] at h;split at h
  case h_2=>cases h
  simp only[rI] at h;split at h
  case h_2=>cases h
  split at h
  case h_2=>cases h
  split at h
  case h_2=>cases h
  split at h
  case h_2=>cases h
  split at h
  case isFalse=>cases h
  simp only[gJ] at h;split at h
  case h_2=>cases h
  split at h
  case h_2=>cases h
  split at h
  case isFalse=>cases h
  cases h with | any hdr=>cases hdr
 |kz =>
  simp only[bA] at h;split at h
  case h_2=>cases h
  rename_i d;split at h
  case h_2=>cases h
  rename_i hf;exact ⟨_,.je hp ⟨rfl,fun rest k=>by simp only[bA,hf]⟩,h⟩
 |kX e bytes z n =>
  simp only[bA] at h;split at h
  case h_2=>cases h
  rename_i d;split at h
  case h_2=>cases h
  rename_i hf;split at h
  case h_2=>cases h
  rename_i k m hn;split at h
  case isFalse=>cases h
  rename_i hc;exact ⟨_,.je hp ⟨rfl,fun rest k=>by simp only[bA,hf,hn,if_pos hc]⟩,h⟩
 |ir ty m key v =>
  simp only[bA] at h;split at h
  case h_2=>cases h
  split at h
  case h_2=>cases h
  rename_i n hm;split at h
  case h_2=>cases h
  rename_i ks vs hn;split at h
  case h_2=>cases h
  rename_i ks' vs' hl;exact ⟨_,.je hp ⟨rfl,fun rest k=>by simp only[bA,hm,hn,hl]⟩,h⟩
 |ln x =>
  simp only[bA] at h;split at h
  case h_2=>cases h
  rename_i d;split at h
  case h_2=>cases h
  rename_i hf;split at h
  case h_2=>cases h
  rename_i ks vs hx;exact ⟨_,.je hp ⟨rfl,fun rest k=>by simp only[bA,hf,hx]⟩,h⟩
 |j7 x =>
  simp only[bA] at h;split at h
  case h_2=>cases h
  rename_i n hx;split at h
  case h_2=>cases h
  rename_i ks vs left cur hn;split at h
  ·rename_i hl;exact ⟨_,.je hp ⟨rfl,fun rest k=>by simp only[bA,hx,hn,if_pos hl]⟩,h⟩
  ·cases h with | any hdr=>cases hdr
 |jb esz z x =>
  simp only[bA] at h;split at h
  case h_2=>cases h
  have hg:∀ (rest:List aE) (k:af→cP),bA A none (.jb esz z x) rest k=nY A esz z k (ae A x):=fun rest k=>rfl;simp only[nY] at h hg;split at h
  ·rename_i n p sz lo l hv;split at h
   case h_2=>cases h
   rename_i b hn;split at h
   case h_2=>cases h
   rename_i fs hat;split at h
   case isFalse=>cases h
   rename_i hok;simp only[hv,hn,hat,if_pos hok] at hg;exact ⟨_,.je hp ⟨rfl,hg⟩,h⟩
  ·rename_i z0 hv;simp only[hv] at hg;exact ⟨_,.je hp ⟨rfl,hg⟩,h⟩
  ·rename_i z0 hv;simp only[hv] at hg;exact ⟨_,.je hp ⟨rfl,hg⟩,h⟩
  ·cases h
 |jc esz x y =>
  have hg:∀ (rest:List aE) (k:af→cP),bA A dst (.jc esz x y) rest k=o7 A dst esz k (ae A x) (eB A esz (ae A y)):=fun rest k=>rfl;simp only[bA] at h;simp only[o7] at h hg;split at h
  ·rename_i n p sz lo l ys hv hsx;split at h
   case h_2=>cases h
   rename_i b hn;split at h
   case h_2=>cases h
   rename_i fs hat;split at h
   case isFalse=>cases h
   rename_i hok;simp only[hv,hsx,hn,hat,if_pos hok] at hg;exact ⟨_,.je hp ⟨rfl,hg⟩,h⟩
  ·cases h
 |call f args =>
  simp only[bA] at h;generalize h1:cn true A (args.map (ae A))=a1 at h;generalize h2:cn false A (args.map (ae A))=a2 at h;cases h with
  |flat r hc hf hw=>exact ⟨_,.val hp (.flat h1 hc hf),hw⟩
  |lead r hc hw=>exact ⟨_,.val hp (.lead h2 hc),hw⟩
  |iQ ns r hdr=>cases hdr
  |bQ aC ρ os cargs post hdr=>cases hdr
 |eM x args =>
  simp only[bA] at h;split at h
  case h_3=>cases h
  case h_2=>cases h with | AL os cargs post hdr=>cases hdr
  rename_i f caps hx;generalize h1:cn true A (args.map (ae A)++caps)=a1 at h;generalize h2:cn false A (args.map (ae A)++caps)=a2 at h;cases h with
  |flat r hc hf hw=>exact ⟨_,.val hp (.vB hx h1 hc hf),hw⟩
  |lead r hc hw=>exact ⟨_,.val hp (.vC hx h2 hc),hw⟩
  |iQ ns r hdr=>cases hdr
  |bQ aC ρ os cargs post hdr=>cases hdr
 |_=>exact pure (by simpa only[bA] using h)
theorem fM.zo{A:af}{g:aE}{rest:List aE}(h:bn P Y true K (aF (g::rest) A)):∃ B,fM P g A B∧bn P Y true K (aF rest B):=by
 simp only[aF] at h;split at h
 ·rename_i hg;exact fM.MY (by simp only[pass,hg]) h
 ·rename_i t b hg;split at h
  ·rename_i b' hb;split at h
   ·rename_i hbb;subst hbb;exact fM.MY (by simp only[pass,hg];exact hb) h
   ·rename_i hbb;refine ⟨_,.skip (by simp only[gX,hg];exact .inl (by rw[hb,wi hbb])),h⟩
  ·rename_i hb;exact ⟨_,.skip (by simp only[gX,hg];exact .inr hb),h⟩
  ·cases h
theorem oY{A:af}{g:aE}{rest:List aE}(hp:pass A g):aF (g::rest) A=bA A g.dst g.op rest (aF rest):=by
 simp only[aF];cases hg:g.guard with
 |none=>rfl
 |some tb =>
  obtain ⟨t,b⟩:=tb;simp only[pass,hg] at hp;simp only[hp,if_true]
theorem fM.AH{A B:af}{g:aE}{rest:List aE}(h:fM P g A B)(hw:bn P Y true K (aF rest B)):bn P Y true K (aF (g::rest) A):=by
 cases h with
 |skip hn =>
  simp only[aF];cases hg:g.guard with
  |none=>simp only[gX,hg] at hn
  |some tb =>
   obtain ⟨t,b⟩:=tb;simp only[gX,hg] at hn;rcases hn with hn | hn
   ·simp only[hn];rw[if_neg (by cases b <;>simp)];exact hw
   ·simp only[hn];exact hw
 |val hp hv =>
  rw[oY hp];obtain ⟨dst,op,gd⟩:=g;cases hv with
  |pure hv =>
   have hv':bF A op=some _:=hv;cases op <;>try (simp only[bA,hv',cX] <;>first | exact hw | (simp only[bF] at hv';cases hv');done)
   all_goals first
    |(simp only[bF] at hv';cases hv';done)
    |(simp only[bA,aqm hv',zz6,if_false,hv',cX];exact hw)
  |flat h1 h2 h3=>simp only[bA,h1];exact .flat _ h2 h3 hw
  |lead h1 h2=>simp only[bA,h1];exact .lead _ h2 hw
  |vB h0 h1 h2 h3=>simp only[bA,h0,h1];exact .flat _ h2 h3 hw
  |vC h0 h1 h2=>simp only[bA,h0,h1];exact .lead _ h2 hw
 |j5 hp hd hm ho =>
  rw[oY hp];obtain ⟨dst,op,gd⟩:=g;simp only at hd;subst hd;rcases hm with hm | ⟨y,hm,hv,rfl⟩ <;>simp only at hm <;>subst hm
  ·simp only[bA,ho];exact hw
  ·simp only[bA,ho,hv,if_true];exact hw
 |bu hp hd hm =>
  rw[oY hp];obtain ⟨dst,op,gd⟩:=g;simp only at hd;subst hd;obtain ⟨s,x,v,p,b,old,h1,h2,h3,h4,h5,rfl⟩:=hm;simp only at h1;subst h1;simp only[bA,h2,h3,h4,if_pos h5];exact hw
 |je hp hm =>
  rw[oY hp,hm.2];exact hw
theorem kh.cV{A A':af}{op:ct}{v:I}(h:kh P A op v)(hu:eI A A')(ha:eC A A' op.dg):kh P A' op v:=by
 cases h with
 |pure h=>exact .pure (NP hu ha h)
 |flat h1 h2 h3=>exact .flat (by rw[nk ha];exact mu hu h1) h2 h3
 |lead h1 h2=>exact .lead (by rw[nk ha];exact mu hu h1) h2
 |vB h0 h1 h2 h3=>simp only[ct.dg] at ha;exact .vB (by rw[dv ha.l];exact h0) (by rw[nk ha.r];exact mu hu h1) h2 h3
 |vC h0 h1 h2=>simp only[ct.dg] at ha;exact .vC (by rw[dv ha.l];exact h0) (by rw[nk ha.r];exact mu hu h1) h2
theorem kh.iQ{A A':af}{op:ct}{v:I}(h:kh P A op v)(hc:op.hZ=0)(ha:eC A A' op.dg):kh P A' op v:=by
 cases h with
 |pure h=>exact .pure (by rw[zP hc ha];exact h)
 |_=>simp[ct.hZ] at hc
theorem oK{A A':af}{g:aE}(ha:eC A A' g.dg)(h:pass A g):pass A' g:=by
 unfold pass at *;cases hg:g.guard with
 |none=>trivial
 |some tb=>simp only[hg] at h ⊢;rw[ha tb.1 (by simp[aE.dg,hg])];exact h
theorem qN{A A':af}{g:aE}(ha:eC A A' g.dg)(h:gX A g):gX A' g:=by
 unfold gX at *;cases hg:g.guard with
 |none=>simp only[hg] at h
 |some tb=>simp only[hg] at h ⊢;rw[ha tb.1 (by simp[aE.dg,hg])];exact h
theorem aE.lf{A A':af}{g:aE}(ha:eC A A' g.dg):eC A A' g.op.dg:=fun k hk=>ha k (List.mem_append_left _ hk)
def lZ(P:Program)(g:aE)(A:af)(v:I):Prop:=(gX A g∧v=.undef)∨(pass A g∧kh P A g.op v)
theorem lZ.step{A:af}{g:aE}{v:I}(h:lZ P g A v):fM P g A (A.aT g.dst v):=by
 rcases h with ⟨h,rfl⟩ | ⟨h,k⟩
 ·exact .skip h
 ·exact .val h k
theorem lZ.cV{A A':af}{g:aE}{v:I}(h:lZ P g A v)(hu:eI A A')(ha:eC A A' g.dg):lZ P g A' v:=by
 rcases h with ⟨h,rfl⟩ | ⟨h,k⟩
 ·exact .inl ⟨qN ha h,rfl⟩
 ·exact .inr ⟨oK ha h,k.cV hu (aE.lf ha)⟩
theorem lZ.iQ{A A':af}{g:aE}{v:I}(h:lZ P g A v)(hc:g.op.hZ=0)(ha:eC A A' g.dg):lZ P g A' v:=by
 rcases h with ⟨h,rfl⟩ | ⟨h,k⟩
 ·exact .inl ⟨qN ha h,rfl⟩
 ·exact .inr ⟨oK ha h,k.iQ hc (aE.lf ha)⟩
theorem fM.AB{A B:af}{g:aE}(h:fM P g A B)(hc:g.op.hZ≤2):∃ v,lZ P g A v∧B=A.aT g.dst v:=by
 cases h with
 |skip h=>exact ⟨_,.inl ⟨h,rfl⟩,rfl⟩
 |val h k=>exact ⟨_,.inr ⟨h,k⟩,rfl⟩
 |j5 h1 h2 h3 h4=>rcases h3 with h3 | ⟨y,h3,_⟩ <;>(rw[h3] at hc;simp[ct.hZ] at hc)
 |bu h1 h2 h3=>obtain ⟨s,x,v,p,b,old,h4,_⟩:=h3;rw[h4] at hc;simp[ct.hZ] at hc
 |je h1 h3=>rw[h3.1] at hc;omega
theorem qW{A:af}{a b:Option Nat}{v u:I}(h:∀ d,a=some d→b≠some d):(A.aT a v).aT b u=(A.aT b u).aT a v:=by
 cases a with
 |none=>rfl
 |some d=>cases b with
  |none=>rfl
  |some e =>
   have hne:d≠e:=fun he=>h d rfl (by rw[he]);simp only[af.aT,af.put,af.mk.injEq,and_true]
   funext k
   by_cases h1:k=e <;>by_cases h2:k=d <;>simp_all
theorem jn{A:af}{d:Option Nat}{v:I} : (A.aT d v).o=A.o:=by cases d <;>rfl
theorem nF{A:af}{d:Option Nat}{v:I}{l:List Nat}(h:∀ k,d=some k→k∉l):eC A (A.aT d v) l:=by
 cases d with
 |none=>exact fun _ _=>rfl
 |some e =>
  intro k hk;have:k≠e:=fun he=>h e rfl (he▸hk);simp[af.aT,af.put,this]
theorem eC.symm{A A':af}{l:List Nat}(h:eC A A' l):eC A' A l:=fun k hk=>(h k hk).symm
theorem tc.same{A A':af}{op:ct}{x:I}(h:tc A op x)(ha:eC A A' op.dg):tc A' op x:=by
 rcases h with h | ⟨y,h1,h2,h3⟩
 ·exact .inl h
 ·subst h1;have:=dv (x:=y) ha;exact .inr ⟨y,rfl,by rw[this];exact h2,by rw[this];exact h3⟩
theorem td.same{A A':af}{op:ct}{n:Nat}{z:ah}(h:td A op n z)(ho:A'.o=A.o)(ha:eC A A' op.dg):td A' op n z:=by
 obtain ⟨s,x,v,p,b,old,h1,h2,h3,h4,h5,h6⟩:=h;subst h1;simp only[ct.dg] at ha;have e1:=dv ha.l;have e2:=dv ha.r;exact ⟨s,x,v,p,b,old,rfl,by rw[e1];exact h2,by rw[ho];exact h3,h4,by rw[e2];exact h5,by rw[e2];exact h6⟩
theorem alV{g h:aE}(hi:ot g h=true):wP g.op.hZ h.op.hZ=true∧(∀ d,g.dst=some d→d∉h.dg)∧(∀ d,g.dst=some d→h.dst≠some d)∧(∀ d,h.dst=some d→d∉g.dg):=by
 simp only[ot,zz3] at hi;obtain ⟨⟨h1,h2⟩,h3⟩:=hi;refine ⟨h1,fun d hd =>?_,fun d hd =>?_,fun d hd =>?_⟩
 ·rw[hd] at h2;simp at h2;exact h2.1
 ·rw[hd] at h2;simp at h2;exact h2.2
 ·rw[hd] at h3;simpa using h3
theorem fM.swap{A B C:af}{g h:aE}(hi:ot g h=true)(h1:fM P g A B)(h2:fM P h B C):∃ B',fM P h A B'∧fM P g B' C:=by
 obtain ⟨hc,i1,i2,i3⟩:=alV hi;simp only[wP,Bool.or_eq_true,zz3,decide_eq_true_eq,beq_iff_eq] at hc;have hg2:g.op.hZ≤2:=by rcases hc with hc | hc <;>omega
 obtain ⟨v,hv,rfl⟩:=h1.AB hg2;have ag:eC (A.aT g.dst v) A h.dg:=(nF i1).symm;have cV:eI (A.aT g.dst v) A:=fun n x hx=>by rwa [jn] at hx
 cases h2 with
 |skip hn =>
  exact ⟨_,.skip (qN ag hn),by
   rw[qW i2];exact (hv.cV (by intro n x hx;rwa [jn]) (nF i3)).step⟩
 |val hp hu =>
  exact ⟨_,.val (oK ag hp) (hu.cV cV (aE.lf ag)),by
   rw[qW i2];exact (hv.cV (by intro n x hx;rwa [jn]) (nF i3)).step⟩
 |j5 hp hd hm ho =>
  rename_i d x;rw[jn] at ho;refine ⟨_,.j5 (oK ag hp) hd (hm.same (aE.lf ag)) ho,?_⟩;have e:((A.aT g.dst v).aU d (.box x)).put d (.ptr d [])=((A.aU d (.box x)).put d (.ptr d [])).aT g.dst v:=by
   cases hgd:g.dst with
   |none=>rfl
   |some e =>
    have hne:e≠d:=fun he=>i2 e hgd (by rw[hd,he]);simp only[af.aT,af.put,af.aU,af.mk.injEq,and_true]
    funext k
    by_cases h1:k=e <;>by_cases h2:k=d <;>simp_all
  rw[e];refine (hv.cV (fun n y hy =>?_) (fun k hk =>?_)).step
  ·have:n≠d:=fun he=>by rw[he,ho] at hy;cases hy
   simp only[af.put,af.aU,this,if_false];exact hy
  ·have:k≠d:=fun he=>i3 d hd (he▸hk);simp only[af.put,af.aU,this,if_false]
 |bu hp hd hm =>
  rename_i n z;have hc0:g.op.hZ=0:=by
   obtain ⟨s,x,v,p,b,old,h4,_⟩:=hm;rcases hc with hc | hc
   ·rw[h4] at hc;exact absurd hc.2 (by simp[ct.hZ])
   ·exact hc.1
  refine ⟨_,.bu (oK ag hp) hd (hm.same jn.symm (aE.lf ag)),?_⟩;have e:(A.aT g.dst v).aU n z=(A.aU n z).aT g.dst v:=by cases g.dst <;>rfl
  rw[e];exact (lZ.iQ (A':=A.aU n z) hv hc0 (fun _ _=>rfl)).step
 |je hp hm =>
  exfalso
  rw[hm.1] at hc;omega
theorem bn.swap{A:af}{g h:aE}{rest:List aE}(hi:ot g h=true)(hw:bn P Y true K (aF (g::h::rest) A)):bn P Y true K (aF (h::g::rest) A):=by
 obtain ⟨B,h1,h2⟩:=fM.zo hw;obtain ⟨C,h3,h4⟩:=fM.zo h2;obtain ⟨B',h5,h6⟩:=fM.swap hi h1 h3;exact h5.AH (h6.AH h4)
theorem bn.rK{g:aE} : ∀ {l:List aE} {r:List aE} {A:af},(∀ j∈l,ot j g=true)→bn P Y true K (aF (l++g::r) A)→bn P Y true K (aF (g::(l++r)) A)
 | [],r,A,_,h=>h
 |j::l,r,A,hi,h=>by
  obtain ⟨B,h1,h2⟩:=fM.zo (g:=j) (rest:=l++g::r) h;have h3:=bn.rK (l:=l) (r:=r) (fun k hk=>hi k (by simp[hk])) h2;exact bn.swap (hi j (by simp)) (h1.AH h3)
end
def eV(o:Oper):List Nat:=(o.after.toList.filter fun e=>Region.binds .any e).map (·.on)
def pW(cl:List Nat):List Nat→Nat
 | []=>0
 |k::ks=>(2^k ||| cl.getD k 0) ||| pW cl ks
def tC(on:List (List Nat))(gs:List aE)(cl:List Nat):Bool :=
 (List.range gs.length).all fun i=>(on.getD i []).all (fun k=>decide (k<i))&&Nat.beq (cl.getD i 0) (pW cl (on.getD i [])) &&
  (List.range i).all fun j=>(cl.getD i 0).testBit j||ot (gs.getD j default) (gs.getD i default)
theorem AJ{cl:List Nat}{j:Nat} : ∀ {l:List Nat},(pW cl l).testBit j=true→j∈l∨∃ k∈l,(cl.getD k 0).testBit j=true
 | [],h=>by simp[pW] at h
 |k::ks,h=>by
  simp only[pW,Nat.testBit_or,Bool.or_eq_true,Nat.testBit_two_pow,decide_eq_true_eq] at h;rcases h with (h | h) | h
  ·exact .inl (by simp[h])
  ·exact .inr ⟨k,by simp,h⟩
  ·rcases AJ h with h | ⟨m,h1,h2⟩
   ·exact .inl (by simp[h])
   ·exact .inr ⟨m,by simp[h1],h2⟩
structure vI (l:List Oper) (gs:List aE):Prop where
 qe:∀ i o,l[i]?=some o→∀ k∈eV o,k<i
 yE:∀ (S:Nat→Prop),(∀ i o,l[i]?=some o→S i→∀ k∈eV o,S k)→∀ i o g j,l[i]?=some o→gs[i]?=some g→(∀ k∈eV o,S k)→j<i→¬ S j→ot (gs.getD j default) g=true
theorem abv{l:List Oper}{gs:List aE}{cl:List Nat}(hlen:gs.length=l.length)(h:tC (l.map eV) gs cl=true):vI l gs:=by
 simp only[tC,zx3,zw4] at h;have bd:∀ i o,l[i]?=some o→∃ g,gs[i]?=some g∧(∀ k∈eV o,k<i)∧(∀ j,(cl.getD i 0).testBit j=true→j∈eV o∨∃ k∈eV o,(cl.getD k 0).testBit j=true)∧∀ j,j<i→(cl.getD i 0).testBit j=true∨ot (gs.getD j default) g=true:=by
  intro i o ho;have hi:i<l.length:=(zy7.1 ho).1;have h1:=h i (by omega);have hon:(l.map eV).getD i []=eV o:=by simp[zz0,ho]
  have hgi:i<gs.length:=by omega
  have hg:gs[i]?=some gs[i]:=zy0 hgi;have hgd:gs.getD i default=gs[i]:=by simp[zz0,hg]
  rw[hon,hgd] at h1;simp only[zz3,zx3,decide_eq_true_eq,Bool.or_eq_true,zw4] at h1;have hb:=Nat.eq_of_beq_eq_true h1.1.2;exact ⟨_,hg,h1.1.1,fun j hj=>AJ (by rw[←hb];exact hj),h1.2⟩
 refine ⟨fun i o ho=>(bd i o ho).choose_spec.2.1,?_⟩;intro S hS i o g j ho hg hon hj hnj;have key:∀ n i o,i≤n→l[i]?=some o→(∀ k∈eV o,S k)→∀ j,(cl.getD i 0).testBit j=true→S j:=by
  intro n
  induction n with
  |zero =>
   intro i o hi ho hon j hj;obtain ⟨g,_,h1,h2,_⟩:=bd i o ho;rcases h2 j hj with h | ⟨k,hk,_⟩
   ·exact hon j h
   ·have:=h1 k hk;omega
  |succ n ih =>
   intro i o hi ho hon j hj;obtain ⟨g,_,h1,h2,_⟩:=bd i o ho;rcases h2 j hj with h | ⟨k,hk,hjk⟩
   ·exact hon j h
   ·have hki:=h1 k hk;have hkl:k<l.length:=Nat.lt_trans hki (zy7.1 ho).1;obtain ⟨ok,hok⟩:∃ ok,l[k]?=some ok:=⟨l[k],zy0 hkl⟩
    exact ih k ok (by omega) hok (hS k ok hok (hon k hk)) j hjk
 obtain ⟨g',hg',_,_,h3⟩:=bd i o ho;rw[hg,u8] at hg';subst hg';rcases h3 j hj with h | h
 ·exact absurd (key i i o (zz7 _) ho hon j h) hnj
 ·exact h
def jJ(listed:Array Bool)(n:Nat):List Nat:=(List.range n).filter fun i => !listed.getD i true
def pF(gs:List aE)(listed:Array Bool)(n:Nat):List aE:=(jJ listed n).map fun i=>gs.getD i default
theorem PS{i n:Nat}(h:i<n):List.range n=List.range i++i::(List.range (n-(i+1))).map (i+1 + ·):=by
 conv=>lhs;rw[show n=(i+1)+(n-(i+1)) by omega,List.range_add]
 rw[List.range_succ];simp
theorem apa{listed:Array Bool}{i n:Nat}(h:i<n)(hs:listed.size=n)(hu:listed.getD i true=false):∃ l1 l2,jJ listed n=l1++i::l2∧jJ (listed.setIfInBounds i true) n=l1++l2∧∀ j∈l1,j<i∧listed.getD j true=false:=by
 have same:∀ j,j≠i→(listed.setIfInBounds i true).getD j true=listed.getD j true:=fun j hj=>getD_set_ne true (Ne.symm hj);have hit:(listed.setIfInBounds i true).getD i true=true:=by simp[hs,h]
 refine ⟨(List.range i).filter fun j => !listed.getD j true,((List.range (n-(i+1))).map (i+1 + ·)).filter fun j => !listed.getD j true,?_,?_,?_⟩
 ·simp only[jJ];rw[PS h,List.filter_append,zx8];simp only[hu,Bool.not_false,if_true]
 ·simp only[jJ];rw[PS h,List.filter_append,zx8];simp only[hit,Bool.not_true,zz6,if_false]
  congr 1
  ·refine List.filter_congr fun j hj =>?_;rw[same j (by have:=zw4.1 hj;omega)]
  ·refine List.filter_congr fun j hj =>?_;obtain ⟨k,_,rfl⟩:=zw1.1 hj;rw[same _ (by omega)]
 ·intro j hj;simp only[zu8,zw4,Bool.not_eq_true'] at hj;exact hj
theorem PY{n:Nat} : jJ (Array.replicate n false) n=List.range n:=by
 simp only[jJ];refine List.filter_eq_self.2 fun i hi =>?_;have:=zw4.1 hi;simp[this]
theorem amO(gs:List aE):((List.range gs.length).map fun i=>gs.getD i default)=gs:=by
 apply List.ext_getElem
 ·simp
 ·intro i h1 h2;simp[zz0,h2]
section
variable {c:c6}
theorem nX{P:Program}{n:Nat}{b8:Array Oper} : ∀ {l:List Oper} {gs:List aE},lA P n b8 l=some gs→gs.length=l.length∧∀ (i:Nat) (o:Oper),l[i]?=some o→∃ g,gs[i]?=some g∧qi P n b8 o=some g
 | [],gs,h=>by simp only[lA,u8] at h;subst h;exact ⟨rfl,fun i o ho=>by simp at ho⟩
 |o::l,gs,h=>by
  simp only[lA] at h;split at h
  case h_2=>cases h
  rename_i g gs' hg hgs;simp only[u8] at h;subst h;obtain ⟨h1,h2⟩:=nX (l:=l) hgs;refine ⟨by simp[h1],fun i o' ho =>?_⟩;cases i with
  |zero=>simp only[List.getElem?_cons_zero,u8] at ho;subst ho;exact ⟨g,rfl,hg⟩
  |succ i=>simpa using h2 i o' (by simpa using ho)
theorem akT{K:af→Prop}{b8:Array Oper}{Q:Exit→Act→World→Prop}{o:Oper}{g:aE}{rest:List aE}{A:af}{a:Act}{w:World}{Kw:Act→World→Prop}(hg:qi c.P c.n b8 o=some g)(hwp:bn c.P c.Y true K (aF (g::rest) A))(hs:cD c A a w)
  (hK:∀ B a' w',bn c.P c.Y true K (aF rest B)→cD c B a' w'→Kw a' w'):if Region.wanted o (yielded b8 a.tmps) then o.wpIn c.bB 9 c.P a w Kw Q else (∀ f,o.about c.P w a.eval=some f→c.bB.fn f)∧Kw (a.put o.dst undef) w:=by
 obtain ⟨h1,h2,h3,h4⟩:=wA hg;have step:bn c.P c.Y true K (bA A g.dst g.op rest (aF rest))→o.wpIn c.bB 9 c.P a w Kw Q:=fun h =>
  yk h1 h2.symm (by rw[h2];exact h3) h hs (fun B a' w' hw hs'=>hK B a' w' hw hs')
 simp only[aF] at hwp;rcases h4 with ⟨h5,h6⟩ | ⟨j,b,t,h5,h6,h7⟩
 ·rw[h6] at hwp;have hw:Region.wanted o (yielded b8 a.tmps)=true:=by simp[Region.wanted,h5]
  rw[hw,if_pos rfl];exact step hwp
 ·rw[h7] at hwp;simp only at hwp;split at hwp
  ·rename_i b' hb';rw[yu hs h5 h6 hb'];split at hwp
   ·rename_i hbb;subst hbb;simp only[BEq.rfl,if_true];exact step hwp
   ·rename_i hbb;have:(b'==b)=false:=by simpa using hbb
    rw[this];simp only[zz6,if_false];exact ⟨fun f _=>pd c f,hK _ _ _ hwp (by rw[h2];exact hs.qV h3)⟩
  ·rename_i hb';rw[yw hs h5 h6 hb'];simp only[zz6,if_false];exact ⟨fun f _=>pd c f,hK _ _ _ hwp (by rw[h2];exact hs.qV h3)⟩
  ·cases hwp
theorem SV{K:af→Prop}{b8:Array Oper}{gs:List aE}{Q:Exit→Act→World→Prop}(hQ:∀ B a w,K B→cD c B a w→Q .normal a w)(hgs:lA c.P c.n b8 b8.toList=some gs)(hd:vI b8.toList gs) :
  ∀ (fuel:Nat) (listed:Array Bool) (A:af) (a:Act) (w:World),listed.size=b8.size→(∀ i o,b8.toList[i]?=some o→listed.getD i false=true→∀ k∈eV o,listed.getD k false=true)→(jJ listed b8.size).length≤fuel →
   bn c.P c.Y true K (aF (pF gs listed b8.size) A)→cD c A a w→wpAnyIn c.bB 9 c.P .any b8 Q fuel listed a w:=by
 obtain ⟨hlen,hat⟩:=nX hgs;have onOf_mem:∀ (o:Oper) (e:Edge),e∈o.after→Region.binds .any e=true→e.on∈eV o:=fun o e he hb=>by
  simp only[eV,zw1,zu8];exact ⟨e,⟨by simpa using he,hb⟩,rfl⟩
 have of_onOf:∀ (o:Oper) (k:Nat),k∈eV o→∃ e∈o.after,Region.binds .any e=true∧e.on=k:=fun o k hk=>by
  simp only[eV,zw1,zu8] at hk;obtain ⟨e,⟨h1,h2⟩,h3⟩:=hk;exact ⟨e,by simpa using h1,h2,h3⟩
 have last:∀ (listed:Array Bool) (A:af) (a:Act) (w:World),listed.size=b8.size→Region.ready .any b8 listed=[]→bn c.P c.Y true K (aF (pF gs listed b8.size) A)→cD c A a w→Q .normal a w:=by
  intro listed A a w hsz hr hwp hs;have hnone:jJ listed b8.size=[]:=by
   have all:∀ n,∀ i,i<n→i<b8.size→listed.getD i true=true:=by
    intro n
    induction n with
    |zero=>intro i hi;omega
    |succ n ih =>
     intro i hi his;cases hb:listed.getD i true with
     |true=>rfl
     |false =>
      exfalso
      have ho:b8[i]?=some b8[i]:=Array.getElem?_eq_getElem his;have:i∈Region.ready .any b8 listed:=mem_ready.2 ⟨hb,b8[i],ho,fun e he hbd=>by
       have hlt:=hd.qe i b8[i] (by simp) e.on (onOf_mem _ e he hbd);have h1:=ih e.on (by omega) (by omega);have h2:e.on<listed.size:=by omega
       simpa[Array.getD_eq_getD_getElem?,h2] using h1⟩
      rw[hr] at this;cases this
   simp only[jJ];refine List.filter_eq_nil_iff.2 fun i hi =>?_;have:=all (i+1) i (by omega) (zw4.1 hi);simp only[this,Bool.not_true,zz6,not_false_eq_true]
  simp only[pF,hnone,zx1,aF] at hwp;cases hwp with
  |done hk=>exact hQ A a w hk hs
 intro fuel
 induction fuel with
 |zero =>
  intro listed A a w hsz hcl hcnt hwp hs;have hnone:jJ listed b8.size=[]:=zv9.1 (by omega);have hr:Region.ready .any b8 listed=[]:=by
   refine List.eq_nil_iff_forall_not_mem.2 fun i hi =>?_;obtain ⟨h1,o,ho,_⟩:=mem_ready.1 hi;have:i∈jJ listed b8.size:=by
    simp only[jJ,zu8,zw4,h1,Bool.not_false,and_true];exact (zx9.1 ho).1
   rw[hnone] at this;cases this
  exact ⟨hr,last listed A a w hsz hr hwp hs⟩
 |succ fuel ih =>
  intro listed A a w hsz hcl hcnt hwp hs;refine ⟨fun hr=>last listed A a w hsz hr hwp hs,fun i hi =>?_⟩;obtain ⟨hun,o,ho,hall⟩:=mem_ready.1 hi;have hin:i<b8.size:=(zx9.1 ho).1;obtain ⟨l1,l2,e1,e2,hl1⟩:=apa hin hsz hun;have hol:b8.toList[i]?=some o:=by simpa using ho
  obtain ⟨g,hgi,hcg⟩:=hat i o hol;have hon:∀ k∈eV o,listed.getD k false=true:=fun k hk=>by
   obtain ⟨e,h1,h2,h3⟩:=of_onOf o k hk;exact h3▸hall e h1 h2
  have hgd:gs.getD i default=g:=by simp[zz0,hgi]
  have hwp':bn c.P c.Y true K (aF (g::pF gs (listed.setIfInBounds i true) b8.size) A):=by
   simp only[pF,e1,zx4,zy2,hgd] at hwp;simp only[pF,e2,zx4];refine bn.rK (fun j hj =>?_) hwp;obtain ⟨k,hk,rfl⟩:=zw1.1 hj;obtain ⟨hk1,hk2⟩:=hl1 k hk;refine hd.yE (fun k=>listed.getD k false=true) hcl i o g k hol hgi hon hk1 ?_;have hks:k<listed.size:=by omega
   simp[Array.getD_eq_getD_getElem?,hks] at hk2 ⊢;exact hk2
  unfold wpOpIn;rw[ho];refine akT hcg hwp' hs fun B a' w' hw hs'=>ih _ B a' w' (by simpa using hsz) ?_ ?_ hw hs'
  ·intro m om hom hm k hk;by_cases hmi:m=i
   ·subst hmi;rw[hol,u8] at hom;subst hom;exact getD_set_true (hon k hk)
   ·rw[getD_set_ne false (Ne.symm hmi)] at hm;exact getD_set_true (hcl m om hom hm k hk)
  ·have:(jJ listed b8.size).length=(jJ (listed.setIfInBounds i true) b8.size).length+1:=by
    rw[e1,e2];simp;omega
   omega
theorem ao9{K:af→Prop}{b8:Array Oper}{gs:List aE}{Q:Exit→Act→World→Prop}{id:Nat}{A:af}{a:Act}{w:World}(hm:c.P.follows .mixedOrders=true)(hQ:∀ B a w,K B→cD c B a w→Q .normal a w)(hgs:lA c.P c.n b8 b8.toList=some gs)(hd:vI b8.toList gs)
  (hwp:bn c.P c.Y true K (aF gs A)) (hs:cD c A a w):(Code.region id b8 true).wpIn c.bB 9 c.P Q a w:=by
 refine wpIn_region_any hm (SV hQ hgs hd b8.size (Array.replicate b8.size false) A a _ (by simp) ?_ ?_ ?_ ?_)
 ·intro i o _ h
  exfalso
  simp only[Array.getD_eq_getD_getElem?,Array.getElem?_replicate] at h;split at h <;>simp at h
 ·rw[PY];simp
 ·have hl:=(nX hgs).1;simp only[zv2] at hl;simp only[pF,PY];rw[←hl,amO];exact hwp
 ·obtain ⟨D,E,hs⟩:=hs;exact ⟨D,E,hs.grow (w' := { w with drawn:=w.drawn+1 }) ⟨rfl,rfl,rfl,zz7 _,fun _ _=>rfl⟩ (fun _ _ h=>h) (fun _ _ h _=>h) (fun b o h=>hs.dy b o h)⟩
end
inductive aR where
 |bX (on:Option (List (List Nat))) (gs:List aE)
 |seq (x y:aR)
 |cond (b:aM) (x y:aR)
 |block (id:Nat) (x:aR)
 |loop (x:aR)
 |exit (id:Nat)
 |ret
 |skip
 |scope (x:aR)
 |label
 |l6
 |kF (f:aM) (ps:List Nat) (x y:aR)
 deriving Inhabited
def fF(P:Program)(n:Nat):Code→Option aR
 | .region _ b8 draw=>match lA P n b8 b8.toList with
  |some gs=>if (!draw||P.follows .mixedOrders)=true then some (.bX (bif draw then some (b8.toList.map eV) else none) gs) else none
  |none=>some .l6
 | .seq x y=>match fF P n x,fF P n y with
  |some x,some y=>some (.seq x y)
  |_,_=>none
 | .cond b x y=>match bM P 0 b,fF P n x,fF P n y with
  |some b,some x,some y=>some (.cond b x y)
  |_,_,_=>none
 | .block id x=>match fF P n x with
  |some x=>some (.block id x)
  |none=>none
 | .loop x=>match fF P n x with
  |some x=>some (.loop x)
  |none=>none
 | .exit id=>some (.exit id)
 | .ret=>some .ret
 | .skip=>some .skip
 | .scope x=>match fF P n x with
  |some x=>some (.scope x)
  |none=>none
 | .label _=>some .label
 | .rangeFunc f ps x y=>match bM P 0 f,fF P n x,fF P n y with
  |some f,some x,some y=>if (ps.toList.all fun p=>p<n)=true then some (.kF f ps.toList x y) else none
  |_,_,_=>none
 |_=>none
def Mn(c:c6)(Q:Exit→af→Prop):Exit→Act→World→Prop:=fun e a w=>∃ A,Q e A∧cD c A a w
def U(c:c6)(x:aR)(Q:Exit→af→Prop)(A:af):Prop :=
 ∀ code,fF c.P c.n code=some x→∀ a w,cD c A a w→code.wpIn c.bB 9 c.P (Mn c Q) a w
def au(k:af→Prop)(Q:Exit→af→Prop):Exit→af→Prop
 | .normal,A=>k A
 |e,A=>Q e A
def bP(id:Nat)(Q:Exit→af→Prop):Exit→af→Prop
 | .exit id',A=>if id'=id then Q .normal A else Q (.exit id') A
 |e,A=>Q e A
section
variable {c:c6} {A:af} {Q:Exit→af→Prop}
def abb(d:Option (List (List Nat)))(gs:List aE)(cl:List Nat):Bool:=match d with
 |none=>true
 |some on=>tC on gs cl
theorem U.bX{d:Option (List (List Nat))}{gs:List aE}{cl:List Nat}(hd:abb d gs cl=true)(h:∀ K:af→Prop,(∀ B,Q .normal B→K B)→bn c.P c.Y d.isSome K (aF gs A)):U c (.bX d gs) Q A:=by
 intro code hc a w hs;cases code <;>simp only[fF] at hc <;>try (first | (cases hc;done) | ((repeat' split at hc) <;>cases hc;done))
 rename_i id b8 draw;split at hc
 ·rename_i gs' hgs;split at hc
  case isFalse=>cases hc
  rename_i hok;simp only[u8,aR.bX.injEq] at hc;obtain ⟨rfl,rfl⟩:=hc;cases draw with
  |false=>exact wpIn_region_list (ue (K:=Q .normal) (fun B a w hk hs=>⟨B,hk,hs⟩) b8.toList gs' A a w hgs (h _ fun _ hb=>hb) hs)
  |true =>
   simp only[Bool.not_true,Bool.false_or] at hok;exact ao9 (K:=Q .normal) hok (fun B a w hk hs=>⟨B,hk,hs⟩) hgs (abv (nX hgs).1 hd) (h _ fun _ hb=>hb) hs
 ·cases hc
theorem U.seq{x y:aR}(h:U c x (au (fun B=>U c y Q B) Q) A):U c (.seq x y) Q A:=by
 intro code hc a w hs;cases code <;>simp only[fF] at hc <;>try (first | (cases hc;done) | ((repeat' split at hc) <;>cases hc;done))
 rename_i cx cy;split at hc
 ·rename_i x' y' hx hy;simp only[u8,aR.seq.injEq] at hc;obtain ⟨rfl,rfl⟩:=hc;refine wpIn_seq (wpIn_mono (h cx hx a w hs) ?_);rintro e a' w' ⟨B,hq,hs'⟩;cases e <;>simp only[au,Exit.then] at * <;>first | exact hq cy hy a' w' hs' | exact ⟨B,hq,hs'⟩
 ·cases hc
theorem U.cond{b:aM}{x y:aR}{t:Bool}(hb:ae A b=.bool t)(h1:t=true→U c x Q A)(h2:t=false→U c y Q A):U c (.cond b x y) Q A:=by
 intro code hc a w hs;cases code <;>simp only[fF] at hc <;>try (first | (cases hc;done) | ((repeat' split at hc) <;>cases hc;done))
 rename_i cb cx cy;split at hc
 ·rename_i b' x' y' hb' hx hy;simp only[u8,aR.cond.injEq] at hc;obtain ⟨rfl,rfl,rfl⟩:=hc;obtain ⟨D,E,hs'⟩:=hs;have hv:=cv hs' hb';rw[hb] at hv;exact wpIn_cond_split (mQ hv) (fun ht=>h1 ht cx hx a w ⟨D,E,hs'⟩) (fun ht=>h2 ht cy hy a w ⟨D,E,hs'⟩)
 ·cases hc
theorem U.block{id:Nat}{x:aR}(h:U c x (bP id Q) A):U c (.block id x) Q A:=by
 intro code hc a w hs;cases code <;>simp only[fF] at hc <;>try (first | (cases hc;done) | ((repeat' split at hc) <;>cases hc;done))
 rename_i id' cx;split at hc
 ·rename_i x' hx;simp only[u8,aR.block.injEq] at hc;obtain ⟨rfl,rfl⟩:=hc;refine wpIn_block (wpIn_mono (h cx hx a w hs) ?_);rintro e a' w' ⟨B,hq,hs'⟩;cases e <;>simp only[bP,Exit.inBlock] at * <;>first
   |exact ⟨B,hq,hs'⟩
   |(split at hq
     ·rename_i he;rw[if_pos he];exact ⟨B,hq,hs'⟩
     ·rename_i he;rw[if_neg he];exact ⟨B,hq,hs'⟩)
 ·cases hc
theorem U.exit{id:Nat}(h:Q (.exit id) A):U c (.exit id) Q A:=by
 intro code hc a w hs;cases code <;>simp only[fF] at hc <;>try (first | (cases hc;done) | ((repeat' split at hc) <;>cases hc;done))
 simp only[u8,aR.exit.injEq] at hc;subst hc;exact wpIn_exit ⟨A,h,hs⟩
theorem U.ret(h:Q .ret A):U c .ret Q A:=by
 intro code hc a w hs;cases code <;>simp only[fF] at hc <;>try (first | (cases hc;done) | ((repeat' split at hc) <;>cases hc;done))
 exact wpIn_ret ⟨A,h,hs⟩
theorem U.skip(h:Q .normal A):U c .skip Q A:=by
 intro code hc a w hs;cases code <;>simp only[fF] at hc <;>try (first | (cases hc;done) | ((repeat' split at hc) <;>cases hc;done))
 exact wpIn_skip ⟨A,h,hs⟩
theorem Fa{p:Nat→Prop}(h:∃ n,p n):∃ n,p n∧∀ m,p m→n≤m:=by
 obtain ⟨n,hn⟩:=h
 induction n using Nat.strongRecOn with
 |_ n ih =>
  by_cases hm:∃ m,m<n∧p m
  ·obtain ⟨m,h1,h2⟩:=hm;exact ih m h1 h2
  ·exact ⟨n,hn,fun m hp=>Nat.le_of_not_lt fun hlt=>hm ⟨m,hlt,hp⟩⟩
open Classical in
noncomputable def least(p:Nat→Prop):Nat:=if h:∃ n,p n then (Fa h).choose else 0
theorem Mh{p:Nat→Prop}(h:∃ n,p n):p (least p)∧∀ m,p m→least p≤m:=by
 simp only[least,dif_pos h];exact (Fa h).choose_spec
theorem aqx{bB:Fence}{N:Nat}{P:Program}{code:Code}{QQ:Exit→Act→World→Prop}(aj:Nat→Act→World→Prop)(round:∀ n a w,aj n a w→code.wpIn bB N P (Exit.then (fun a' w'=>∃ m,m<n∧aj m a' w') QQ) a w) :
  ∀ n a w,aj n a w→(Code.loop code).wpIn bB N P QQ a w:=by
 intro n a w h;refine wpIn_loop (fun a w=>∃ n,aj n a w) (fun a w=>least fun n=>aj n a w) ⟨n,h⟩ ?_;intro a w hI;have hm:=(Mh hI).1;refine wpIn_mono (round _ a w hm) ?_;intro e a' w' hq;cases e <;>simp only[Exit.then] at hq ⊢ <;>try exact hq
 obtain ⟨m,h1,h2⟩:=hq;exact ⟨⟨m,h2⟩,Nat.lt_of_le_of_lt ((Mh ⟨m,h2⟩).2 m h2) h1⟩
def aB(A B:af):Prop:=∀ (c:c6) (a:Act) (w:World),cD c A a w→cD c B a w
theorem aB.refl(A:af):aB A A:=fun _ _ _ h=>h
theorem aB.trans{A B C:af}(h:aB A B)(k:aB B C):aB A C:=fun c a w hs=>k c a w (h c a w hs)
theorem U.sub{x:aR}{B:af}(hsub:aB A B)(h:U c x Q B):U c x Q A:=fun code hc a w hs=>h code hc a w (hsub c a w hs)
theorem U.mono{x:aR}{Q':Exit→af→Prop}(h:U c x Q A)(hq:∀ e B,Q e B→Q' e B):U c x Q' A :=
 fun code hc a w hs=>wpIn_mono (h code hc a w hs) fun e a' w' ⟨B,h1,h2⟩=>⟨B,hq e B h1,h2⟩
theorem U.loop{σ:Type}(S:σ→af)(C:σ→Prop)(m:σ→Nat)(s0:σ){x:aR}(h0:C s0)(hsub:aB A (S s0))
  (round:∀ s,C s→U c x (au (fun B=>∃ s',C s'∧m s'<m s∧aB B (S s')) Q) (S s)):U c (.loop x) Q A:=by
 intro code hc a w hs;cases code <;>simp only[fF] at hc <;>try (first | (cases hc;done) | ((repeat' split at hc) <;>cases hc;done))
 rename_i cx;split at hc
 ·rename_i x' hx;simp only[u8,aR.loop.injEq] at hc;subst hc;refine aqx (fun n a w=>∃ s,C s∧m s=n∧cD c (S s) a w) ?_ (m s0) a w ⟨s0,h0,rfl,hsub c a w hs⟩;rintro n a w ⟨s,hC,rfl,hs⟩;refine wpIn_mono (round s hC cx hx a w hs) ?_;rintro e a' w' ⟨B,hq,hs'⟩;cases e <;>simp only[au,Exit.then] at * <;>first
   |exact ⟨B,hq,hs'⟩
   |(obtain ⟨s',h1,h2,h3⟩:=hq;exact ⟨m s',h2,s',h1,rfl,h3 c a' w' hs'⟩)
 ·cases hc
end
inductive bj where
 |tmp (t:Nat)
 |cell (a:Nat) (s:Option Nat)
def jx(P:Program):List ResultVar→Option (List bj)
 | []=>some []
 | .tmp t::l=>(jx P l).map (.tmp t :: ·)
 | .cell a t::l=>match gv P t,jx P l with
  |some s,some l=>some (.cell a s::l)
  |_,_=>none
def vk(A:af):bj→Option I
 | .tmp t=>bC true A (A.t t)
 | .cell a s=>match cH A (A.t a) with
  |some x=>if cj s x then bC true A x else none
  |none=>none
def fA(A:af):List bj→Option (List I)
 | []=>some []
 |r::rs=>match vk A r,fA A rs with
  |some x,some xs=>some (x::xs)
  |_,_=>none
def lO:List I→I
 | [x]=>x
 |xs=>.tuple xs
def pV(args:List I):af:=⟨fun t=>args.getD t .undef,fun _=>none⟩
def kc(rs:List bj)(r:I):Exit→af→Prop
 | .ret,A=>∃ xs,fA A rs=some xs∧lO xs=r
 | .normal,A=>∃ xs,fA A rs=some xs∧lO xs=r
 |_,_=>False
def rp(args:List I)(os:List (Nat×ah)):af:=⟨fun t=>args.getD t .undef,ao os⟩
theorem aqb{P:Program}{n:Nat}{w:World}{D:aW}{E:a8}{Y:Value→List I→List (Nat×ah)→cO→Prop}{args:List I}{os:List (Nat×ah)}{vs:List Value}(hD:∀ b o,D b o→b<w.heap.size)(ho:lX (fun _=>True) w D E (ao os))
  (hv:aK w D E args vs) (hn:vs.length≤n) (hos:∀ m,aq os m=true→n≤m∧1000000≤m) (hy:p7 ⟨P,w,D,n,dJ E,E,Y,none⟩) :
  a6 ⟨P,w,D,n,dJ E,E,Y,none⟩ (rp args os) { tmps:=vs.toArray++Array.replicate (n-vs.toArray.size) undef,defers:=[] } w D E:=by
 refine ⟨by simp;omega,⟨[],rfl,.nil,fun _ h=>by simp at h⟩,fun t =>?_,gp.refl _ _,fun _ _ h _=>h,hD,fun m =>?_,ho.da,fun m e h=>.inr ⟨e,h,.refl e⟩,fun m hm =>?_,fun _ _ h=>h,hy,.refl _ _⟩
 ·have key:∀ (args:List I) (vs:List Value) (t:Nat),aK w D E args vs→a7 w D E (args.getD t .undef) (vs.getD t undef):=by
   intro args
   induction args with
   |nil=>intro vs t h;simp only[aK] at h;subst h;simp[a7]
   |cons x xs ih =>
    intro vs t h;simp only[aK] at h;obtain ⟨v,rest,cs,rfl,h1,h2,h3⟩:=h;cases t with
    |zero=>simpa using nz h1 h2
    |succ t=>simpa using ih rest t h3
  have:=key args vs t hv;have e:(vs.toArray++Array.replicate (n-vs.toArray.size) undef).getD t undef=vs.getD t undef:=by
   simp only[Array.getD_eq_getD_getElem?,zz0];rcases Nat.lt_or_ge t vs.length with h | h
   ·rw[Array.getElem?_append_left (by simpa using h)];simp
   ·rw[Array.getElem?_append_right (by simpa using h),List.getElem?_eq_none h];simp only[Array.getElem?_replicate];split <;>rfl
  simp only[rp];rw[e];exact this
 ·have h:=ho.bQ m;simp only[rp];cases hx:ao os m with
  |none=>rw[hx] at h;exact h
  |some x =>
   rw[hx] at h;cases x with
   |box x =>
    obtain ⟨b,cs,T,k1,_,k3⟩:=h;exact ⟨b,cs,T,k1,.inr ⟨m,_,k1,rfl⟩,k3⟩
   |b9 T sz es =>
    obtain ⟨aG,k1,k2,k3⟩:=h;refine ⟨aG,k1,k2,?_⟩;cases aG with
    |none=>exact k3
    |some bc =>
     obtain ⟨b,cap⟩:=bc;obtain ⟨cs,pre,rest,_,k4⟩:=k3;exact ⟨cs,pre,rest,.inr ⟨m,_,k1,rfl⟩,k4⟩
   |c4 T xs =>
    obtain ⟨aG,k1,k2,k3⟩:=h;refine ⟨aG,k1,k2,?_⟩;cases aG with
    |none=>exact k3
    |some bc =>
     obtain ⟨b,cap⟩:=bc;obtain ⟨cs,rest,_,k4⟩:=k3;exact ⟨cs,rest,.inr ⟨m,_,k1,rfl⟩,k4⟩
   |dZ x =>
    obtain ⟨b,k1,_,k3⟩:=h;exact ⟨b,k1,.inr ⟨m,_,k1,rfl⟩,k3⟩
   |cE ks vs =>
    obtain ⟨b,es,ck,k1,_,k3⟩:=h;exact ⟨b,es,ck,k1,.inr ⟨m,_,k1,rfl⟩,k3⟩
   |it ks vs left cur =>
    obtain ⟨r,b,es,ck,si,se,la,k1,_,k3⟩:=h;exact ⟨r,b,es,ck,si,se,la,k1,.inr ⟨m,_,k1,rfl⟩,k3⟩
 ·have h:=ho.bQ m;refine hos m ?_;cases hx:ao os m with
  |none=>rw[hx] at h;exact absurd h hm
  |some x=>simp[aq,hx]
def sH(tmps:Array Value):ResultVar→Sem Value
 | .tmp t=>pure (tmps.getD t undef)
 | .cell a t=>do loadVar t (←asAddr (tmps.getD a undef))
theorem apl(fn:Func)(tmps:Array Value):results fn tmps=(do
  let vs ←fn.results.mapM (sH tmps)
  pure (if h:vs.size=1 then vs[0] else .tuple vs)):=by
 unfold results;rfl
def vb(A:af):bj→Option I
 | .tmp t=>some (A.t t)
 | .cell a s=>match cH A (A.t a) with
  |some x=>if cj s x then some x else none
  |none=>none
def nI(A A0:af)(os:List (Nat×ah)):List bj→List I→Prop
 | [],[]=>True
 |r::rs,y::ys=>(∃ x,vb A r=some x∧((y=x∧x.cq=true∧x.only (aq os)=true)∨bC true A0 x=some y))∧nI A A0 os rs ys
 |_,_=>False
def af.lR(A:af)(os:List (Nat×ah)):af:=⟨A.t,fun n=>if aq os n then none else A.o n⟩
def lY(rs:List bj)(post:cO)(A:af):Prop :=
 ∃ (os:List (Nat×ah)) (xs:List I),(∀ n x,ao os n=some x→A.o n=some x∧x.only (aq os)=true∧x.eZ=true)∧nI A (A.lR os) os rs xs∧post (lO xs) os
def oM(rs:List bj)(post:cO):Exit→af→Prop
 | .ret,A=>lY rs post A
 | .normal,A=>lY rs post A
 |_,_=>False
theorem z8{c:c6}{A:af}{a:Act}{w:World}{D:aW}{E:a8}(hs:a6 c A a w D E){A0:af}(hu:eI A0 A){os:List (Nat×ah)}{D':aW}{E':a8}(hw:iZ true A0 D E D')(az:∀ n,aq os n=true→E' n=E n)(hE':∀ n,aq os n=false→E' n=none) :
  ∀ (rs:List ResultVar) (ls:List bj) (xs:List I),jx c.P rs=some ls→nI A A0 os ls xs→∃ vs:List Value,(rs.mapM (sH a.tmps)).run c.P w=.ok vs w∧aK w D' E' xs vs
 | [],ls,xs,hc,hr=>by
  simp only[jx,u8] at hc;subst hc;cases xs with
  |nil=>exact ⟨[],by simp,by simp[aK]⟩
  |cons x xs=>simp[nI] at hr
 |r::rs,ls,xs,hc,hr=>by
  have hl:ec w D E' w D' E':=⟨hw.dh,fun _ _ _ _ h=>h,fun _ _ _ h=>h,fun _ aG l h=>⟨aG,l,h,zz7 _,fun _=>rfl⟩,fun _ _ h=>h,fun _ _ h=>h,fun _ _ _ _ h=>h⟩
  have fin1:∀ {x y:I} {v:Value},a7 w D E x v→((y=x∧x.cq=true∧x.only (aq os)=true)∨bC true A0 x=some y)→∃ cs,bN y v cs∧ai w D' E' y cs:=by
   intro x y v hv hf;rcases hf with ⟨rfl,h1,h2⟩ | hf
   ·have h3:=a7.bO hl (a7.dM az h2 hv);cases y <;>simp only[a7] at h3 <;>first | (simp[I.cq] at h1;done) | exact h3
   ·have h1:aK w D E [x] [v]:=nL [x] [v] (.cons hv .nil) (by
     intro z hz;simp only[zu6] at hz;subst hz;cases z <;>simp_all[bC,I.cq])
    have h2:=nq (E':=E') hs hu hw [x] [y] [v] h1 (by simp[cn,hf]);simp only[aK] at h2;obtain ⟨v',rest,cs,e,k1,k2,_⟩:=h2;simp only[List.cons.injEq] at e;obtain ⟨rfl,_⟩:=e;exact ⟨cs,k1,k2⟩
  cases r with
  |tmp t =>
   simp only[jx,zz1] at hc;obtain ⟨ls',hl',rfl⟩:=hc;cases xs with
   |nil=>simp[nI] at hr
   |cons y ys =>
    simp only[nI] at hr;obtain ⟨⟨x,h1,h2⟩,h3⟩:=hr;simp only[vb,u8] at h1;subst h1;obtain ⟨vs,k1,k2⟩:=z8 hs hu hw az hE' rs ls' ys hl' h3;obtain ⟨cs,k3,k4⟩:=fin1 (hs.eH t) h2;refine ⟨a.tmps.getD t undef::vs,?_,?_⟩
    ·simp only[List.mapM_cons,Sem.run_bind,sH,Sem.run_pure,Result.andThen_ok,k1]
    ·simp only[aK];exact ⟨_,vs,cs,rfl,k3,k4,k2⟩
  |cell ad t =>
   simp only[jx] at hc;split at hc
   ·rename_i s ls' hk hl';simp only[u8] at hc;subst hc;cases xs with
    |nil=>simp[nI] at hr
    |cons y ys =>
     simp only[nI] at hr;obtain ⟨⟨x,h1,h2⟩,h3⟩:=hr;obtain ⟨vs,k1,k2⟩:=z8 hs hu hw az hE' rs ls' ys hl' h3;simp only[vb] at h1;split at h1
     ·rename_i z hz;split at h1
      ·rename_i hok;simp only[u8] at h1;subst h1;obtain ⟨b,off,cs,q1,q2,q3⟩:=hs.BM (hs.eH ad) hz;obtain ⟨v,q4,q5⟩:=Qg hk hok q2 q3;obtain ⟨cs',k3,k4⟩:=fin1 q5 h2;refine ⟨v::vs,?_,?_⟩
       ·have e:(sH a.tmps (.cell ad t)).run c.P w=.ok v w:=by
         simp only[sH,Sem.run_bind,q1,asAddr,Sem.run_pure,Result.andThen_ok,q4]
        simp only[List.mapM_cons,Sem.run_bind,Sem.run_pure,Result.andThen_ok,k1,e]
       ·simp only[aK];exact ⟨_,vs,cs',rfl,k3,k4,k2⟩
      ·cases h1
     ·cases h1
   ·cases hc
theorem a6.XZ{c:c6}{A:af}{a:Act}{w:World}{D:aW}{E:a8}(h:a6 c A a w D E){B:Nat}{ds:List Deferred}(hd:a.defers = { target:=.collected B,args := #[] } :: ds) :
  w.heap[B]?=some (.deferred (some []))∧a6 c A { a with defers:=ds } (w.putObj B (.deferred none)) D E:=by
 obtain ⟨Bs,h1,h2,h3⟩:=h.fj;rw[hd] at h1;cases Bs with
 |nil=>cases h1
 |cons B' Bs =>
  simp only[zy2,List.cons.injEq,Deferred.mk.injEq,Target.collected.injEq,and_true] at h1;obtain ⟨rfl,rfl⟩:=h1;have hB:=h3 B (by simp);have hlt:B<w.heap.size:=(zx9.1 hB.2).1;have hl:ec w D E (w.putObj B (.deferred none)) D E :=
   ⟨fun _ _ h=>h,fun b o v _ hv=>wK hB.2 rfl hv,fun _ _ _ h=>h,fun _ aG l h=>⟨aG,l,h,zz7 _,fun _=>rfl⟩,fun _ _ h=>h,fun _ _ h=>h,fun b es ck _ hm=>(World.putObj_heap_other (fun e=>by rw[e,hB.2] at hm;cases hm)).trans hm⟩
  have hne:∀ {b:Nat} {cs:Array Value} {T:TypeId},w.heap[b]?=some (.cells cs T (0,0))→(w.putObj B (.deferred none)).heap[b]?=w.heap[b]?:=fun {b cs T} hb =>
   World.putObj_heap_other (fun e=>by rw[e,hB.2] at hb;cases hb)
  refine ⟨hB.2,h.sz,⟨Bs,rfl,(List.nodup_cons.1 h2).2,fun B2 hB2=>⟨(h3 B2 (by simp[hB2])).1,?_⟩⟩,fun t=>a7.bO hl (h.eH t),h.eh.trans ⟨rfl,rfl,rfl,by simp,fun k hk =>?_⟩,h.dh,fun b o hd=>by have:=h.dy b o hd;simpa using this,fun n =>?_,h.da,h.en,h.fx,h.cV,h.fD,h.lU hl⟩
  ·rw[World.putObj_heap_other (fun e=>(List.nodup_cons.1 h2).1 (by rw[←e];exact hB2))];exact (h3 B2 (by simp[hB2])).2
  ·exact World.putObj_heap_other (fun e=>hk (e▸.inl hB.1))
  ·refine (h.bQ n).bO hl rfl fun e b he hb=>⟨?_,fun _ h=>h⟩
   have hob:=h.bQ n;unfold df at hob;split at hob
   ·rw[hob] at he;cases he
   ·obtain ⟨b',cs,T,k1,_,k3,_⟩:=hob;rw[k1,u8] at he;subst he;simp only[bZ.aG,u8] at hb;subst hb;exact hne k3
   ·obtain ⟨aG,k1,_,k3⟩:=hob;rw[k1,u8] at he;subst he;split at k3
    ·simp[bZ.aG] at hb
    ·obtain ⟨cs,pre,rest,_,k5,_⟩:=k3;simp only[bZ.aG,u8] at hb;subst hb;exact hne k5
   ·obtain ⟨b',k1,_,k3,k4,_⟩:=hob;rw[k1,u8] at he;subst he;simp only[bZ.aG,u8] at hb;subst hb;exact World.putObj_heap_other (fun e=>by rw[e,hB.2] at k3;cases k3;cases k4)
   ·obtain ⟨b',es,ck,k1,_,k3,_⟩:=hob;rw[k1,u8] at he;subst he;cases hb;exact World.putObj_heap_other (fun e=>by rw[e,hB.2] at k3;cases k3)
   ·obtain ⟨r,b',es,ck,si,se,la,k1,_,k3,_⟩:=hob;rw[k1,u8] at he;subst he;cases hb;exact World.putObj_heap_other (fun e=>by rw[e,hB.2] at k3;cases k3)
   ·obtain ⟨aG,k1,_,k3⟩:=hob;rw[k1,u8] at he;subst he;split at k3
    ·simp[bZ.aG] at hb
    ·obtain ⟨cs,m,_,k5,_⟩:=k3;simp only[bZ.aG,u8] at hb;subst hb;exact hne k5
def vW(w:World)(D:aW)(E:a8)(post:cO)(v:Value)(w':World):Prop :=
 ∃ D' E' r os',post r os'∧a7 w' D' E' r v∧lX (fun b=>w.heap.size≤b∨dJ E b) w' D' E' (ao os') ∧
  gp (fun b=>w.heap.size≤b∨dJ E b) w w'∧(∀ b o,D b o→D' b o)∧(∀ b o,D' b o→b<w'.heap.size)∧(∀ b o,D' b o→b<w.heap.size→¬ dJ E b→D b o) ∧
  (∀ n e,E n=some e→aq os' n=true→∃ e',E' n=some e'∧e.le e')∧iY w D w'
theorem a6.Mi{P:Program}{n:Nat}{w:World}{D:aW}{E:a8}{Y:Value→List I→List (Nat×ah)→cO→Prop}{lj:Option Nat}{A:af}{a:Act}{w':World}{D':aW}{E':a8}
  (hs:a6 ⟨P,w,D,n,dJ E,E,Y,lj⟩ A a w' D' E') {os:List (Nat×ah)} (h1:∀ n x,ao os n=some x→A.o n=some x∧x.only (aq os)=true∧x.eZ=true) :
  ∃ D2 E2,iZ true (A.lR os) D' E' D2∧(∀ n,aq os n=true→E2 n=E' n)∧(∀ n,aq os n=false→E2 n=none)∧lX (fun b=>w.heap.size≤b∨dJ E b) w' D2 E2 (ao os) ∧
   gp (fun b=>w.heap.size≤b∨dJ E b) w w'∧(∀ b o,D b o→D2 b o)∧(∀ b o,D2 b o→b<w'.heap.size)∧(∀ b o,D2 b o→b<w.heap.size→¬ dJ E b→D b o) ∧
   (∀ n e,E n=some e→aq os n=true→∃ e',E2 n=some e'∧e.le e')∧iY w D w':=by
 obtain ⟨c,hc⟩:∃ c:c6,c=⟨P,w,D,n,dJ E,E,Y,lj⟩:=⟨_,rfl⟩
 rw[←hc] at hs;have hM:c.fE=fun b=>w.heap.size≤b∨dJ E b:=by rw[hc];rfl
 obtain ⟨E2,hE2⟩:∃ E2:a8,E2=fun n=>if aq os n then E' n else none:=⟨_,rfl⟩
 obtain ⟨D2,hD2⟩:∃ D2:aW,D2=fun b o=>b<w'.heap.size∧(D' b o∨(¬ dJ E2 b∧c.fE b)):=⟨_,rfl⟩
 have e2:∀ n,aq os n=true→E2 n=E' n:=fun n hn=>by rw[hE2];simp only[hn,if_true]
 have cut:∀ n e,E2 n=some e→aq os n=true∧E' n=some e:=fun n e he=>by
  rw[hE2] at he;simp only at he;split at he
  ·exact ⟨by assumption,he⟩
  ·cases he
 have up2:∀ b o,D' b o→D2 b o:=fun b o hd=>by
  rw[hD2];exact ⟨hs.dy b o hd,.inl hd⟩
 have down:∀ b o,D2 b o→dJ E2 b→D' b o:=fun b o hd hb=>by
  rw[hD2] at hd;rcases hd.2 with h | h
  ·exact h
  ·exact absurd hb h.1
 have hu:eI (A.lR os) A:=fun n x hx=>by
  simp only[af.lR] at hx;split at hx
  ·cases hx
  ·exact hx
 have notOwn:∀ n e b,(A.lR os).o n≠none→E' n=some e→e.aG=some b→¬ dJ E2 b:=fun n e b hn he hb ho=>by
  obtain ⟨m,e',k1,k3⟩:=ho;obtain ⟨k1,k2⟩:=cut m e' k1;have:=hs.da n m e _ b he k2 hb k3;subst this;simp[af.lR,k1] at hn
 have hw:iZ true (A.lR os) D' E' D2:=by
  refine ⟨up2,fun n T sz es b cap hn az o _ =>?_,fun _ n x b aV hn az o _ =>?_,fun _ n ks vs b hn az =>?_⟩
  ·rw[hD2];refine ⟨hs.gF az rfl,.inr ⟨notOwn n _ b (by rw[hn];simp) az rfl,?_⟩⟩;obtain ⟨aG,k1,k2,k3⟩:=hs.b9 (hu n _ hn);rw[az] at k1;simp only[u8,bZ.rw.injEq,and_true] at k1;subst k1;obtain ⟨_,_,_,k4,_⟩:=k3;exact k4
  ·rw[hD2];refine ⟨hs.gF az rfl,.inr ⟨notOwn n _ b (by rw[hn];simp) az rfl,?_⟩⟩;obtain ⟨b',cs,T,k1,k2,_⟩:=hs.box (hu n _ hn);rw[k1] at az;simp only[u8,bZ.aC.injEq] at az;obtain ⟨rfl,_⟩:=az;exact k2
  ·rw[hD2];refine ⟨hs.gF az rfl,.inr ⟨notOwn n _ b (by rw[hn];simp) az rfl,?_⟩⟩;obtain ⟨b',es,ck,k1,k2,_⟩:=hs.map (hu n _ hn);rw[k1] at az;cases az;exact k2
 have hst:iY w D w':=by
  have:=hs.gl;rw[hc] at this;exact this
 refine ⟨D2,E2,hw,e2,fun n hn=>by rw[hE2];simp[hn],⟨fun m =>?_,fun m m' e e' b g1 g2 g3 g4 =>?_⟩,?_,fun b o hd=>up2 b o (hs.cV b o (by rw[hc];exact hd)),fun b o hd=>by rw[hD2] at hd;exact hd.1,fun b o hd hlt hno =>?_,fun m e hm hin =>?_,hst⟩
 ·cases hx:ao os m with
  |none=>simp only[df];rw[hE2];simp[aq,hx]
  |some x =>
   have hm:aq os m=true:=by simp[aq,hx]
   obtain ⟨k1,k2,k3⟩:=h1 m x hx;have ho:=hs.bQ m;rw[k1] at ho;have hl2:ec w' D' E2 w' D2 E2:=⟨up2,fun _ _ _ _ h=>h,fun _ _ _ h=>h,fun _ aG l h=>⟨aG,l,h,zz7 _,fun _=>rfl⟩,fun _ _ h=>h,fun _ _ h=>h,fun _ _ _ _ h=>h⟩
   have nD:∀ e b,E' m=some e→e.aG=some b→∀ o,D2 b o→D' b o:=fun e b he hb o hd=>down b o hd ⟨m,e,(e2 m hm).trans he,hb⟩;cases x with
   |b9 T sz es =>
    obtain ⟨aG,q1,q2,q3⟩:=ho;refine ⟨aG,(e2 m hm).trans q1,q2,?_⟩;cases aG with
    |none=>exact q3
    |some bc =>
     obtain ⟨b,cap⟩:=bc;obtain ⟨cs,pre,rest,g1,g2,g3,g4,g5,g6,g7,g8⟩:=q3;exact ⟨cs,pre,rest,by rw[←hM];exact g1,g2,g3,aL.bO hl2 _ _ (aL.dM e2 _ _ (by simpa[ah.only] using k2) g4),g5,g6,g7,fun o hd=>g8 o (nD _ b q1 rfl o hd)⟩
   |box y =>
    obtain ⟨b',cs,T,q1,q2,q3,q4,q5⟩:=ho;exact ⟨b',cs,T,(e2 m hm).trans q1,by rw[←hM];exact q2,q3,ai.bO hl2 _ _ (ai.dM e2 _ _ (by simpa[ah.only] using k2) q4),fun o hd=>q5 o (nD _ b' q1 rfl o hd)⟩
   |dZ o =>
    obtain ⟨b',q1,q2,q3,q4,q5⟩:=ho;exact ⟨b',(e2 m hm).trans q1,by rw[←hM];exact q2,q3,q4,fun o hd=>q5 o (nD _ b' q1 rfl o hd)⟩
   |cE ks vs =>
    obtain ⟨b',es,ck,q1,q2,q3,q4,q5,q6,q7⟩:=ho;simp only[ah.only,zz3] at k2;exact ⟨b',es,ck,(e2 m hm).trans q1,by rw[←hM];exact q2,q3,q4,aK.bO hl2 _ _ (aK.dM e2 _ _ k2.1 q5),aK.bO hl2 _ _ (aK.dM e2 _ _ k2.2 q6),fun o hd=>q7 o (nD _ b' q1 rfl o hd)⟩
   |it ks vs left cur=>cases k3
   |c4 T xs =>
    obtain ⟨aG,q1,q2,q3⟩:=ho;refine ⟨aG,(e2 m hm).trans q1,q2,?_⟩;cases aG with
    |none=>exact q3
    |some bc =>
     obtain ⟨b,cap⟩:=bc;obtain ⟨cs,r,g1,g2,g3,g4,g5,g6,g7⟩:=q3;exact ⟨cs,r,by rw[←hM];exact g1,g2,g3,g4,g5,g6,fun o hd=>g7 o (nD _ b q1 rfl o hd)⟩
 ·exact hs.da m m' e e' b (cut m e g1).2 (cut m' e' g2).2 g3 g4
 ·rw[←hM];have:=hs.eh;rw[hc] at this ⊢;exact this
 ·rw[hD2] at hd;have hnm:¬ c.fE b:=by
    rw[hM];rintro (h | h);· omega
    ·exact hno h
  rcases hd.2 with h | h
  ·have:=hs.dh b o h hnm;rw[hc] at this;exact this
  ·exact absurd h.2 hnm
 ·rw[e2 m hin];have ho:A.o m≠none:=by
   cases hx:ao os m with
   |none=>simp[aq,hx] at hin
   |some x=>rw[(h1 m x hx).1];simp
  rcases hs.en m e (by rw[hc];exact hm) with h | h
  ·have hob:=hs.bQ m;cases hx:A.o m with
   |none=>exact absurd hx ho
   |some x=>rw[hx] at hob;exact absurd h (uT hob)
  ·exact h
theorem a6.amv{P:Program}{n:Nat}{w:World}{D:aW}{E:a8}{Y:Value→List I→List (Nat×ah)→cO→Prop}{rs:List bj}{post:cO}{fn:Func}{A:af}{a:Act}{w':World}{D':aW}{E':a8}
  (hs:a6 ⟨P,w,D,n,dJ E,E,Y,none⟩ A a w' D' E') (hrs:jx P fn.results.toList=some rs) (h:lY rs post A):∃ v,(results fn a.tmps).run P w'=.ok v w'∧vW w D E post v w':=by
 obtain ⟨os,xs,h1,h2,h3⟩:=h;obtain ⟨D2,E2,hw,e2,e2n,q1,q2,q3,q4,q5,q6⟩:=hs.Mi h1;have hu:eI (A.lR os) A:=fun n x hx=>by
  simp only[af.lR] at hx;split at hx
  ·cases hx
  ·exact hx
 obtain ⟨vs,k1,k2⟩:=z8 hs hu (os:=os) (E':=E2) hw e2 e2n fn.results.toList rs xs hrs h2;have hres:(results fn a.tmps).run P w'=.ok (if h:vs.toArray.size=1 then vs.toArray[0] else .tuple vs.toArray) w':=by
  rw[apl,Sem.run_bind,Array.mapM_eq_mapM_toList,Sem.run_map,k1];rfl
 refine ⟨_,hres,D2,E2,lO xs,os,h3,?_,q1,q2,q3,q4,q5,q6⟩
 match xs,vs,k2 with
 | [x],vs,k2 =>
  simp only[aK] at k2;obtain ⟨v,rest,cs,rfl,q1,q2,rfl⟩:=k2;simpa[lO] using nz q1 q2
 | [],vs,k2 =>
  simp only[aK] at k2;subst k2;simp[lO,a7,aK]
 |x::y::xs,vs,k2 =>
  have hl:vs.length≠1:=by
   simp only[aK] at k2;obtain ⟨v,rest,cs,rfl,_,_,v2,rest2,cs2,rfl,_⟩:=k2;simp
  simp only[lO,a7];exact ⟨vs,by simp[hl],k2⟩
theorem Mj{P:Program}{n:Nat}{w:World}{D:aW}{E:a8}{Y:Value→List I→List (Nat×ah)→cO→Prop}{rs:List bj}{post:cO}{fn:Func}{A:af}{D':aW}{E':a8}(hrs:jx P fn.results.toList=some rs)(h:lY rs post A) :
  ∀ (ds:List Deferred) (a:Act) (w':World),a.defers=ds→a6 ⟨P,w,D,n,dJ E,E,Y,none⟩ A a w' D' E'→LeavesInM Fence.wide 9 P fn a.tmps (fun e w'=>∃ v,e=.returned v∧vW w D E post v w') ds .returning w'
 | [],a,w',_,hs=>by
  obtain ⟨v,h1,h2⟩:=hs.amv hrs h;exact ⟨v,h1,v,rfl,h2⟩
 |d::ds,a,w',hd,hs=>by
  obtain ⟨Bs,h1,_⟩:=hs.fj;rw[hd] at h1;cases Bs with
  |nil=>cases h1
  |cons B Bs =>
   simp only[zy2,List.cons.injEq] at h1;obtain ⟨rfl,rfl⟩:=h1;obtain ⟨k1,k2⟩:=hs.XZ hd;exact ⟨by simp,.inl ⟨B,_,rfl,run_takeDeferred k1,Mj hrs h _ { a with defers:=Bs.map _ } _ rfl k2⟩⟩
theorem Am{w:World}{D:aW}{E:a8} : ∀ {args:List I} {vs:List Value},aK w D E args vs→vs.length=args.length
 | [],vs,h=>by simp only[aK] at h;subst h;rfl
 |x::xs,vs,h=>by
  simp only[aK] at h;obtain ⟨v,rest,cs,rfl,_,_,h3⟩:=h;simp[Am h3]
def lx(P:Program)(f:FuncId)(Y:Value→List I→List (Nat×ah)→cO→Prop)(args:List I)(os:List (Nat×ah))(post:cO):Prop :=
 iC P f=true∧∀ (w:World) (D:aW) (E:a8) (vs:List Value),(∀ n,p7 ⟨P,w,D,n,dJ E,E,Y,none⟩)→(∀ b o,D b o→b<w.heap.size)→lX (fun _=>True) w D E (ao os)→aK w D E args vs →
  Calls P f vs.toArray w fun e w'=>∃ v,e=.returned v∧vW w D E post v w'
theorem lx.uU{P:Program}{f:FuncId}{fn:Func}{body:Code}{x:aR}{rs:List bj}{Y:Value→List I→List (Nat×ah)→cO→Prop}{args:List I}{os:List (Nat×ah)}{post:cO}(hf:P.funcs[f]?=some fn)(hb:fn.body=some body)(hcall:iC P f=true)(hc:fF P fn.ntmps body=some x)
  (hrs:jx P fn.results.toList=some rs) (hn:args.length≤fn.ntmps) (hos:∀ m,aq os m=true→fn.ntmps≤m∧1000000≤m) (h:∀ (w:World) (D:aW) (E:a8),U ⟨P,w,D,fn.ntmps,dJ E,E,Y,none⟩ x (oM rs post) (rp args os)):lx P f Y args os post:=by
 refine ⟨hcall,fun w D E vs hy hD ho hv =>?_⟩;have hlen:=Am hv;have hsim:=aqb (P:=P) (n:=fn.ntmps) (Y:=Y) hD ho hv (by omega) hos (hy fn.ntmps);refine (callsIn_wide (n:=9)).1 (callsIn_of_wp_marks hf hb trivial ?_);refine wpIn_mono (h w D E body hc _ w ⟨D,E,hsim⟩) ?_;rintro e a w' ⟨A,hq,D',E',hs⟩;cases e <;>simp only[oM] at hq <;>first
  |exact Mj hrs hq a.defers a w' rfl hs
  |cases hq
theorem aqE{P:Program}{w:World}{D:aW}{E:a8}{n:Nat} : p7 ⟨P,w,D,n,dJ E,E,jk,none⟩:=fun _ _ _ _ h=>h.elim
theorem cF.MX{P:Program}{f:FuncId}{args:List I}{os:List (Nat×ah)}{post:cO}(h:lx P f jk args os post):cF P f args os post :=
 ⟨h.1,fun w D E vs _ hD ho hv=>(h.2 w D E vs (fun _=>aqE) hD ho hv).mono fun e w' ⟨v,he,D',E',r,os',k⟩=>⟨v,D',E',r,os',he,k⟩⟩
theorem aA.an6{P:Program}{f:FuncId}{args:List I}{r:I}(h:cF P f args [] (fun r' os'=>r'=r∧os'=[])):aA P f args r:=by
 refine ⟨h.1,fun w D vs hD hv =>?_⟩;have hh:lX (fun _=>True) w D dV (ao []):=⟨fun n=>rfl,fun n m e e' b h=>by simp[dV] at h⟩
 refine (h.2 w D dV vs trivial hD hh hv).mono fun e w' hq =>?_;obtain ⟨v,D',E',r',os',he,⟨h1,h2⟩,k1,k2,k3,k4,k5,k6,_⟩:=hq;subst h1 h2;refine ⟨v,D',he,?_,?_,k5,fun b o hd hlt=>k6 b o hd hlt fun ⟨n,e,h,_⟩=>by simp[dV] at h⟩
 ·have:E'=dV:=by funext n;exact k2.bQ n
  rw[←this];exact k1
 ·exact k3.Tm fun k hk hm=>by
   rcases hm with hm | ⟨n,e,h,_⟩
   ·omega
   ·simp[dV] at h
theorem apB(A:af):A.lR []=A:=rfl
theorem P5{A:af} : ∀ {rs:List bj} {xs:List I},fA A rs=some xs→nI A (A.lR []) [] rs xs
 | [],xs,h=>by simp only[fA,u8] at h;subst h;trivial
 |r::rs,xs,h=>by
  simp only[fA] at h;split at h
  ·rename_i x xs' h1 h2;simp only[u8] at h;subst h;refine ⟨?_,P5 h2⟩;rw[apB];cases r with
   |tmp t=>exact ⟨_,rfl,.inr h1⟩
   |cell a s =>
    simp only[vk,vb] at h1 ⊢;split at h1
    ·rename_i y hy;split at h1
     ·rename_i hok;exact ⟨y,by simp[hok],.inr h1⟩
     ·cases h1
    ·cases h1
  ·cases h
theorem apm{rs:List bj}{r:I}{e:Exit}{A:af}(h:kc rs r e A):oM rs (fun r' os'=>r'=r∧os'=[]) e A:=by
 cases e <;>simp only[kc] at h <;>first
  |exact h.elim
  |(obtain ⟨xs,h1,h2⟩:=h
    exact ⟨[],xs,fun n x hx=>by simp[ao] at hx,P5 h1,h2,rfl⟩)
theorem aA.uU{P:Program}{f:FuncId}{fn:Func}{body:Code}{x:aR}{rs:List bj}{args:List I}{r:I}(hf:P.funcs[f]?=some fn)(hb:fn.body=some body)(hcall:iC P f=true)(hc:fF P fn.ntmps body=some x)
  (hrs:jx P fn.results.toList=some rs) (hn:args.length≤fn.ntmps) (h:∀ (w:World) (D:aW) (E:a8),U ⟨P,w,D,fn.ntmps,dJ E,E,jk,none⟩ x (kc rs r) (pV args)):aA P f args r:=by
 refine aA.an6 (cF.MX (lx.uU hf hb hcall hc hrs hn (fun m hm=>by simp[aq,ao] at hm) fun w D E =>?_));exact (h w D E).mono fun e B hq=>apm hq
end Go.Abs
namespace Go.Abs
open Go Go.RowKit
def aQ(ts:List (Nat×I)):List (Nat×I)→Prop
 | []=>True
 |(k,v)::r=>cm ts k=v∧aQ ts r
def bt(os:List (Nat×ah)):List (Nat×ah)→Prop
 | []=>True
 |(k,v)::r=>ao os k=some v∧bt os r
def br(p:Nat→Bool):List (Nat×I)→Prop
 | []=>True
 |(_,v)::r=>v.only p=true∧br p r
theorem Ay{ts:List (Nat×I)} : ∀ {ts':List (Nat×I)},aQ ts ts'→∀ k,cm ts' k=.dx∨cm ts' k=cm ts k
 | [],_,k=>.inl rfl
 |(j,v)::r,h,k=>by
  simp only[aQ] at h;simp only[cm];split
  ·rename_i hk;subst hk;exact .inr h.1.symm
  ·exact Ay h.2 k
theorem QR{os:List (Nat×ah)} : ∀ {os':List (Nat×ah)},bt os os'→∀ k,ao os' k=none∨ao os' k=ao os k
 | [],_,k=>.inl rfl
 |(j,v)::r,h,k=>by
  simp only[bt] at h;simp only[ao];split
  ·rename_i hk;subst hk;exact .inr h.1.symm
  ·exact QR h.2 k
theorem Nr{p:Nat→Bool} : ∀ {ts:List (Nat×I)},br p ts→∀ k,(cm ts k).only p=true
 | [],_,k=>by simp[cm,I.only]
 |(j,v)::r,h,k=>by
  simp only[br] at h;simp only[cm];split
  ·exact h.1
  ·exact Nr h.2 k
theorem Nq{p:Nat→Bool} : ∀ {os:List (Nat×ah)},aY p os→∀ k x,ao os k=some x→x.only p=true
 | [],_,k,x,hx=>by simp[ao] at hx
 |(j,v)::r,h,k,x,hx=>by
  simp only[aY] at h;simp only[ao] at hx;split at hx
  ·simp only[u8] at hx;subst hx;exact h.1
  ·exact Nq h.2 k x hx
theorem aB.bE{ts ts':List (Nat×I)}{os os':List (Nat×ah)}(h1:aQ ts ts')(h2:bt os os')(h3:br (aq os') ts')(h4:aY (aq os') os'):aB (aw ts os) (aw ts' os'):=by
 rintro c a w ⟨D,E,hs⟩;have hp:∀ n,aq os' n=true→(if aq os' n then E n else none)=E n:=fun n hn=>by simp[hn]
 refine ⟨D,fun n=>if aq os' n then E n else none,hs.sz,hs.fj,fun t =>?_,hs.eh,hs.dh,hs.dy,fun n =>?_,fun n m e e' b h1 h2 h3 h4 =>?_,fun n e hn =>?_,hs.fx,hs.cV,hs.fD,hs.gl⟩
 ·have:=Ay h1 t;rcases this with h | h
  ·simp only[aw];rw[h];simp[a7]
  ·refine a7.dM (p:=aq os') hp (Nr h3 t) ?_;have:=hs.eH t;simp only[aw] at *;rw[h];exact this
 ·have ho:=hs.bQ n;simp only[aw] at *;rcases QR h2 n with h | h
  ·rw[h];simp[df,aq,h]
  ·rw[h];by_cases hin:ao os n=none
   ·rw[hin];simp[df,aq,h,hin]
   ·have az:(if aq os' n then E n else none)=E n:=hp n (by simp[aq,h];cases hh:ao os n <;>simp_all);cases hx:ao os n with
    |none=>exact absurd hx hin
    |some x =>
     have hon:=Nq h4 n x (h.trans hx);rw[hx] at ho;cases x with
     |box x =>
      obtain ⟨b,cs,T,k1,k2,k3,k4,k5⟩:=ho;exact ⟨b,cs,T,az.trans k1,k2,k3,ai.dM hp _ _ (by simpa[ah.only] using hon) k4,k5⟩
     |b9 T sz es =>
      obtain ⟨aG,k1,k2,k3⟩:=ho;refine ⟨aG,az.trans k1,k2,?_⟩;cases aG with
      |none=>exact k3
      |some bc =>
       obtain ⟨b,cap⟩:=bc;obtain ⟨cs,pre,rest,q1,q2,q3,q4,q5⟩:=k3;exact ⟨cs,pre,rest,q1,q2,q3,aL.dM hp _ _ (by simpa[ah.only] using hon) q4,q5⟩
     |c4 T xs =>
      obtain ⟨aG,k1,k2,k3⟩:=ho;exact ⟨aG,az.trans k1,k2,k3⟩
     |dZ x =>
      obtain ⟨b,k1,k2⟩:=ho;exact ⟨b,az.trans k1,k2⟩
     |cE ks vs =>
      obtain ⟨b,es,ck,k1,k2,k3,k4,k5,k6,k7⟩:=ho;simp only[ah.only,zz3] at hon;exact ⟨b,es,ck,az.trans k1,k2,k3,k4,aK.dM hp _ _ hon.1 k5,aK.dM hp _ _ hon.2 k6,k7⟩
     |it ks vs left cur =>
      obtain ⟨r,b,es,ck,si,se,la,k1,k2,k3,k4,k5,k6,k7⟩:=ho;simp only[ah.only,zz3] at hon;exact ⟨r,b,es,ck,si,se,la,az.trans k1,k2,k3,k4,aK.dM hp _ _ hon.1 k5,aK.dM hp _ _ hon.2 k6,k7⟩
 ·refine hs.da n m e e' b ?_ ?_ h3 h4
  ·split at h1
   ·exact h1
   ·cases h1
  ·split at h2
   ·exact h2
   ·cases h2
 ·by_cases hi:aq os' n=true
  ·simp only[hi,if_true];exact hs.en n e hn
  ·simp only[hi];exact .inl rfl
def bl:Nat→List I→List (Nat×I)
 |_,[]=>[]
 |k,a::as=>(k,a)::bl (k+1) as
theorem Ms:∀ (as:List I) (k t:Nat),cm (bl k as) t=if t<k then .dx else (as[t-k]?).getD .dx
 | [],k,t=>by simp[bl,cm]
 |a::as,k,t=>by
  simp only[bl,cm,Ms as (k+1) t];by_cases h:t=k
  ·subst h;simp
  ·rw[if_neg h];by_cases h2:t<k
   ·rw[if_pos (by omega),if_pos h2]
   ·rw[if_neg (by omega),if_neg h2,show t-k=(t-(k+1))+1 from by omega];simp
theorem QP(args:List I)(os:List (Nat×ah)):aB (rp args os) (aw (bl 0 args) os):=by
 rintro c a w ⟨D,E,hs⟩;refine ⟨D,E,hs.sz,hs.fj,fun t =>?_,hs.eh,hs.dh,hs.dy,hs.bQ,hs.da,hs.en,hs.fx,hs.cV,hs.fD,hs.gl⟩;have:=hs.eH t;simp only[aw,Ms,rp,Nat.not_lt_zero,if_false,Nat.sub_zero] at *;cases h:args[t]? with
 |none=>simp[a7]
 |some x=>simpa[zz0,h] using this
theorem aqa(args:List I):aB (pV args) (aw (bl 0 args) []):=QP args []
theorem uH(ts:List (Nat×I))(os:List (Nat×ah))(d:Nat)(v:I):(aw ts os).put d v=aw ((d,v)::ts) os:=rfl
theorem amZ(ts:List (Nat×I))(os:List (Nat×ah))(d:Nat)(v:I):(aw ts os).aT (some d) v=aw ((d,v)::ts) os:=rfl
theorem amY(A:af)(v:I):A.aT none v=A:=rfl
theorem py(ts:List (Nat×I))(os:List (Nat×ah))(d:Nat)(x:ah):(aw ts os).aU d x=aw ts ((d,x)::os):=rfl
theorem am0(ts:List (Nat×I))(os:List (Nat×ah))(k:Nat):(aw ts os).t k=cm ts k:=rfl
theorem amX(ts:List (Nat×I))(os:List (Nat×ah))(k:Nat):(aw ts os).o k=ao os k:=rfl
theorem aS(j:Nat)(v:I)(r:List (Nat×I))(k:Nat):cm ((j,v)::r) k=if k=j then v else cm r k:=rfl
theorem bT(j:Nat)(v:ah)(r:List (Nat×ah))(k:Nat):ao ((j,v)::r) k=if k=j then some v else ao r k:=rfl
theorem sf(k:Nat):ao [] k=none:=rfl
theorem abR(A:af)(k:Nat):ae A (.t k)=A.t k:=rfl
theorem abQ(A:af)(x:I):ae A (.c x)=x:=rfl
noncomputable def dq(d:Option Nat)(rest:List aE)(A:af)(v:I):cP:=aF rest (A.aT d v)
theorem ame(d:Option Nat)(rest:List aE)(A:af)(v:I):dq d rest A v=aF rest (A.aT d v):=rfl
theorem TH(v:I)(k:I→cP):cX (some v) k=k v:=rfl
theorem SX(A:af):aF [] A=.done A:=rfl
noncomputable def bR(A:af)(d:Option Nat)(op:ct)(rest:List aE):cP:=bA A d op rest (aF rest)
noncomputable def iD(x:I)(b:Bool)(d:Option Nat)(op:ct)(rest:List aE)(A:af):cP :=
 match x with
 | .bool b'=>if b'=b then bR A d op rest else aF rest (A.aT d .undef)
 | .undef=>aF rest (A.aT d .undef)
 |_=>.fail
theorem bn.guard{P:Program}{Y:Value→List I→List (Nat×ah)→cO→Prop}{dr:Bool}{K:af→Prop}{x b:Bool}{d:Option Nat}{op:ct}{rest:List aE}{A:af}(h1:x=b→bn P Y dr K (bR A d op rest))(h2:x = !b→bn P Y dr K (aF rest (A.aT d .undef))):bn P Y dr K (iD (.bool x) b d op rest A):=by
 unfold iD;by_cases h:x=b
 ·simp only[if_pos h];exact h1 h
 ·simp only[if_neg h];exact h2 (by cases x <;>cases b <;>simp_all)
def I.dD:I→Option (List I)
 | .agg fs=>some fs
 |_=>none
def qd(p:List Nat):Option I→Option I
 |some f=>f.at p
 |none=>none
def fU(i:Nat)(p:List Nat):Option (List I)→Option I
 |some fs=>qd p fs[i]?
 |none=>none
theorem hT(c:I):c.at []=some c:=by cases c <;>rfl
theorem Th(c:I)(i:Nat)(p:List Nat):c.at (i::p)=fU i p c.dD:=by
 cases c <;>first | rfl | (rename_i fs;simp only[I.at,fU,I.dD,qd])
def vt(fs:List I)(i:Nat)(p:List Nat)(v:I):Option I→I
 |some f=>.agg (fs.set i (f.dS p v))
 |none=>.agg fs
def sJ(c:I)(i:Nat)(p:List Nat)(v:I):Option (List I)→I
 |some fs=>vt fs i p v fs[i]?
 |none=>c
theorem fT(c v:I):c.dS [] v=v:=by cases c <;>rfl
theorem Qo(c:I)(i:Nat)(p:List Nat)(v:I):c.dS (i::p) v=sJ c i p v c.dD:=by
 cases c <;>first | rfl | (rename_i fs;simp only[I.dS,sJ,I.dD];cases fs[i]? <;>rfl)
def fk(p:List Nat):Option ah→Option I
 |some (.box c)=>c.at p
 |_=>none
def ib(A:af):I→Option I
 | .ref x=>some x
 | .ptr n p=>fk p (A.o n)
 |_=>none
theorem mf(A:af)(x:I):cH A x=ib A x:=by
 cases x <;>first | rfl | (rename_i n p;simp only[cH,ib];cases A.o n with | none=>rfl | some y=>cases y <;>rfl)
def c8(s:Option Nat)(x:I):Option I:=if cj s x=true then some x else none
def iv(s:Option Nat):Option I→Option I
 |some x=>c8 s x
 |none=>none
open Classical in
noncomputable def er(fs:List I)(f off:Nat)(y:I):Option I:=if f<fs.length∧I.sizes (fs.take f)=off then some y else none
noncomputable def rV(n:Nat)(p:List Nat)(f off:Nat):Option (List I)→Option I
 |some fs=>er fs f off (.ptr n (p++[f]))
 |none=>none
noncomputable def qw(fs:List I)(f off:Nat):Option I→Option I
 |some v=>er fs f off (.ref v)
 |none=>none
noncomputable def rW(f off:Nat):Option (List I)→Option I
 |some fs=>qw fs f off fs[f]?
 |none=>none
def fO:Option I→Option (List I)
 |some x=>x.dD
 |none=>none
noncomputable def mn(A:af)(f off:Nat):I→Option I
 | .ref c=>rW f off c.dD
 | .ptr n p=>rV n p f off (fO (fk p (A.o n)))
 |_=>none
theorem aoU(A:af)(f off:Nat)(x:aM):bF A (.fa f off x)=mn A f off (ae A x):=by
 simp only[bF];generalize ae A x=y;cases y with
 |ref c =>
  cases c <;>simp only[mn,I.dD,rW]
  rename_i fs;cases h:fs[f]? with
  |none=>simp[qw]
  |some v =>
   have hl:f<fs.length:=(zy7.1 h).1;simp only[qw,er,hl,true_and]

 |ptr n p =>
  simp only[mn,mf,ib];cases fk p (A.o n) with
  |none=>simp[fO,rV]
  |some c =>
   cases c <;>simp only[fO,I.dD,rV]
   simp only[er]

 |_=>simp only[mn]
noncomputable def tK(f off:Nat)(s:Option Nat):Option (List I)→Option I
 |some fs=>match fs[f]? with
  |some v=>(er fs f off v).bind (c8 s)
  |none=>none
 |none=>none
theorem aoV(A:af)(f off:Nat)(s:Option Nat)(x:aM):bF A (.fl f off s x)=tK f off s (ae A x).dD:=by
 simp only[bF];generalize ae A x=y;cases y <;>simp only[tK,I.dD]
 rename_i fs;cases h:fs[f]? with
 |none=>rfl
 |some v =>
  have hl:f<fs.length:=(zy7.1 h).1;simp only[er,hl,true_and];by_cases h1:I.sizes (fs.take f)=off <;>by_cases h2:cj s v=true <;>simp[h1,h2,c8]
open Classical in
noncomputable def fH(k:Int)(n:Nat)(y:Option I):Option I:=if 0≤k∧k<n then y else none
noncomputable def fG(n esz:Nat)(fs:List I)(y:Option I):Option I:=if jf n esz fs=true then y else none
noncomputable def r4(n esz:Nat)(k:Int):Option (List I)→Option I
 |some fs=>fG n esz fs ((fs[k.toNat]?).map .ref)
 |none=>none
noncomputable def r3(n esz m:Nat)(p:List Nat)(k:Int):Option (List I)→Option I
 |some fs=>fG n esz fs (some (.ptr m (p++[k.toNat])))
 |none=>none
noncomputable def pn(A:af)(n esz:Nat)(k:Int):I→Option I
 | .ref c=>fH k n (r4 n esz k c.dD)
 | .ptr m p=>fH k n (r3 n esz m p k (fO (fk p (A.o m))))
 |_=>none
noncomputable def r2(A:af)(n esz:Nat)(x:I):I→Option I
 | .int _ k=>pn A n esz k x
 |_=>none
theorem aoW(A:af)(n esz:Nat)(x i:aM):bF A (.ia n esz x i)=r2 A n esz (ae A x) (ae A i):=by
 simp only[bF];generalize ae A x=y;generalize ae A i=z;cases z <;>simp only[r2]
 rename_i kk k;cases y with
 |ref c =>
  simp only[pn,fH];split
  ·cases c <;>simp only[I.dD,r4,fG]
  ·rfl
 |ptr m p =>
  simp only[pn,fH,mf,ib];split
  ·cases fk p (A.o m) with
   |none=>simp[fO,r3]
   |some c=>cases c <;>simp only[fO,I.dD,r3,fG]
  ·rfl
 |_=>simp only[pn];split <;>rfl
open Classical in
noncomputable def lK(m:Nat)(p:List Nat)(sz lo l esz:Nat)(k:Int):Option (List I)→Option I
 |some _=>if sz=esz∧0≤k∧k<l then some (.ptr m (p++[lo+k.toNat])) else none
 |none=>none
open Classical in
noncomputable def jh(A:af)(esz:Nat)(k:Int):I→Option I
 | .slice sz es=>if sz=esz∧0≤k∧k<es.length then (es[k.toNat]?).map .ref else none
 | .own m l=>match A.o m with
  |some (.b9 _ sz es)=>if l=es.length∧sz=esz∧0≤k∧k<es.length then (es[k.toNat]?).map .ref else none
  |_=>none
 | .view m p sz lo l=>lK m p sz lo l esz k (fO (fk p (A.o m)))
 |_=>none
noncomputable def mA(A:af)(esz:Nat)(x:I):I→Option I
 | .int _ k=>jh A esz k x
 |_=>none
theorem aoX(A:af)(esz:Nat)(x i:aM):bF A (.is esz x i)=mA A esz (ae A x) (ae A i):=by
 simp only[bF];generalize ae A x=y;generalize ae A i=z;cases z <;>simp only[mA]
 cases y <;>simp only[jh]
 ·split <;>simp_all
 ·rename_i m p sz lo l;simp only[mf,ib];cases fk p (A.o m) with
  |none=>rfl
  |some c=>cases c <;>simp only[fO,I.dD,lK]
noncomputable def r8(n esz:Nat)(s:Option Nat)(k:Int):Option (List I)→Option I
 |some fs=>fH k n (fG n esz fs (iv s fs[k.toNat]?))
 |none=>none
noncomputable def r9(n esz:Nat)(s:Option Nat)(x:I):I→Option I
 | .int _ k=>r8 n esz s k x.dD
 |_=>none
theorem aoY(A:af)(n esz:Nat)(s:Option Nat)(x i:aM):bF A (.ix n esz s x i)=r9 n esz s (ae A x) (ae A i):=by
 simp only[bF];generalize ae A x=y;generalize ae A i=z;cases z <;>simp only[r9]
 rename_i kk k;cases y <;>simp only[I.dD,r8]
 case agg fs =>
  simp only[fH,fG];split
  ·split
   ·cases fs[k.toNat]? <;>rfl
   ·rfl
  ·rfl
 all_goals (split <;>rfl)
def jj(A:af):I→Option I
 | .slice _ es=>some (.int .i64 es.length)
 | .nils _=>some (.int .i64 0)
 | .c0 _=>some (.int .i64 0)
 | .own m l=>match A.o m with | some (.b9 _ _ es)=>if l=es.length then some (.int .i64 es.length) else none | _=>none
 | .view _ _ _ _ k=>some (.int .i64 k)
 |_=>none
theorem ao0(A:af)(x:aM):bF A (.len x)=jj A (ae A x):=by
 simp only[bF];generalize ae A x=y;cases y <;>rfl
open Classical in
noncomputable def pY(n esz:Nat)(fs:List I)(y:I):Option I:=if jf n esz fs=true∧n≤maxLen∧n≠0 then some y else none
noncomputable def sP(n esz m:Nat)(p:List Nat):Option (List I)→Option I
 |some fs=>pY n esz fs (.view m p esz 0 n)
 |none=>none
noncomputable def Q3(n esz:Nat):Option (List I)→Option I
 |some fs=>pY n esz fs (.slice esz fs)
 |none=>none
noncomputable def pX(A:af)(n esz:Nat):I→Option I
 | .ptr m p=>sP n esz m p (fO (fk p (A.o m)))
 | .ref c=>Q3 n esz c.dD
 |_=>none
theorem ao2(A:af)(n esz:Nat)(x:aM):bF A (.va n esz x)=pX A n esz (ae A x):=by
 simp only[bF];generalize ae A x=y;cases y with
 |ptr m p =>
  simp only[pX,mf,ib];cases fk p (A.o m) with
  |none=>simp[fO,sP]
  |some c=>cases c <;>simp only[fO,I.dD,sP,pY] <;>(split <;>simp_all)
 |ref c=>cases c <;>simp only[pX,I.dD,Q3,pY] <;>(split <;>simp_all)
 |_=>simp only[pX]
theorem aoZ(A:af)(s:Option Nat)(x:aM):bF A (.ld s x)=iv s (ib A (ae A x)):=by
 simp only[bF,mf];cases ib A (ae A x) <;>simp only[iv,c8]
noncomputable def sv(A:af)(d:Option Nat)(a b:aM)(rest:List aE):I→cP
 | .bool t=>aF rest (A.aT d (if t then ae A a else ae A b))
 |_=>.fail
noncomputable def sO(op:UnOp)(x:I):Option I:=match op,x with
  | .not,.bool b=>some (.bool !b)
  | .neg,.int k n=>some (.int k (k.wrap (0-n)))
  | .xor,.int k n=>some (.int k (ql k n))
  |_,_=>none
def xh(i:Nat):I→Option I
 | .tuple fs=>fs[i]?
 |_=>none
def wR(k:IntKind):I→Option I
 | .int _ n=>some (.int k (k.wrap n))
 |_=>none
noncomputable def v7(A:af)(d:Nat)(z:I)(rest:List aE):Option ah→cP
 |none=>aF rest ((A.aU d (.box z)).put d (.ptr d []))
 |some _=>.fail
noncomputable def tq(A:af)(d:Nat)(z:I)(rest:List aE)(v:Bool):cP:=if v=true then aF rest ((A.aU d (.box z)).put d (.ptr d [])) else .fail
noncomputable def tp(A:af)(d:Nat)(z:I)(rest:List aE):Option ah→cP
 |none=>tq A d z rest z.cq
 |some _=>.fail
open Classical in
noncomputable def dT(A:af)(s:Option Nat)(n:Nat)(p:List Nat)(b v:I)(rest:List aE):Option I→cP
 |some old=>if zB s v old then aF rest (A.aU n (.box (b.dS p v))) else .fail
 |none=>.fail
noncomputable def vy(A:af)(s:Option Nat)(n:Nat)(p:List Nat)(v:I)(rest:List aE):Option ah→cP
 |some (.box b)=>dT A s n p b v rest (b.at p)
 |_=>.fail
noncomputable def vx(A:af)(s:Option Nat)(v:I)(rest:List aE):I→cP
 | .ptr n p=>vy A s n p v rest (A.o n)
 |_=>.fail
noncomputable def tv(A:af)(d:Option Nat)(args:List I)(rest:List aE):I→cP
 | .func f caps=>.call f (args++caps) (cn true A (args++caps)) (cn false A (args++caps)) d rest A
 | .raw v=>.qj v args d rest A
 |_=>.fail
section
variable (d:Option Nat) (rest:List aE) (A:af)
theorem SG(op:ct):aF (⟨d,op,none⟩::rest) A=bR A d op rest:=rfl
theorem SH(op:ct)(t:Nat)(b:Bool):aF (⟨d,op,some (t,b)⟩::rest) A=iD (A.t t) b d op rest A:=rfl
theorem ale(op:ct):iD (.bool true) true d op rest A=bR A d op rest:=by simp[iD]
theorem alb(op:ct):iD (.bool false) false d op rest A=bR A d op rest:=by simp[iD]
theorem ald(op:ct):iD (.bool true) false d op rest A=aF rest (A.aT d .undef):=by simp[iD]
theorem alc(op:ct):iD (.bool false) true d op rest A=aF rest (A.aT d .undef):=by simp[iD]
theorem alf(op:ct)(b:Bool):iD .undef b d op rest A=aF rest (A.aT d .undef):=rfl
theorem anS(x:aM):bR A d (.mv x) rest=aF rest (A.aT d (ae A x)):=rfl
theorem anW(c a b:aM):bR A d (.pick c a b) rest=sv A d a b rest (ae A c):=by
 simp only[bR,bA,bF];cases ae A c <;>simp only[cX,sv]
theorem ant(op:BinOp)(x y:aM):bR A d (.bin op x y) rest=cX (cQ op (ae A x) (ae A y)) (dq d rest A):=rfl
theorem anD(ty:cW)(neg:Bool)(x y:aM):bR A d (.eqv ty neg x y) rest=cX ((cw ty (ae A x) (ae A y)).map fun b=>.bool (if neg then !b else b)) (dq d rest A):=rfl
theorem an1(op:UnOp)(x:aM):bR A d (.un op x) rest=cX (sO op (ae A x)) (dq d rest A):=rfl
theorem anB(k:IntKind)(x:aM):bR A d (.conv k x) rest=cX (wR k (ae A x)) (dq d rest A):=by
 simp only[bR,bA,bF];cases ae A x <;>rfl
theorem anK(s:Option Nat)(x:aM):bR A d (.ld s x) rest=cX (iv s (ib A (ae A x))) (dq d rest A):=by rw[←aoZ];rfl
theorem anF(f off:Nat)(x:aM):bR A d (.fa f off x) rest=cX (mn A f off (ae A x)) (dq d rest A):=by rw[←aoU];rfl
theorem anG(f off:Nat)(s:Option Nat)(x:aM):bR A d (.fl f off s x) rest=cX (tK f off s (ae A x).dD) (dq d rest A):=by rw[←aoV];rfl
theorem anH(n esz:Nat)(x i:aM):bR A d (.ia n esz x i) rest=cX (r2 A n esz (ae A x) (ae A i)) (dq d rest A):=by rw[←aoW];rfl
theorem anI(esz:Nat)(x i:aM):bR A d (.is esz x i) rest=cX (mA A esz (ae A x) (ae A i)) (dq d rest A):=by rw[←aoX];rfl
theorem anJ(n esz:Nat)(s:Option Nat)(x i:aM):bR A d (.ix n esz s x i) rest=cX (r9 n esz s (ae A x) (ae A i)) (dq d rest A):=by rw[←aoY];rfl
theorem anL(x:aM):bR A d (.len x) rest=cX (jj A (ae A x)) (dq d rest A):=by rw[←ao0];rfl
theorem an2(n esz:Nat)(x:aM):bR A d (.va n esz x) rest=cX (pX A n esz (ae A x)) (dq d rest A):=by rw[←ao2];rfl
theorem anu(zs:List I)(ps:List (Nat×aM)):bR A d (.bld zs ps) rest=cX ((dN zs (ps.map fun p=>(p.1,ae A p.2))).map .agg) (dq d rest A):=rfl
theorem anE(x:aM)(i:Nat):bR A d (.ext x i) rest=cX (xh i (ae A x)) (dq d rest A):=by
 simp only[bR,bA,bF];cases ae A x <;>rfl
theorem anO(f:FuncId)(caps:List aM):bR A d (.mk f caps) rest=cX (if ((caps.map (ae A)).all fun y=>y.cq)=true then some (.func f (caps.map (ae A))) else none) (dq d rest A):=rfl
theorem anq(d:Nat)(z:I):bR A (some d) (.alloc z) rest=v7 A d z rest (A.o d):=by
 simp only[bR,bA];cases A.o d <;>rfl
theorem anv(d:Nat)(x:aM):bR A (some d) (.box x) rest=tp A d (ae A x) rest (A.o d):=by
 simp only[bR,bA];cases A.o d <;>simp only[tp,tq]
theorem an0(s:Option Nat)(x v:aM):bR A none (.bu s x v) rest=vx A s (ae A v) rest (ae A x):=by
 simp only[bR,bA];cases ae A x <;>simp only[vx]
 rename_i n p;cases A.o n with
 |none=>rfl
 |some y =>
  cases y <;>simp only[vy]
  rename_i b;cases b.at p <;>simp only[dT]
theorem anx(f:FuncId)(args:List aM):bR A d (.call f args) rest=.call f (args.map (ae A)) (cn true A (args.map (ae A))) (cn false A (args.map (ae A))) d rest A:=rfl
theorem anz(x:aM)(args:List aM):bR A d (.eM x args) rest=tv A d (args.map (ae A)) rest (ae A x):=by
 simp only[bR,bA];cases ae A x <;>rfl
end
end Go.Abs
namespace Go.Abs
open Go Go.RowKit
mutual
/-- Closed,and as a result is told: no nil slice but as the empty one. -/
def I.done:I→Bool
 | .agg fs=>I.eY fs
 | .slice _ es=>I.cg es
 | .ref x=>x.bJ
 | .func _ caps=>I.eY caps
 | .iface _ v=>v.bJ
 | .c7 ks vs=>I.cg ks&&I.cg vs
 | .bool _ | .int _ _ | .db _ | .nilp | .dz | .eg | .raw _=>true
 |_=>false
def I.eY:List I→Bool
 | []=>true
 |x::xs=>x.done&&I.eY xs
end
mutual
theorem wX:∀ x:I,x.done=true→x.bJ=true
 | .agg fs,h=>by simp only[I.done,I.bJ] at *;exact kR fs h
 | .slice _ es,h=>by simpa only[I.done,I.bJ] using h
 | .ref x,h=>by simpa only[I.done,I.bJ] using h
 | .func _ caps,h=>by simp only[I.done,I.bJ] at *;exact kR caps h
 | .iface _ v,h=>by simpa only[I.done,I.bJ] using h
 | .bool _,_ | .int _ _,_ | .db _,_ | .nilp,_ | .dz,_ | .eg,_ | .raw _,_=>by simp[I.bJ]
 | .c7 _ _,h=>by simpa only[I.done,I.bJ] using h
 | .nils _,h | .c0 _,h | .ptr _ _,h | .own _ _,h | .view _ _ _ _ _,h | .mref _,h | .dI _,h | .undef,h | .dx,h | .tuple _,h=>by simp[I.done] at h
theorem kR:∀ xs:List I,I.eY xs=true→I.cg xs=true
 | [],_=>rfl
 |x::xs,h=>by
  simp only[I.eY,I.cg,zz3] at *;exact ⟨wX x h.1,kR xs h.2⟩
end
mutual
theorem Fk(aC:Bool)(A:af):∀ x:I,x.done=true→bC aC A x=some x
 | .agg fs,h=>by simp only[I.done,bC] at *;rw[kq aC A fs h];rfl
 | .slice _ es,h=>by simp only[I.done] at h;simp[bC,h]
 | .ref x,h=>by simp only[I.done] at h;simp[bC,h]
 | .func _ caps,h=>by simp only[I.done,bC] at *;rw[kq aC A caps h];rfl
 | .iface _ v,h=>by simp only[I.done] at h;simp[bC,h]
 | .bool _,_ | .int _ _,_ | .db _,_ | .nilp,_ | .dz,_ | .eg,_ | .raw _,_=>by simp[bC]
 | .c7 _ _,h=>by simp only[I.done] at h;simp[bC,h]
 | .nils _,h | .c0 _,h | .ptr _ _,h | .own _ _,h | .view _ _ _ _ _,h | .mref _,h | .dI _,h | .undef,h | .dx,h | .tuple _,h=>by simp[I.done] at h
theorem kq(aC:Bool)(A:af):∀ xs:List I,I.eY xs=true→cn aC A xs=some xs
 | [],_=>by simp[cn]
 |x::xs,h=>by
  simp only[I.eY,zz3] at h;simp only[cn,Fk aC A x h.1,kq aC A xs h.2]
end
theorem abt{x:I}(h:x.done=true):x.cq=true:=by cases x <;>simp_all[I.done,I.cq]
class Enc (α:Type) where
 enc:α→I
 sz:Nat
 aV:c5
 gM:Bool
 done:∀ x,(enc x).done=true
 size:∀ x,(enc x).size=sz
 lp:∀ x,(enc x).aV=aV
 agg:∀ x,(enc x).isAgg=gM
open Enc (enc)
instance:Enc Int where
 enc n:=.int .i64 n
 sz:=1
 aV:=.one
 gM:=false
 done _:=rfl
 size _:=by simp[I.size]
 lp _:=by simp[I.aV]
 agg _:=rfl
instance:Enc Bool where
 enc b:=.bool b
 sz:=1
 aV:=.one
 gM:=false
 done _:=rfl
 size _:=by simp[I.size]
 lp _:=by simp[I.aV]
 agg _:=rfl
theorem lB{α:Type}[Enc α](l:List α):I.cg (l.map enc)=true:=by
 induction l with
 |nil=>rfl
 |cons x l ih=>simp only[zy2,I.cg,wX _ (Enc.done x),ih,zw7]
theorem abu{α:Type}[Enc α](l:List α):I.eY (l.map enc)=true:=by
 induction l with
 |nil=>rfl
 |cons x l ih=>simp only[zy2,I.eY,Enc.done x,ih,zw7]
theorem apK{α:Type}[Enc α](l:List α):I.sizes (l.map enc)=l.length*Enc.sz α:=by
 rw[I.iT (sz:=Enc.sz α) _ (by simp only[zw1];rintro x ⟨y,_,rfl⟩;exact Enc.size y)];simp
theorem sK{α:Type}[Enc α](l:List α):I.cT (l.map enc)=List.replicate l.length (Enc.aV α):=by
 induction l with
 |nil=>rfl
 |cons x l ih=>simp only[zy2,I.cT,Enc.lp x,ih,zu5,List.replicate_succ]
instance {α:Type} [Enc α]:Enc (List α) where
 enc l:=.slice (Enc.sz α) (l.map enc)
 sz:=1
 aV:=.one
 gM:=false
 done l:=by simp only[I.done];exact lB l
 size _:=by simp[I.size]
 lp _:=by simp[I.aV]
 agg _:=rfl
structure aX (n:Nat) (α:Type) where
 l:List α
 h:l.length=n
instance {n:Nat} {α:Type} [Enc α]:Enc (aX n α) where
 enc x:=.agg (x.l.map enc)
 sz:=n*Enc.sz α
 aV:=.ez (List.replicate n (Enc.aV α))
 gM:=true
 done x:=by simp only[I.done];exact abu x.l
 size x:=by simp only[I.size,apK,x.h]
 lp x:=by simp only[I.aV,sK,x.h]
 agg _:=rfl
section
variable {α:Type} [Enc α]
theorem cN(aC:Bool)(A:af)(x:α):bC aC A (enc x)=some (enc x):=Fk aC A _ (Enc.done x)
theorem dL(x:α):(enc x).bJ=true:=wX _ (Enc.done x)
theorem bg(p:Nat→Bool)(x:α):(enc x).only p=true:=nC p _ (dL x)
theorem du(x:α):(enc x).cq=true:=abt (Enc.done x)
theorem nj(x:α):cj none (enc x) = !(Enc.gM α):=by simp[cj,Enc.agg]
theorem fW(n:Nat)(x:α):cj (some n) (enc x)=(Enc.gM α&&Enc.sz α==n):=by simp[cj,Enc.agg,Enc.size]
theorem gG(x:α):(enc x).size=Enc.sz α:=Enc.size x
theorem eT(x:α):(enc x).aV=Enc.aV α:=Enc.lp x
theorem ig(n:Int):(enc n:I)=.int .i64 n:=rfl
theorem EU(n:Bool):(enc n:I)=.bool n:=rfl
theorem gT(l:List α):(enc l:I)=.slice (Enc.sz α) (l.map enc):=rfl
theorem lF:Enc.sz Int=1:=rfl
theorem lE(n:Nat):Enc.sz (aX n α)=n*Enc.sz α:=rfl
theorem xc:Enc.sz (List α)=1:=rfl
theorem xb(n:Nat):Enc.gM (aX n α)=true:=rfl
theorem oa:Enc.gM (List α)=false:=rfl
theorem tF:Enc.aV Int=.one:=rfl
theorem EX:Enc.aV (List α)=.one:=rfl
theorem tE(n:Nat):Enc.aV (aX n α)=.ez (List.replicate n (Enc.aV α)):=rfl
theorem xg(n esz:Nat)(l:List α)(h:l.length=n)(h2:Enc.sz α=esz):jf n esz (l.map enc)=true:=by
 simp only[jf,zy1,h,BEq.rfl,Bool.true_and,zx3,zw1];rintro x ⟨y,_,rfl⟩;simp[Enc.size,h2]
theorem SU(l:List α):∀ x∈l.map (enc (α:=α)),x.size=Enc.sz α:=by
 simp only[zw1];rintro x ⟨y,_,rfl⟩;exact Enc.size y
end
theorem cG(n:Int)(h1:-9223372036854775808≤n)(h2:n≤9223372036854775807):IntKind.i64.wrap n=n:=IntWalk.i64_in n ⟨h1,h2⟩
theorem aA.mk{P:Program}{f:FuncId}{fn:Func}{x:aR}{rs:List bj}{args:List I}{r:I}(hf:P.funcs[f]?=some fn)(hcall:iC P f=true)(hc:(fn.body.bind (fF P fn.ntmps))=some x)
  (hrs:jx P fn.results.toList=some rs) (hn:args.length≤fn.ntmps) (h:∀ (w:World) (D:aW) (E:a8),U ⟨P,w,D,fn.ntmps,dJ E,E,jk,none⟩ x (kc rs r) (aw (bl 0 args) [])):aA P f args r:=by
 obtain ⟨body,hb,hc'⟩:=Option.bind_eq_some_iff.1 hc;exact aA.uU hf hb hcall hc' hrs hn (fun w D E=>(h w D E).sub (aqa args))
end Go.Abs
namespace Go.Abs
open Go Go.RowKit
open Enc (enc)
def al(x:I)(p q:Prop):Prop:=match x with
 | .bool t=>(t=true→p)∧(t=false→q)
 |_=>False
theorem U.bL{c:c6}{A:af}{Q:Exit→af→Prop}{b:aM}{x y:aR}(h:al (ae A b) (U c x Q A) (U c y Q A)):U c (.cond b x y) Q A:=by
 generalize hb:ae A b=v at h;unfold al at h;split at h
 ·exact U.cond hb h.1 h.2
 ·exact h.elim
def oN(r:I):Option (List I)→Prop
 |some xs=>lO xs=r
 |none=>False
theorem apo(rs:List bj)(r:I)(A:af):kc rs r .ret A=oN r (fA A rs):=by
 simp only[kc,oN];cases fA A rs <;>simp
theorem apn(rs:List bj)(r:I)(A:af):kc rs r .normal A=oN r (fA A rs):=by
 simp only[kc,oN];cases fA A rs <;>simp
def sG(s:Option Nat)(A:af):Option I→Option I
 |some x=>if cj s x=true then bC true A x else none
 |none=>none
def mb:Option I→Option (List I)→Option (List I)
 |some x,some xs=>some (x::xs)
 |_,_=>none
theorem aph(A:af):fA A []=some []:=rfl
theorem api(A:af)(t:Nat)(rs:List bj):fA A (.tmp t::rs)=mb (bC true A (A.t t)) (fA A rs):=by
 simp only[fA,vk];cases bC true A (A.t t) <;>cases fA A rs <;>rfl
theorem apg(A:af)(a:Nat)(s:Option Nat)(rs:List bj):fA A (.cell a s::rs)=mb (sG s A (ib A (A.t a))) (fA A rs):=by
 simp only[fA,vk,mf];cases ib A (A.t a) with
 |none=>cases fA A rs <;>rfl
 |some x =>
  by_cases h:cj s x=true
  ·simp only[sG,if_pos h];cases bC true A x <;>cases fA A rs <;>rfl
  ·simp only[sG,if_neg h];cases fA A rs <;>rfl
def tH(aC:Bool)(A:af):Option I→Option I
 |some x=>if x.bJ=true then some (.ref x) else (ev A 9 x).map .ref
 |none=>none
theorem acf(A:af)(n:Nat)(p:List Nat):bC true A (.ptr n p)=tH true A (fk p (A.o n)):=by
 simp only[bC,mf,ib,if_true,tH];cases fk p (A.o n) <;>rfl
open Classical in
noncomputable def lH(sz lo k:Nat):Option (List I)→Option I
 |some fs=>if I.cg ((fs.drop lo).take k)=true then some (.slice sz ((fs.drop lo).take k)) else none
 |none=>none
theorem acj(A:af)(n:Nat)(p:List Nat)(sz lo k:Nat):bC true A (.view n p sz lo k)=lH sz lo k (fO (fk p (A.o n))):=by
 simp only[bC,mf,ib,if_true];cases fk p (A.o n) with
 |none=>rfl
 |some c=>cases c <;>simp only[fO,I.dD,lH] <;>(split <;>simp_all)
open Classical in
noncomputable def pb(k:Nat):Option ah→Option I
 |some (.b9 _ sz es)=>if k=es.length∧I.cg es=true then some (.slice sz es) else none
 |_=>none
theorem ace(aC:Bool)(A:af)(n k:Nat):bC aC A (.own n k)=pb k (A.o n):=by
 simp only[bC];cases A.o n with
 |none=>rfl
 |some y=>cases y <;>simp only[pb] <;>(split <;>simp_all)
theorem ab7(aC:Bool)(A:af)(fs:List I):bC aC A (.agg fs)=(cn aC A fs).map .agg:=by simp only[bC]
theorem ab9(aC:Bool)(A:af)(f:FuncId)(fs:List I):bC aC A (.func f fs)=(cn aC A fs).map (.func f):=by simp only[bC]
theorem aca(aC:Bool)(A:af)(k:IntKind)(n:Int):bC aC A (.int k n)=some (.int k n):=by simp only[bC]
theorem ab8(aC:Bool)(A:af)(n:Bool):bC aC A (.bool n)=some (.bool n):=by simp only[bC]
theorem aci(aC:Bool)(A:af)(n:ByteArray):bC aC A (.db n)=some (.db n):=by simp only[bC]
theorem acd(aC:Bool)(A:af)(n:Nat):bC aC A (.nils n)=some (.slice n []):=by simp only[bC]
theorem ach(aC:Bool)(A:af)(n:Nat)(es:List I):bC aC A (.slice n es)=if I.cg es=true then some (.slice n es) else none:=by simp only[bC]
theorem acg(aC:Bool)(A:af)(x:I):bC aC A (.ref x)=if x.bJ=true then some (.ref x) else none:=by simp only[bC]
theorem acn(aC:Bool)(A:af):cn aC A []=some []:=by simp only[cn]
theorem acm(aC:Bool)(A:af)(x:I)(xs:List I):cn aC A (x::xs)=mb (bC aC A x) (cn aC A xs):=by
 simp only[cn];cases bC aC A x <;>cases cn aC A xs <;>rfl
theorem X0(fs:List I):(I.agg fs).bJ=I.cg fs:=by simp only[I.bJ]
theorem X6(n:Nat)(fs:List I):(I.slice n fs).bJ=I.cg fs:=by simp only[I.bJ]
theorem X5(x:I):(I.ref x).bJ=x.bJ:=by simp only[I.bJ]
theorem X4(k:IntKind)(n:Int):(I.int k n).bJ=true:=by simp only[I.bJ]
theorem X1(n:Bool):(I.bool n).bJ=true:=by simp only[I.bJ]
theorem X7(n:ByteArray):(I.db n).bJ=true:=by simp only[I.bJ]
theorem X2(f:FuncId)(fs:List I):(I.func f fs).bJ=I.cg fs:=by simp only[I.bJ]
theorem Ya:I.cg []=true:=by simp only[I.cg]
theorem X8(x:I)(xs:List I):I.cg (x::xs)=(x.bJ&&I.cg xs):=by simp only[I.cg]
theorem Tp(k:IntKind)(a b:Int):cQ .add (.int k a) (.int k b)=some (.int k (k.wrap (a+b))):=by simp[cQ]
theorem TF(k:IntKind)(a b:Int):cQ .sub (.int k a) (.int k b)=some (.int k (k.wrap (a-b))):=by simp[cQ]
theorem Tx(k:IntKind)(a b:Int):cQ .mul (.int k a) (.int k b)=some (.int k (k.wrap (a*b))):=by simp[cQ]
theorem TB(k:IntKind)(a b:Int):cQ .quo (.int k a) (.int k b)=if b=0 then none else some (.int k (k.wrap (a.tdiv b))):=by simp[cQ]
theorem TC(k:IntKind)(a b:Int):cQ .rem (.int k a) (.int k b)=if b=0 then none else some (.int k (a.tmod b)):=by simp[cQ]
theorem Tq(k:IntKind)(a b:Int):cQ .and (.int k a) (.int k b)=some (.int k (k.wrap ((BitVec.ofInt k.bits a &&& BitVec.ofInt k.bits b).toNat:Int))):=by simp[cQ]
theorem TA(k:IntKind)(a b:Int):cQ .or (.int k a) (.int k b)=some (.int k (k.wrap ((BitVec.ofInt k.bits a ||| BitVec.ofInt k.bits b).toNat:Int))):=by simp[cQ]
theorem TG(k:IntKind)(a b:Int):cQ .xor (.int k a) (.int k b)=some (.int k (k.wrap ((BitVec.ofInt k.bits a ^^^ BitVec.ofInt k.bits b).toNat:Int))):=by simp[cQ]
theorem Tr(k:IntKind)(a b:Int):cQ .andNot (.int k a) (.int k b)=some (.int k (k.wrap ((BitVec.ofInt k.bits a &&& ~~~ BitVec.ofInt k.bits b).toNat:Int))):=by simp[cQ]
theorem TD(k k':IntKind)(a b:Int):cQ .shl (.int k a) (.int k' b)=if 0≤b then some (.int k (k.wrap (a*2^(min b.toNat k.bits)))) else none:=by simp[cQ]
theorem TE(k k':IntKind)(a b:Int):cQ .shr (.int k a) (.int k' b)=if 0≤b then some (.int k (a.fdiv (2^(min b.toNat k.bits)))) else none:=by simp[cQ]
theorem Ts(k:IntKind)(a b:Int):cQ .eql (.int k a) (.int k b)=some (.bool (a==b)):=by simp[cQ]
theorem Ty(k:IntKind)(a b:Int):cQ .neq (.int k a) (.int k b)=some (.bool (a != b)):=by simp[cQ]
theorem Tw(k:IntKind)(a b:Int):cQ .lss (.int k a) (.int k b)=some (.bool (decide (a<b))):=by simp[cQ]
theorem Tv(k:IntKind)(a b:Int):cQ .leq (.int k a) (.int k b)=some (.bool (decide (a≤b))):=by simp[cQ]
theorem Tu(k:IntKind)(a b:Int):cQ .gtr (.int k a) (.int k b)=some (.bool (decide (b<a))):=by simp[cQ]
theorem Tt(k:IntKind)(a b:Int):cQ .geq (.int k a) (.int k b)=some (.bool (decide (b≤a))):=by simp[cQ]
theorem p8 :
  (∀ ts os d v,(aw ts os).put d v=aw ((d,v)::ts) os)∧(∀ ts os d v,(aw ts os).aT (some d) v=aw ((d,v)::ts) os)∧(∀ (A:af) v,A.aT none v=A) ∧
  (∀ ts os d x,(aw ts os).aU d x=aw ts ((d,x)::os))∧(∀ ts os k,(aw ts os).t k=cm ts k)∧(∀ ts os k,(aw ts os).o k=ao os k) ∧
  (∀ j v r k,cm ((j,v)::r) k=if k=j then v else cm r k)∧(∀ j v r k,ao ((j,v)::r) k=if k=j then some v else ao r k)∧(∀ k,ao [] k=none) ∧
  (∀ A k,ae A (.t k)=A.t k)∧(∀ A x,ae A (.c x)=x)∧(∀ d rest A v,dq d rest A v=aF rest (A.aT d v))∧(∀ v k,cX (some v) k=k v)∧(∀ A,aF [] A=.done A) :=
 ⟨uH,amZ,amY,py,am0,amX,aS,bT,sf,abR,abQ,ame,TH,SX⟩
theorem Nx :
  (∀ d rest A op,aF (⟨d,op,none⟩::rest) A=bR A d op rest)∧(∀ d rest A op t b,aF (⟨d,op,some (t,b)⟩::rest) A=iD (A.t t) b d op rest A) ∧
  (∀ d rest A op,iD (.bool true) true d op rest A=bR A d op rest)∧(∀ d rest A op,iD (.bool false) false d op rest A=bR A d op rest) ∧
  (∀ d rest A op,iD (.bool true) false d op rest A=aF rest (A.aT d .undef))∧(∀ d rest A op,iD (.bool false) true d op rest A=aF rest (A.aT d .undef))∧(∀ d rest A op b,iD .undef b d op rest A=aF rest (A.aT d .undef)) ∧
  (∀ d rest A x,bR A d (.mv x) rest=aF rest (A.aT d (ae A x)))∧(∀ d rest A c a b,bR A d (.pick c a b) rest=sv A d a b rest (ae A c)) ∧
  (∀ A d a b rest,sv A d a b rest (.bool true)=aF rest (A.aT d (ae A a)))∧(∀ A d a b rest,sv A d a b rest (.bool false)=aF rest (A.aT d (ae A b))) ∧
  (∀ d rest A op x y,bR A d (.bin op x y) rest=cX (cQ op (ae A x) (ae A y)) (dq d rest A)) ∧
  (∀ d rest A ty neg x y,bR A d (.eqv ty neg x y) rest=cX ((cw ty (ae A x) (ae A y)).map fun b=>.bool (if neg then !b else b)) (dq d rest A)) ∧
  (∀ d rest A op x,bR A d (.un op x) rest=cX (sO op (ae A x)) (dq d rest A))∧(∀ b,sO .not (.bool b)=some (.bool !b))∧(∀ k n,sO .neg (.int k n)=some (.int k (k.wrap (0-n))))∧(∀ k n,sO .xor (.int k n)=some (.int k (ql k n))) ∧
  (∀ d rest A k x,bR A d (.conv k x) rest=cX (wR k (ae A x)) (dq d rest A))∧(∀ k k' n,wR k (.int k' n)=some (.int k (k.wrap n))) ∧
  (∀ d rest A s x,bR A d (.ld s x) rest=cX (iv s (ib A (ae A x))) (dq d rest A))∧(∀ d rest A f off x,bR A d (.fa f off x) rest=cX (mn A f off (ae A x)) (dq d rest A)) ∧
  (∀ d rest A f off s x,bR A d (.fl f off s x) rest=cX (tK f off s (ae A x).dD) (dq d rest A))∧(∀ d rest A n esz x i,bR A d (.ia n esz x i) rest=cX (r2 A n esz (ae A x) (ae A i)) (dq d rest A)) ∧
  (∀ d rest A esz x i,bR A d (.is esz x i) rest=cX (mA A esz (ae A x) (ae A i)) (dq d rest A))∧(∀ d rest A n esz s x i,bR A d (.ix n esz s x i) rest=cX (r9 n esz s (ae A x) (ae A i)) (dq d rest A)) ∧
  (∀ d rest A x,bR A d (.len x) rest=cX (jj A (ae A x)) (dq d rest A))∧(∀ d rest A n esz x,bR A d (.va n esz x) rest=cX (pX A n esz (ae A x)) (dq d rest A)) ∧
  (∀ d rest A zs ps,bR A d (.bld zs ps) rest=cX ((dN zs (ps.map fun p=>(p.1,ae A p.2))).map .agg) (dq d rest A))∧(∀ d rest A x i,bR A d (.ext x i) rest=cX (xh i (ae A x)) (dq d rest A))∧(∀ i fs,xh i (.tuple fs)=fs[i]?) ∧
  (∀ d rest A f caps,bR A d (.mk f caps) rest=cX (if ((caps.map (ae A)).all fun y=>y.cq)=true then some (.func f (caps.map (ae A))) else none) (dq d rest A)) ∧
  (∀ rest A d z,bR A (some d) (.alloc z) rest=v7 A d z rest (A.o d))∧(∀ A d z rest,v7 A d z rest none=aF rest ((A.aU d (.box z)).put d (.ptr d []))) ∧
  (∀ rest A d x,bR A (some d) (.box x) rest=tp A d (ae A x) rest (A.o d))∧(∀ A d z rest,tp A d z rest none=tq A d z rest z.cq)∧(∀ A d z rest,tq A d z rest true=aF rest ((A.aU d (.box z)).put d (.ptr d []))) ∧
  (∀ rest A s x v,bR A none (.bu s x v) rest=vx A s (ae A v) rest (ae A x))∧(∀ A s v rest n p,vx A s v rest (.ptr n p)=vy A s n p v rest (A.o n))∧(∀ A s n p v rest b,vy A s n p v rest (some (.box b))=dT A s n p b v rest (b.at p)) ∧
  (∀ d rest A f args,bR A d (.call f args) rest=.call f (args.map (ae A)) (cn true A (args.map (ae A))) (cn false A (args.map (ae A))) d rest A) ∧
  (∀ d rest A x args,bR A d (.eM x args) rest=tv A d (args.map (ae A)) rest (ae A x))∧(∀ A d args rest f caps,tv A d args rest (.func f caps)=.call f (args++caps) (cn true A (args++caps)) (cn false A (args++caps)) d rest A) :=
 ⟨SG,SH,ale,alb,ald,alc,alf,anS,anW,fun _ _ _ _ _=>rfl,fun _ _ _ _ _=>rfl,ant,anD,an1,fun _=>rfl,fun _ _=>rfl,fun _ _=>rfl,anB,fun _ _ _=>rfl,anK,anF,anG,anH,anI,anJ,anL,an2,anu,anE,fun _ _=>rfl,anO,
  anq,fun _ _ _ _=>rfl,anv,fun _ _ _ _=>rfl,fun _ _ _ _=>rfl,an0,fun _ _ _ _ _ _=>rfl,fun _ _ _ _ _ _ _=>rfl,anx,anz,fun _ _ _ _ _ _=>rfl⟩
theorem eG{A:af}{s:Option Nat}{n:Nat}{p:List Nat}{b v old:I}{rest:List aE}(h1:v.cq=true)(h2:cj s v=true)(h3:v.aV=old.aV):dT A s n p b v rest (some old)=aF rest (A.aU n (.box (b.dS p v))):=by
 simp only[dT];rw[if_pos ⟨h1,h2,h3⟩]
theorem Q4 :
  (∀ A x,ib A (.ref x)=some x)∧(∀ A n p,ib A (.ptr n p)=fk p (A.o n))∧(∀ p c,fk p (some (.box c))=c.at p)∧(∀ c:I,c.at []=some c)∧(∀ (c:I) i p,c.at (i::p)=fU i p c.dD) ∧
  (∀ i p fs,fU i p (some fs)=qd p fs[i]?)∧(∀ p f,qd p (some f)=f.at p)∧(∀ c v:I,c.dS [] v=v)∧(∀ (c:I) i p v,c.dS (i::p) v=sJ c i p v c.dD)∧(∀ c i p v fs,sJ c i p v (some fs)=vt fs i p v fs[i]?) ∧
  (∀ fs i p v f,vt fs i p v (some f)=.agg (fs.set i (f.dS p v)))∧(∀ fs,(I.agg fs).dD=some fs)∧(∀ x:I,fO (some x)=x.dD) ∧
  (∀ s x,iv s (some x)=if cj s x=true then some x else none) ∧
  (∀ A f off c,mn A f off (.ref c)=rW f off c.dD)∧(∀ A f off n p,mn A f off (.ptr n p)=rV n p f off (fO (fk p (A.o n))))∧(∀ f off fs,rW f off (some fs)=qw fs f off fs[f]?)∧(∀ fs f off v,qw fs f off (some v)=er fs f off (.ref v)) ∧
  (∀ n p f off fs,rV n p f off (some fs)=er fs f off (.ptr n (p++[f])))∧(∀ A n esz x kk k,r2 A n esz x (.int kk k)=pn A n esz k x)∧(∀ A n esz k c,pn A n esz k (.ref c)=fH k n (r4 n esz k c.dD)) ∧
  (∀ A n esz k m p,pn A n esz k (.ptr m p)=fH k n (r3 n esz m p k (fO (fk p (A.o m)))))∧(∀ n esz k fs,r4 n esz k (some fs)=fG n esz fs ((fs[k.toNat]?).map .ref))∧(∀ n esz m p k fs,r3 n esz m p k (some fs)=fG n esz fs (some (.ptr m (p++[k.toNat])))) ∧
  (∀ A esz x kk k,mA A esz x (.int kk k)=jh A esz k x)∧(∀ n esz s x kk k,r9 n esz s x (.int kk k)=r8 n esz s k x.dD)∧(∀ n esz s k fs,r8 n esz s k (some fs)=fH k n (fG n esz fs (iv s fs[k.toNat]?))) ∧
  (∀ A n esz m p,pX A n esz (.ptr m p)=sP n esz m p (fO (fk p (A.o m))))∧(∀ n esz m p fs,sP n esz m p (some fs)=pY n esz fs (.view m p esz 0 n)) ∧
  (∀ A sz es,jj A (.slice sz es)=some (.int .i64 es.length))∧(∀ A n,jj A (.nils n)=some (.int .i64 0))∧(∀ A n,jj A (.c0 n)=some (.int .i64 0)) :=
 ⟨fun _ _=>rfl,fun _ _ _=>rfl,fun _ _=>rfl,hT,Th,fun _ _ _=>rfl,fun _ _=>rfl,fT,Qo,fun _ _ _ _ _=>rfl,fun _ _ _ _ _=>rfl,fun _=>rfl,fun _=>rfl,fun _ _=>rfl,fun _ _ _ _=>rfl,fun _ _ _ _ _=>rfl,fun _ _ _=>rfl,fun _ _ _ _=>rfl,
  fun _ _ _ _ _=>rfl,fun _ _ _ _ _ _=>rfl,fun _ _ _ _ _=>rfl,fun _ _ _ _ _ _=>rfl,fun _ _ _ _=>rfl,fun _ _ _ _ _ _=>rfl,fun _ _ _ _ _=>rfl,fun _ _ _ _ _ _=>rfl,fun _ _ _ _ _=>rfl,fun _ _ _ _ _=>rfl,fun _ _ _ _ _=>rfl,fun _ _ _=>rfl,fun _ _=>rfl,fun _ _=>rfl⟩
theorem Fh :
  (∀ A n p,bC true A (.ptr n p)=tH true A (fk p (A.o n)))∧(∀ A x,tH true A (some x)=if x.bJ=true then some (.ref x) else (ev A 9 x).map .ref)∧(∀ A n p sz lo k,bC true A (.view n p sz lo k)=lH sz lo k (fO (fk p (A.o n)))) ∧
  (∀ A n p,bC false A (.ptr n p)=none)∧(∀ A n p sz lo k,bC false A (.view n p sz lo k)=none)∧(∀ x,mb none x=none)∧(∀ x,mb x none=none) ∧
  (∀ aC A n k,bC aC A (.own n k)=pb k (A.o n))∧(∀ aC A fs,bC aC A (.agg fs)=(cn aC A fs).map .agg)∧(∀ aC A f fs,bC aC A (.func f fs)=(cn aC A fs).map (.func f))∧(∀ aC A k n,bC aC A (.int k n)=some (.int k n))∧(∀ aC A b,bC aC A (.bool b)=some (.bool b)) ∧
  (∀ aC A s,bC aC A (.db s)=some (.db s))∧(∀ aC A n,bC aC A (.nils n)=some (.slice n []))∧(∀ aC A n es,bC aC A (.slice n es)=if I.cg es=true then some (.slice n es) else none)∧(∀ aC A x,bC aC A (.ref x)=if x.bJ=true then some (.ref x) else none) ∧
  (∀ aC A,cn aC A []=some [])∧(∀ aC A x xs,cn aC A (x::xs)=mb (bC aC A x) (cn aC A xs))∧(∀ x xs,mb (some x) (some xs)=some (x::xs)) ∧
  (∀ fs,(I.agg fs).bJ=I.cg fs)∧(∀ n fs,(I.slice n fs).bJ=I.cg fs)∧(∀ x,(I.ref x).bJ=x.bJ)∧(∀ k n,(I.int k n).bJ=true)∧(∀ n,(I.bool n).bJ=true)∧(∀ n,(I.db n).bJ=true)∧(∀ f fs,(I.func f fs).bJ=I.cg fs) ∧
  I.cg []=true∧(∀ x xs,I.cg (x::xs)=(x.bJ&&I.cg xs)) ∧
  (∀ rs r A,kc rs r .ret A=oN r (fA A rs))∧(∀ rs r A,kc rs r .normal A=oN r (fA A rs))∧(∀ r xs,oN r (some xs)=(lO xs=r))∧(∀ A,fA A []=some [])∧(∀ A t rs,fA A (.tmp t::rs)=mb (bC true A (A.t t)) (fA A rs)) ∧
  (∀ A a s rs,fA A (.cell a s::rs)=mb (sG s A (ib A (A.t a))) (fA A rs))∧(∀ s A x,sG s A (some x)=if cj s x=true then bC true A x else none)∧(∀ x,lO [x]=x)∧(∀ x y xs,lO (x::y::xs)=.tuple (x::y::xs)) :=
 ⟨acf,fun _ _=>rfl,acj,fun _ _ _=>rfl,fun _ _ _ _ _ _=>rfl,fun _=>rfl,fun x=>by cases x <;>rfl,ace,ab7,ab9,aca,ab8,aci,acd,ach,acg,acn,acm,fun _ _=>rfl,X0,X6,X5,X4,X1,X7,X2,Ya,X8,
  apo,apn,fun _ _=>rfl,aph,api,apg,fun _ _ _=>rfl,fun _=>rfl,fun _ _ _=>rfl⟩
theorem BN :
  (∀ k a b,cQ .add (.int k a) (.int k b)=some (.int k (k.wrap (a+b))))∧(∀ k a b,cQ .sub (.int k a) (.int k b)=some (.int k (k.wrap (a-b))))∧(∀ k a b,cQ .mul (.int k a) (.int k b)=some (.int k (k.wrap (a*b)))) ∧
  (∀ k a b,cQ .quo (.int k a) (.int k b)=if b=0 then none else some (.int k (k.wrap (a.tdiv b))))∧(∀ k a b,cQ .rem (.int k a) (.int k b)=if b=0 then none else some (.int k (a.tmod b))) ∧
  (∀ k a b,cQ .and (.int k a) (.int k b)=some (.int k (k.wrap ((BitVec.ofInt k.bits a &&& BitVec.ofInt k.bits b).toNat:Int))))∧(∀ k a b,cQ .or (.int k a) (.int k b)=some (.int k (k.wrap ((BitVec.ofInt k.bits a ||| BitVec.ofInt k.bits b).toNat:Int)))) ∧
  (∀ k a b,cQ .xor (.int k a) (.int k b)=some (.int k (k.wrap ((BitVec.ofInt k.bits a ^^^ BitVec.ofInt k.bits b).toNat:Int))))∧(∀ k a b,cQ .andNot (.int k a) (.int k b)=some (.int k (k.wrap ((BitVec.ofInt k.bits a &&& ~~~ BitVec.ofInt k.bits b).toNat:Int)))) ∧
  (∀ k k' a b,cQ .shl (.int k a) (.int k' b)=if 0≤b then some (.int k (k.wrap (a*2^(min b.toNat k.bits)))) else none)∧(∀ k k' a b,cQ .shr (.int k a) (.int k' b)=if 0≤b then some (.int k (a.fdiv (2^(min b.toNat k.bits)))) else none) ∧
  (∀ k a b,cQ .eql (.int k a) (.int k b)=some (.bool (a==b)))∧(∀ k a b,cQ .neq (.int k a) (.int k b)=some (.bool (a != b)))∧(∀ k a b,cQ .lss (.int k a) (.int k b)=some (.bool (decide (a<b))))∧(∀ k a b,cQ .leq (.int k a) (.int k b)=some (.bool (decide (a≤b)))) ∧
  (∀ k a b,cQ .gtr (.int k a) (.int k b)=some (.bool (decide (b<a))))∧(∀ k a b,cQ .geq (.int k a) (.int k b)=some (.bool (decide (b≤a)))) :=
 ⟨Tp,TF,Tx,TB,TC,Tq,TA,TG,Tr,TD,TE,Ts,Ty,Tw,Tv,Tu,Tt⟩
end Go.Abs
namespace Go.Abs
open Go Go.RowKit
open Enc (enc)
section
variable {α:Type} [Enc α]
theorem amx(A:af)(l:List α):jj A (enc l)=some (.int .i64 l.length):=by simp[gT,jj]
theorem L6{A:af}(esz:Nat){k:Int}{l:List α}(h:0≤k∧k.toNat<l.length)(hs:Enc.sz α=esz):jh A esz k (enc l)=some (.ref (enc l[k.toNat])):=by
 simp only[gT,jh,hs,zy1,true_and];rw[if_pos ⟨h.1,by omega⟩];simp[h.2]
theorem fm{A:af}(esz:Nat){k:Nat}{l:List α}(h:k<l.length)(hs:Enc.sz α=esz):jh A esz k (enc l)=some (.ref (enc l[k])):=by
 have:=L6 (A:=A) esz (k:=(k:Int)) (l:=l) ⟨by omega,by simpa using h⟩ hs;simpa using this
theorem aX.lt{α:Type}{n:Nat}(x:aX n α){k:Nat}(h:k<n):k<x.l.length:=by rw[x.h];exact h
theorem jZ{n:Nat}(esz:Nat){k:Nat}(x:aX n α){y:Option I}(h:k<n)(hs:Enc.sz α=esz):fH (k:Int) n (fG n esz (x.l.map enc) y)=y:=by
 simp only[fH,fG,xg n esz x.l x.h hs,if_true];rw[if_pos ⟨by omega,by omega⟩]
theorem gh{n:Nat}(esz:Nat){k:Int}(x:aX n α){y:Option I}(h:0≤k∧k<n)(hs:Enc.sz α=esz):fH k n (fG n esz (x.l.map enc) y)=y:=by
 simp only[fH,fG,xg n esz x.l x.h hs,if_true];rw[if_pos h]
theorem ali{n k:Nat}(x:aX n α)(h:k<n):(x.l.map enc)[k]?=some (enc (x.l[k]'(x.lt h))):=by
 simp[x.lt h]
theorem Tf{n k:Nat}{p:List Nat}{x:aX n α}(h:k<n):fU k p (some (x.l.map enc))=(enc (x.l[k]'(x.lt h))).at p:=by
 have hl:=x.lt h;simp[fU,qd,hl]
theorem aof(k:IntKind)(n:Int):iv none (some (.int k n))=some (.int k n):=by simp[iv,c8,cj,I.isAgg]
theorem aod(b:Bool):iv none (some (.bool b))=some (.bool b):=by simp[iv,c8,cj,I.isAgg]
theorem aog(z:Nat)(es:List I):iv none (some (.slice z es))=some (.slice z es):=by simp[iv,c8,cj,I.isAgg]
theorem aoe(f:FuncId)(es:List I):iv none (some (.func f es))=some (.func f es):=by simp[iv,c8,cj,I.isAgg]
end
mutual
/-- What every value in memory keeps to: whole numbers within their kind,slices no longer than a slice can be. -/
def I.wf:I→Prop
 | .agg fs=>I.iM fs
 | .int k n=>k.min≤n∧n≤k.max
 | .db s=>s.size≤maxLen
 | .slice _ es=>es.length≤maxLen∧I.iM es
 | .ref c=>c.wf
 | .func _ caps=>I.iM caps
 | .iface _ v=>v.wf
 |_=>True
def I.iM:List I→Prop
 | []=>True
 |x::xs=>x.wf∧I.iM xs
end
mutual
theorem ve{w:World}{D:aW}{E:a8} : ∀ (x:I) (cs:List Value),ai w D E x cs→x.wf
 | .agg fs,cs,h=>by simp only[ai,I.wf] at *;exact zZ fs cs h
 | .int k n,cs,h=>by simp only[ai,I.wf] at *;exact h.2
 | .db s,cs,h=>by simp only[ai,I.wf] at *;exact h.2
 | .slice sz es,cs,h=>by
  simp only[ai,I.wf] at *;obtain ⟨a,cap,_,h1,h2,h3,_⟩:=h;refine ⟨by omega,?_⟩;rcases h3 with rfl | ⟨b,off,cs',_,_,h4⟩
  ·simp[I.iM]
  ·exact zZ es cs' h4
 | .ref c,cs,h=>by simp only[ai,I.wf] at *;obtain ⟨b,off,cs',_,_,h⟩:=h;exact ve c cs' h
 | .func f caps,cs,h=>by simp only[ai,I.wf] at *;obtain ⟨vs,_,h⟩:=h;exact vq caps vs h
 | .iface t v,cs,h=>by simp only[ai,I.wf] at *;obtain ⟨u,cs',_,_,h⟩:=h;exact ve v cs' h
 | .bool _,_,_ | .nilp,_,_ | .dz,_,_ | .eg,_,_ | .raw _,_,_ | .nils _,_,_ | .c0 _,_,_ | .ptr _ _,_,_ | .own _ _,_,_ | .view _ _ _ _ _,_,_ | .mref _,_,_ | .dI _,_,_ | .c7 _ _,_,_ | .undef,_,_ | .dx,_,_ | .tuple _,_,_=>by simp[I.wf]
theorem zZ{w:World}{D:aW}{E:a8} : ∀ (xs:List I) (cs:List Value),aL w D E xs cs→I.iM xs
 | [],_,_=>by simp[I.iM]
 |x::xs,cs,h=>by
  simp only[aL,I.iM] at *;obtain ⟨c1,c2,_,h1,h2⟩:=h;exact ⟨ve x c1 h1,zZ xs c2 h2⟩
theorem vq{w:World}{D:aW}{E:a8} : ∀ (xs:List I) (vs:List Value),aK w D E xs vs→I.iM xs
 | [],_,_=>by simp[I.iM]
 |x::xs,vs,h=>by
  simp only[aK,I.iM] at *;obtain ⟨v,rest,cs,_,_,h1,h2⟩:=h;exact ⟨ve x cs h1,vq xs rest h2⟩
end
theorem aqu{α:Type}[Enc α](l:List α):I.iM (l.map enc)↔∀ x∈l,(enc x:I).wf:=by
 induction l with
 |nil=>simp[I.iM]
 |cons x l ih=>simp[I.iM,ih]
theorem kL{α:Type}[Enc α](l:List α):(enc l:I).wf↔l.length≤maxLen∧∀ x∈l,(enc x:I).wf:=by
 simp only[gT,I.wf,zy1,aqu]
theorem aqt(n:Int):(enc n:I).wf↔-9223372036854775808≤n∧n≤9223372036854775807:=by
 change IntKind.i64.min≤n∧n≤IntKind.i64.max↔_
 simp[IntKind.min,IntKind.max,IntKind.bits,IntKind.signed]
theorem aA.wf{P:Program}{f:FuncId}{args:List I}{r:I}(hc:iC P f=true)(h:I.iM args→aA P f args r):aA P f args r :=
 ⟨hc,fun w D vs h1 h2=>(h (vq _ _ h2)).2 w D vs h1 h2⟩
theorem aA.bp{P:Program}{f:FuncId}{fn:Func}{x:aR}{rs:List bj}{args:List I}{r:I}(hf:P.funcs[f]?=some fn)(hcall:iC P f=true)(hc:(fn.body.bind (fF P fn.ntmps))=some x)
  (hrs:jx P fn.results.toList=some rs) (hn:args.length≤fn.ntmps) (h:I.iM args→∀ (w:World) (D:aW) (E:a8),U ⟨P,w,D,fn.ntmps,dJ E,E,jk,none⟩ x (kc rs r) (aw (bl 0 args) [])):aA P f args r :=
 aA.wf hcall fun hw=>aA.mk hf hcall hc hrs hn (h hw)
theorem aZ{α:Type}[Enc α] :
  (∀ A (l:List α),jj A (enc l)=some (.int .i64 l.length))∧(∀ n (x:aX n α),(enc x).dD=some (x.l.map enc)) :=
 ⟨amx,fun _ _=>rfl⟩
theorem iw:(∀ k n,iv none (some (.int k n))=some (.int k n))∧(∀ b,iv none (some (.bool b))=some (.bool b))∧(∀ z es,iv none (some (.slice z es))=some (.slice z es))∧(∀ f es,iv none (some (.func f es))=some (.func f es)) :=
 ⟨aof,aod,aog,aoe⟩
end Go.Abs
namespace Go.Abs
open Go Go.RowKit
open Enc (enc)
def qL(neg:Bool):I→Option I
 | .nils _=>some (.bool (!neg))
 | .slice _ es=>if es.isEmpty then none else some (.bool neg)
 | .view _ _ _ _ _=>some (.bool neg)
 |_=>none
def Ml:I→Option I
 | .db s=>some (.int .i64 s.size)
 |_=>none
open Classical in
noncomputable def pP(n:Nat)(p:List Nat)(sz l0 k esz:Nat)(lo hi mx:Option I):Option (List I)→Option I
 |some fs=>if sz=esz then iL n p sz l0 k fs.length lo hi mx else none
 |none=>none
noncomputable def mT(A:af)(esz:Nat)(lo hi mx:Option I):I→Option I
 | .slice sz es=>if sz=esz then ke sz es lo hi mx else none
 | .nils sz=>if sz=esz then ke sz [] lo hi mx else none
 | .c0 sz=>if sz=esz then ke sz [] lo hi mx else none
 | .view n p sz l0 k=>pP n p sz l0 k esz lo hi mx (fO (fk p (A.o n)))
 |_=>none
open Classical in
noncomputable def iO(esz:Nat):Option (List I)→Option I
 |some es=>if (es.all fun e=>e.size==esz)=true∧I.cg es=true then some (.slice esz es) else none
 |none=>none
open Classical in
noncomputable def rH(A:af)(d:Option Nat)(e esz bytes n l T sz':Nat)(es:List I)(rest:List aE):I→cP
 | .slice sz ys=>if zq e esz bytes l sz ys T sz' es then aF rest ((A.aU n (.b9 e esz (es++ys))).aT d (.own n (es.length+ys.length))) else .fail
 |_=>.fail
open Classical in
noncomputable def qa(A:af)(d:Option Nat)(e esz bytes:Nat)(z:I)(n l T:Nat)(xs:List Int)(rest:List aE):I→cP
 | .slice _ ys=>if zr e esz bytes l ys T xs z then aF rest ((A.aU n (.c4 e (xs++r5 ys))).aT d (.own n (xs.length+ys.length))) else .fail
 |_=>.fail
noncomputable def rG(A:af)(d:Option Nat)(e esz bytes:Nat)(z:I)(n l:Nat)(x:I)(rest:List aE):Option ah→cP
 |some (.b9 T sz' es)=>rH A d e esz bytes n l T sz' es rest x
 |some (.c4 T xs)=>qa A d e esz bytes z n l T xs rest x
 |_=>.fail
noncomputable def gE(A:af)(d:Option Nat)(e esz bytes:Nat)(z x:I)(rest:List aE):I→cP
 | .own n l=>rG A d e esz bytes z n l x rest (A.o n)
 |s=>fu A d esz bytes z s (eB A esz s) (eB A esz x) (aF rest)
section
variable (d:Option Nat) (rest:List aE) (A:af)
noncomputable def qM(neg:Bool)(x:I):Bool→cP
 |true=>.any (fun m=>m<2) (fun m=>aF rest (A.aT d (.bool (m==0))))
 |false=>cX (qL neg x) (dq d rest A)
theorem anU(neg:Bool)(x:aM):bR A d (.nilS neg x) rest=qM d rest A neg (ae A x) (kK (ae A x)):=by
 simp only[bR,bA,bF];cases kK (ae A x)
 ·simp only[zz6,if_false,qM,qL];cases ae A x <;>rfl
 ·rfl
theorem anM(x:aM):bR A d (.lenT x) rest=cX (Ml (ae A x)) (dq d rest A):=by
 simp only[bR,bA,bF];cases ae A x <;>rfl
theorem anZ(esz:Nat)(x:aM)(lo hi mx:Option aM):bR A d (.sl esz x lo hi mx) rest=cX (mT A esz (lo.map (ae A)) (hi.map (ae A)) (mx.map (ae A)) (ae A x)) (dq d rest A):=by
 simp only[bR,bA,bF];cases ae A x <;>try rfl
 rename_i n p sz l0 k;simp only[mT,mf,ib];cases fk p (A.o n) with
 |none=>rfl
 |some c=>cases c <;>simp only[fO,I.dD,pP] <;>(first | rfl | (split <;>rfl))
theorem anw(T esz:Nat)(ps:List aM):bR A d (.bs T esz ps) rest=cX (iO esz (cn false A (ps.map (ae A)))) (dq d rest A):=by
 simp only[bR,bA,bF];cases cn false A (ps.map (ae A)) <;>simp only[iO] <;>rfl
theorem anr(e esz bytes:Nat)(z:I)(s x:aM):bR A d (.dH e esz bytes z s x) rest=gE A d e esz bytes z (ae A x) rest (ae A s):=by
 simp only[bR,bA];generalize ae A s=s';generalize ae A x=x';cases s' <;>simp only[gE]
 rename_i n l;cases x' <;>simp only <;>generalize A.o n=z <;>(cases z with
  |none=>rfl
  |some y=>cases y <;>simp only[rG,rH,qa])
end
theorem Ny :
  (∀ d rest A neg x,bR A d (.nilS neg x) rest=qM d rest A neg (ae A x) (kK (ae A x)))∧(∀ d rest A neg x,qM d rest A neg x false=cX (qL neg x) (dq d rest A))∧(∀ z,kK (.nils z)=false)∧(∀ n p sz lo k,kK (.view n p sz lo k)=false)∧(∀ d rest A x,bR A d (.lenT x) rest=cX (Ml (ae A x)) (dq d rest A)) ∧
  (∀ d rest A esz x lo hi mx,bR A d (.sl esz x lo hi mx) rest=cX (mT A esz (lo.map (ae A)) (hi.map (ae A)) (mx.map (ae A)) (ae A x)) (dq d rest A)) ∧
  (∀ d rest A T esz ps,bR A d (.bs T esz ps) rest=cX (iO esz (cn false A (ps.map (ae A)))) (dq d rest A))∧(∀ d rest A e esz bytes z s x,bR A d (.dH e esz bytes z s x) rest=gE A d e esz bytes z (ae A x) rest (ae A s)) ∧
  (∀ A d e esz bytes z x rest n l,gE A d e esz bytes z x rest (.own n l)=rG A d e esz bytes z n l x rest (A.o n))∧(∀ A d e esz bytes z n l x rest T sz es,rG A d e esz bytes z n l x rest (some (.b9 T sz es))=rH A d e esz bytes n l T sz es rest x)∧(∀ A d e esz bytes z n l x rest T xs,rG A d e esz bytes z n l x rest (some (.c4 T xs))=qa A d e esz bytes z n l T xs rest x) ∧
  (∀ neg z,qL neg (.nils z)=some (.bool (!neg))) :=
 ⟨anU,fun _ _ _ _ _=>rfl,fun _=>rfl,fun _ _ _ _ _=>rfl,anM,anZ,anw,anr,fun _ _ _ _ _ _ _ _ _ _=>rfl,fun _ _ _ _ _ _ _ _ _ _ _ _ _=>rfl,fun _ _ _ _ _ _ _ _ _ _ _ _=>rfl,fun _ _=>rfl⟩
theorem fI(p:Nat→Bool)(xs ys:List I):I.bV p (xs++ys)=(I.bV p xs&&I.bV p ys):=by
 induction xs with
 |nil=>simp[I.bV]
 |cons x xs ih=>simp[I.bV,ih,Bool.and_assoc]
section
variable {α:Type} [Enc α]
theorem m9{A:af}{d:Option Nat}(e:Nat)(esz bytes n:Nat){l:Nat}{es ys:List α}{rest:List aE}(hl:l=es.length)(hs:Enc.sz α=esz)(hy:ys≠[])(h1:es.length+ys.length≤maxLen)(h2:(es.length+ys.length)*bytes≤140737488355328) :
  rH A d e esz bytes n l e esz (es.map enc) rest (enc ys)=aF rest ((A.aU n (.b9 e esz ((es++ys).map enc))).aT d (.own n (es++ys).length)):=by
 simp only[gT,rH];rw[if_pos ⟨by simpa using hl,hs,rfl,rfl,by simpa using hy,by simpa using h1,by simpa using h2⟩];simp
theorem nc(esz:Nat){ys:List α}(hs:Enc.sz α=esz):iO esz (some (ys.map enc))=some (enc ys):=by
 have h1:((ys.map enc).all fun e:I=>e.size==esz)=true:=by
  simp only[zx3,zw1];rintro x ⟨y,_,rfl⟩;simp[Enc.size,hs]
 simp only[iO,gT];rw[if_pos ⟨h1,lB ys⟩,hs]
theorem nW(esz:Nat)(y:α)(hs:Enc.sz α=esz):iO esz (some [enc y])=some (enc [y]):=nc (ys:=[y]) esz hs
theorem mq(sz:Nat){T k:Nat}{es:List α}(hk:k=es.length)(hs:Enc.sz α=sz):pb k (some (.b9 T sz (es.map enc)))=some (enc es):=by
 simp only[pb,zy1];rw[if_pos ⟨hk,lB es⟩,gT,hs]
theorem c9(p:Nat→Bool)(l:List α):I.bV p (l.map enc)=true:=by
 induction l with
 |nil=>rfl
 |cons x l ih=>simp only[zy2,I.bV,bg,ih,zw7]
theorem amy(A:af)(n k T sz:Nat)(es:List α)(ho:A.o n=some (.b9 T sz (es.map enc)))(hk:k=es.length):jj A (.own n k)=some (.int .i64 es.length):=by
 simp only[jj,ho,zy1,hk,if_true]
end
theorem L4 :
  (∀ n:Int,iO 1 (some [.int .i64 n])=some (enc [n]))∧(∀ (T:Nat) (es:List Int),pb es.length (some (.b9 T 1 (es.map enc)))=some (enc es)) :=
 ⟨fun n=>nW 1 n rfl,fun _ _=>mq 1 rfl rfl⟩
theorem aB.SO{A:af}{d n T sz z:Nat}(hd:A.t d=.nils z)(hn:A.o n=none)(hlt:n<1000000):aB A ((A.aU n (.b9 T sz [])).put d (.own n 0)):=by
 rintro c a w ⟨D,E,h⟩;have az:E n=none:=by have:=h.bQ n;rw[hn] at this;exact this
 have hl:ec w D E w D (fun m=>if m=n then some (.rw none 0) else E m):=by
  have eK:∀ {m:Nat} {e:bZ},E m=some e→(if m=n then some (.rw none 0) else E m)=some e:=fun {m e} he=>by
   have:m≠n:=fun e=>by rw[e,az] at he;cases he
   rw[if_neg this];exact he
  refine ⟨fun _ _ h=>h,fun _ _ _ _ h=>h,fun m b aV he=>eK he,fun m aG l he =>?_,fun m b he=>eK he,fun m b he=>eK he,fun _ _ _ _ h=>h⟩
  ·have:m≠n:=fun e=>by rw[e,az] at he;cases he
   exact ⟨aG,l,by simp only[if_neg this];exact he,zz7 _,fun _=>rfl⟩
 refine ⟨D,fun m=>if m=n then some (.rw none 0) else E m,h.sz,h.fj,fun t =>?_,h.eh,h.dh,h.dy,fun m =>?_,fun m m' e e' b h1 h2 h3 h4 =>?_,fun m e hm =>?_,h.fx,h.cV,h.fD,h.gl⟩
 ·simp only[af.put,af.aU];by_cases ht:t=d
  ·subst ht;simp only[if_true];have hv:=h.eH t;rw[hd] at hv;obtain ⟨cs,q1,q2⟩:=hv;simp only[ai] at q2;subst q2;refine ⟨[.slice none 0 0],by simpa[bN,I.isAgg] using q1,?_⟩;simp only[ai,if_true];exact ⟨none,0,rfl,zz7 _,⟨_,_,_,rfl⟩,fun _=>trivial⟩
  ·simp only[if_neg ht];exact a7.bO hl (h.eH t)
 ·simp only[af.put,af.aU];by_cases hm:m=n
  ·subst hm;simp only[if_true,df];exact ⟨none,by simp,by simp,trivial⟩
  ·simp only[if_neg hm];exact (h.bQ m).bO hl (by simp only[if_neg hm]) fun _ _ _ _=>⟨rfl,fun _ ho=>ho⟩
 ·by_cases hm:m=n <;>by_cases hm':m'=n
  ·rw[hm,hm']
  ·simp only[if_pos hm,u8] at h1;subst h1;simp[bZ.aG] at h3
  ·simp only[if_pos hm',u8] at h2;subst h2;simp[bZ.aG] at h4
  ·simp only[if_neg hm] at h1;simp only[if_neg hm'] at h2;exact h.da m m' e e' b h1 h2 h3 h4
 ·have hmn:m≠n:=fun e=>by rw[e,h.kS (.inr hlt)] at hm;cases hm
  simp only[if_neg hmn];exact h.en m e hm
theorem aB.p9{ts:List (Nat×I)}{os:List (Nat×ah)}(d n T sz z:Nat)(hd:cm ts d=.nils z)(hn:ao os n=none){B:af}(h:aB (aw ((d,.own n 0)::ts) ((n,.b9 T sz [])::os)) B)(hlt:n<1000000:=by decide):aB (aw ts os) B :=
 ((aB.SO (A:=aw ts os) (T:=T) (sz:=sz) hd hn hlt).trans (by rw[py,uH];exact aB.refl _)).trans h
def aX.g{n:Nat}(x:aX n Int)(k:Nat):Int:=x.l.getD k 0
theorem aX.ub{n k:Nat}(x:aX n Int)(h:k<n):x.l[k]'(x.lt h)=x.g k:=by simp[aX.g,x.lt h]
theorem eL{n k:Nat}{p:List Nat}(x:aX n Int)(h:k<n):fU k p (some (x.l.map enc))=(I.int .i64 (x.g k)).at p:=by
 rw[Tf h,x.ub h];rfl
theorem od{n k:Nat}(x:aX n Int)(h:k<n):(x.l.map (enc (α:=Int)))[k]?=some (I.int .i64 (x.g k)):=by
 rw[ali x h,x.ub h];rfl
theorem Nn:(∀ k n,cj none (.int k n)=true)∧(∀ b,cj none (.bool b)=true)∧(∀ z es,cj none (.slice z es)=true)∧(∀ f es,cj none (.func f es)=true)∧(∀ z,cj none (.nils z)=true)∧(∀ n k,cj none (.own n k)=true) :=
 ⟨fun _ _=>rfl,fun _=>rfl,fun _ _=>rfl,fun _ _=>rfl,fun _=>rfl,fun _ _=>rfl⟩
theorem rF{p:Nat→Bool}{n:Nat}(h:∀ k,k<n→p k=true):(List.range n).all p=true:=by
 simp only[zx3,zw4];exact h
theorem oX{p:Nat→Bool}{n:Nat}(i:Nat)(hi:i<n)(h:p i=false):(List.range n).all p=false:=by
 simp only[List.all_eq_false,zw4];exact ⟨i,hi,by simp[h]⟩
theorem ab:(type_of% @p8)∧(type_of% @Nx)∧(type_of% @Ny)∧(type_of% @L4)∧(type_of% @Nn)∧(type_of% @Q4)∧(type_of% @Fh)∧(type_of% @BN)∧(∀ n:Int,(enc n:I)=.int .i64 n)∧(∀ n:Bool,(enc n:I)=.bool n) ∧
  (∀ {α β:Type} (f:α→β) (x:α) (xs:List α),List.map f (x::xs)=f x::List.map f xs)∧(∀ {α β:Type} (f:α→β),List.map f []=[])∧(∀ {α:Type} (xs:List α),[]++xs=xs)∧(∀ n:Nat,(n:Int).toNat=n)∧(∀ {α β:Type} (f:α→β) (x:α),Option.map f (some x)=some (f x)) ∧
  (∀ n:Nat,0≤(n:Int))∧((!true)=false)∧((!false)=true)∧((false=true)=False)∧((true=false)=False) :=
 ⟨@p8,@Nx,@Ny,@L4,@Nn,@Q4,@Fh,@BN,ig,EU,fun _ _ _=>rfl,fun _=>rfl,fun _=>rfl,fun _=>rfl,fun _ _=>rfl,fun n=>Int.natCast_nonneg n,rfl,rfl,by simp,by simp⟩
end Go.Abs
namespace Go.Abs
open Go Go.RowKit
open Enc (enc)
theorem lx.bp{P:Program}{f:FuncId}{fn:Func}{x:aR}{rs:List bj}{Y:Value→List I→List (Nat×ah)→cO→Prop}{args:List I}{os:List (Nat×ah)}{post:cO}(hf:P.funcs[f]?=some fn)(hcall:iC P f=true)(hc:(fn.body.bind (fF P fn.ntmps))=some x)
  (hrs:jx P fn.results.toList=some rs) (hn:args.length≤fn.ntmps) (hn2:fn.ntmps≤1000000) (hos:∀ m,aq os m=true→1000000≤m) (h:I.iM args→∀ (w:World) (D:aW) (E:a8),U ⟨P,w,D,fn.ntmps,dJ E,E,Y,none⟩ x (oM rs post) (aw (bl 0 args) os)):lx P f Y args os post:=by
 obtain ⟨body,hb,hc'⟩:=Option.bind_eq_some_iff.1 hc;refine ⟨hcall,fun w D E vs hy hD ho hv =>?_⟩;exact (lx.uU hf hb hcall hc' hrs hn (fun m hm=>⟨zu4 hn2 (hos m hm),hos m hm⟩) (fun w D E=>(h (vq _ _ hv) w D E).sub (QP args os))).2 w D E vs hy hD ho hv
theorem cF.bp{P:Program}{f:FuncId}{fn:Func}{x:aR}{rs:List bj}{args:List I}{os:List (Nat×ah)}{post:cO}(hf:P.funcs[f]?=some fn)(hcall:iC P f=true)(hc:(fn.body.bind (fF P fn.ntmps))=some x)
  (hrs:jx P fn.results.toList=some rs) (hn:args.length≤fn.ntmps) (hn2:fn.ntmps≤1000000) (hos:∀ m,aq os m=true→1000000≤m) (h:I.iM args→∀ (w:World) (D:aW) (E:a8),U ⟨P,w,D,fn.ntmps,dJ E,E,jk,none⟩ x (oM rs post) (aw (bl 0 args) os)):cF P f args os post :=
 cF.MX (lx.bp hf hcall hc hrs hn hn2 hos h)
theorem pj{A:af} : ∀ n x,ao [] n=some x→A.o n=some x∧x.only (aq [])=true∧x.eZ=true:=fun n x h=>by simp[ao] at h
theorem iE{A:af}{k:Nat}{c:I}(h1:A.o k=some (.box c))(h2:∀ p,c.only p=true):∀ n x,ao [(k,.box c)] n=some x→A.o n=some x∧x.only (aq [(k,.box c)])=true∧x.eZ=true:=fun n x h=>by
 simp only[ao] at h;split at h
 ·rename_i hn;subst hn;simp only[u8] at h;subst h;exact ⟨h1,h2 _,rfl⟩
 ·cases h
theorem dn.nil{aC:Bool}{ρ:List (Nat×Nat)}{os0:List (Nat×ah)}{r:I}(h1:∀ p,r.only p=true)(h2:aC=true→r.cY=true):dn aC ρ [] os0 r [] :=
 ⟨fun m x h=>by simp[ao] at h,fun m m' h=>by simp[aq,ao] at h,fun m h=>by simp[aq,ao] at h,fun m h=>by simp[aq,ao] at h,h1 _,h2⟩
theorem cz{k:Nat}{x:ah}{m:Nat} : aq [(k,x)] m=true↔m=k:=by
 simp only[aq,ao];split <;>simp_all
theorem dn.oG{aC:Bool}{k d:Nat}{os0:List (Nat×ah)}{r c:I}(h1:∀ p,c.only p=true)(h2:aC=true→c.cY=true)(h3:r.only (aq [(k,.box c)])=true)(h4:aC=true→r.cY=true)(h5:ao os0 d=none)(h6:d<1000000):dn aC [(k,d)] [] os0 r [(k,.box c)]:=by
 refine ⟨fun m x h =>?_,fun m m' h h' _ =>?_,fun m h=>by simp[aq,ao] at h,fun m h _ =>?_,h3,h4⟩
 ·simp only[ao] at h;split at h
  ·simp only[u8] at h;subst h;exact ⟨h1 _,rfl,h2⟩
  ·cases h
 ·rw[cz.1 h,cz.1 h']
 ·rw[cz.1 h];simp[bD,h5,h6]
theorem dn.one{aC:Bool}{k d:Nat}{x:ah}{os0:List (Nat×ah)}{r c:I}(h1:∀ p,c.only p=true)(h2:aC=true→c.cY=true)(h3:r.only (aq [(k,.box c)])=true)(h4:aC=true→r.cY=true):dn aC [(k,d)] [(k,x)] os0 r [(k,.box c)]:=by
 refine ⟨fun m x h =>?_,fun m m' h h' _ =>?_,fun m h =>?_,fun m h h' =>?_,h3,h4⟩
 ·simp only[ao] at h;split at h
  ·simp only[u8] at h;subst h;exact ⟨h1 _,rfl,h2⟩
  ·cases h
 ·rw[cz.1 h,cz.1 h']
 ·rw[cz.1 h];exact cz.2 rfl
 ·rw[cz.1 h] at h';have:aq [(k,x)] k=true:=cz.2 rfl;rw[this] at h';cases h'
theorem fK.nil{ρ:List (Nat×Nat)}{os0:List (Nat×ah)} : fK ρ [] os0:=⟨fun m x h=>by simp[ao] at h,fun m m' h=>by simp[aq,ao] at h⟩
mutual
theorem sD(ρ:Nat→Nat):∀ x:I,x.bJ=true→x.aN ρ=x
 | .agg fs,h=>by simp only[I.aN,I.bJ] at *;rw[pH ρ fs h]
 | .slice _ es,h=>by simp only[I.aN,I.bJ] at *;rw[pH ρ es h]
 | .ref x,h=>by simp only[I.aN,I.bJ] at *;rw[sD ρ x h]
 | .func _ caps,h=>by simp only[I.aN,I.bJ] at *;rw[pH ρ caps h]
 | .iface _ v,h=>by simp only[I.aN,I.bJ] at *;rw[sD ρ v h]
 | .bool _,_ | .int _ _,_ | .db _,_ | .nilp,_ | .dz,_ | .eg,_ | .raw _,_ | .nils _,_ | .c0 _,_=>by simp only[I.aN]
 | .c7 ks vs,h=>by simp only[I.aN,I.bJ,zz3] at *;rw[pH ρ ks h.1,pH ρ vs h.2]
 | .ptr _ _,h | .own _ _,h | .view _ _ _ _ _,h | .mref _,h | .dI _,h | .undef,h | .dx,h | .tuple _,h=>by simp[I.bJ] at h
theorem pH(ρ:Nat→Nat):∀ xs:List I,I.cg xs=true→I.cZ ρ xs=xs
 | [],_=>rfl
 |x::xs,h=>by
  simp only[I.cg,zz3] at h;simp only[I.cZ,sD ρ x h.1,pH ρ xs h.2]
end
theorem fy :
  (∀ (k:IntKind) n (ρ:Nat→Nat),(I.int k n).aN ρ=.int k n)∧(∀ (b:Bool) (ρ:Nat→Nat),(I.bool b).aN ρ=.bool b)∧(∀ n p (ρ:Nat→Nat),(I.ptr n p).aN ρ=.ptr (ρ n) p) ∧
  (∀ n p sz lo k (ρ:Nat→Nat),(I.view n p sz lo k).aN ρ=.view (ρ n) p sz lo k)∧(∀ fs (ρ:Nat→Nat),(I.agg fs).aN ρ=.agg (I.cZ ρ fs))∧(∀ fs (ρ:Nat→Nat),(I.tuple fs).aN ρ=.tuple (I.cZ ρ fs))∧(∀ f fs (ρ:Nat→Nat),(I.func f fs).aN ρ=.func f (I.cZ ρ fs)) ∧
  (∀ ρ:Nat→Nat,I.cZ ρ []=[])∧(∀ (ρ:Nat→Nat) x xs,I.cZ ρ (x::xs)=x.aN ρ::I.cZ ρ xs)∧(∀ (ρ:Nat→Nat) (x:I),(ah.box x).aN ρ=.box (x.aN ρ)) ∧
  (∀ (z:Nat) (ρ:Nat→Nat),(I.nils z).aN ρ=.nils z)∧(∀ (z:Nat) (ρ:Nat→Nat),(I.c0 z).aN ρ=.c0 z) ∧
  (∀ n,bD [] n=n)∧(∀ a b r n,bD ((a,b)::r) n=if n=a then b else bD r n)∧(∀ ρ,dB ρ []=[])∧(∀ ρ k x os,dB ρ ((k,x)::os)=(bD ρ k,x.aN (bD ρ))::dB ρ os) :=
 ⟨fun _ _ _=>by simp only[I.aN],fun _ _=>by simp only[I.aN],fun _ _ _=>by simp only[I.aN],fun _ _ _ _ _ _=>by simp only[I.aN],fun _ _=>by simp only[I.aN],fun _ _=>by simp only[I.aN],fun _ _ _=>by simp only[I.aN],
  fun _=>rfl,fun _ _ _=>by simp only[I.cZ],fun _ _=>rfl,fun _ _=>by simp only[I.aN],fun _ _=>by simp only[I.aN],fun _=>rfl,fun _ _ _ _=>rfl,fun _=>rfl,fun _ _ _ _=>rfl⟩
section
variable {α:Type} [Enc α]
theorem ij(ρ:Nat→Nat)(x:α):(enc x).aN ρ=enc x:=sD ρ _ (dL x)
theorem eP(ρ:Nat→Nat)(l:List α):I.cZ ρ (l.map enc)=l.map enc:=pH ρ _ (lB l)
class oU (α:Type) [Enc α]:Prop where
 cY:∀ x:α,(enc x).cY=true
theorem EV[oU α](x:α):(enc x).cY=true:=oU.cY x
theorem uu[oU α](l:List α):I.jF (l.map enc)=true:=by
 induction l with
 |nil=>rfl
 |cons x l ih=>simp only[zy2,I.jF,EV,ih,zw7]
instance:oU Int:=⟨fun _=>rfl⟩
instance {n:Nat} [oU α]:oU (aX n α):=⟨fun x=>by simp only[enc,I.cY];exact uu x.l⟩
theorem pR(A:af)(esz:Nat)(l:List α)(hs:Enc.sz α=esz):eB A esz (enc l)=some (l.map enc):=by
 simp only[gT,eB,hs,if_true]
theorem vA(l:List α):kK (enc l)=l.isEmpty:=by
 simp only[gT,kK];cases l <;>rfl
theorem MN(neg:Bool)(l:List α)(h:l≠[]):qL neg (enc l)=some (.bool neg):=by
 simp only[gT,qL];cases l with
 |nil=>exact absurd rfl h
 |cons=>rfl
section
variable {P:Program} {Y:Value→List I→List (Nat×ah)→cO→Prop} {K:af→Prop} {A:af} {rest:List aE} {d:Nat} {e esz bytes:Nat} {q:Nat}
theorem bn.v8(z:α){l:List α}(hs:Enc.sz α=esz)(hl:l≠[])(hf:A.o d=none)(hb:l.length*bytes≤140737488355328)(hml:l.length≤maxLen)
  (h:∀ m,bn P Y false K (aF rest ((A.aU d (.box (.agg ((l++List.replicate m z).map enc)))).aT (some d) (.view d [] esz 0 l.length)))):bn P Y false K (gE A (some d) e esz bytes (enc z) (enc l) rest (.c0 q)):=by
 have hne:l.map (enc (α:=α))≠[]:=by simpa using hl
 have h1:eB A esz (.c0 q)=some []:=rfl;simp only[gE,h1,pR A esz l hs,fu,if_neg hne,gJ,hf,zv0,zz4,zy1,if_pos (v6 hb hml),zy3];refine .any rfl fun m _ =>?_;have:=h m;simp only[zx4,List.map_replicate] at this;exact this
theorem aqP(z:I)(hs:Enc.sz α=esz):gE A (some d) e esz bytes z (enc ([]:List α)) rest (.c0 q)=aF rest (A.aT (some d) (.c0 q)):=by
 have h1:eB A esz (.c0 q)=some []:=rfl;simp only[gE,h1,pR A esz ([]:List α) hs,fu,zx1,if_true]
theorem anA(esz:Nat)(z:I)(x:aM)(rest:List aE)(A:af):bR A none (.jb esz z x) rest=nY A esz z (aF rest) (ae A x):=rfl
theorem apI(z:α)(k:Nat):I.cT (List.replicate k (enc z))=List.replicate k (Enc.aV α):=by
 have:List.replicate k (enc z)=(List.replicate k z).map (enc (α:=α)):=by simp
 rw[this,sK];simp
theorem rO(z:α){n lo k:Nat}{xs:List α}(ho:A.o n=some (.box (.agg (xs.map enc))))(hk:lo+k≤xs.length) :
  nY A esz (enc z) (aF rest) (.view n [] esz lo k)=aF rest (A.aU n (.box (.agg ((xs.take lo++(List.replicate k z++xs.drop (lo+k))).map enc)))):=by
 have h1:I.cT (List.replicate k (enc z))=I.cT (((xs.map (enc (α:=α))).drop lo).take k):=by
  rw[apI,←List.map_drop,←List.map_take,sK,zy4,zy8]
  congr 1;omega
 have h2:(I.agg (xs.map (enc (α:=α)))).at []=some (.agg (xs.map enc)):=rfl;simp only[nY,ho,h2];rw[if_pos ⟨rfl,h1⟩];simp only[iS,fT,zx4,List.map_take,List.map_drop,List.map_replicate,zv4]
theorem pQ{n:Nat}{p:List Nat}{sz k total i:Nat}(h:i≤total)(h0:0<total):iL n p sz 0 k total none (some (.int .i64 i)) none=some (.view n p sz 0 i):=by
 simp only[iL,iN];rw[if_pos ⟨by omega,by omega,by omega⟩,if_neg (by omega)];simp
theorem kG{n:Nat}{p:List Nat}{sz k total i:Nat}(h:i≤k)(hk:k≤total)(h0:i<total):iL n p sz 0 k total (some (.int .i64 i)) none none=some (.view n p sz i (k-i)):=by
 simp only[iL,iN];rw[if_pos ⟨by omega,by omega,by omega⟩,if_neg (by omega)];simp
theorem yR{m:Nat}{p:List Nat}{sz lo l j:Nat}{fs:List I}(h:j<l):lK m p sz lo l sz (j:Int) (some fs)=some (.ptr m (p++[lo+j])):=by
 simp only[lK,true_and];rw[if_pos ⟨by omega,by omega⟩];simp
theorem pc{sz k:Nat}{xs:List α}(hs:Enc.sz α=sz):lH sz 0 k (some (xs.map enc))=some (enc (xs.take k)):=by
 have h:((xs.map (enc (α:=α))).drop 0).take k=(xs.take k).map enc:=by rw[List.drop_zero,List.map_take]
 simp only[lH,h];rw[if_pos (lB _),gT,hs]
end
end
theorem al5(A:af)(esz m:Nat)(p:List Nat)(sz lo l:Nat)(k:Int):jh A esz k (.view m p sz lo l)=lK m p sz lo l esz k (fO (fk p (A.o m))):=rfl
theorem amz(A:af)(m:Nat)(p:List Nat)(sz lo l:Nat):jj A (.view m p sz lo l)=some (.int .i64 l):=rfl
theorem apL(A:af)(esz:Nat)(lo hi mx:Option I)(n:Nat)(p:List Nat)(l0 k:Nat):mT A esz lo hi mx (.view n p esz l0 k)=pP n p esz l0 k esz lo hi mx (fO (fk p (A.o n))):=rfl
theorem apM(n:Nat)(p:List Nat)(sz l0 k:Nat)(lo hi mx:Option I)(fs:List I):pP n p sz l0 k sz lo hi mx (some fs)=iL n p sz l0 k fs.length lo hi mx:=by simp[pP]
theorem cL :
  (∀ A esz m p sz lo l k,jh A esz k (.view m p sz lo l)=lK m p sz lo l esz k (fO (fk p (A.o m))))∧(∀ A m p sz lo l,jj A (.view m p sz lo l)=some (.int .i64 l)) ∧
  (∀ A esz lo hi mx n p l0 k,mT A esz lo hi mx (.view n p esz l0 k)=pP n p esz l0 k esz lo hi mx (fO (fk p (A.o n))))∧(∀ n p sz l0 k lo hi mx fs,pP n p sz l0 k sz lo hi mx (some fs)=iL n p sz l0 k fs.length lo hi mx) ∧
  (∀ esz z x rest A,bR A none (.jb esz z x) rest=nY A esz z (aF rest) (ae A x))∧(∀ rest A d esz,bR A d (.bs0 esz) rest=aF rest (A.aT d (.c0 esz))) :=
 ⟨al5,amz,apL,apM,anA,fun _ _ _ _=>rfl⟩
theorem eA(rs:List bj)(post:cO)(A:af):oM rs post .ret A=lY rs post A:=rfl
theorem mN(rs:List bj)(post:cO)(A:af):oM rs post .normal A=lY rs post A:=rfl
theorem aB.iQ{ts:List (Nat×I)}{os0:List (Nat×ah)}(ns:List Nat)(d:Nat){x y:I}(hd:cm ts d=x)(h:bC true (aw ts (ji ns os0)) x=some y)(ho:aY (fun n => !ns.contains n) (cR ns os0)) :
  aB (aw ts os0) (aw ((d,y)::gU ns ts) (cR ns os0)):=by
 rintro c a w ⟨D,E,hs⟩;obtain ⟨D1,E1,hs1,hw⟩:=hs.FA ns ho;have hu:eI (aw ts (ji ns os0)) (aw ts os0):=fun n z hz=>by
  simp only[aw,px] at hz ⊢;split at hz
  ·exact hz
  ·cases hz
 have hx:x.cq=true:=by cases x <;>first | rfl | simp[bC] at h
 have hv:=hs.eH d;simp only[aw] at hv;rw[hd] at hv;have h1:aK w D E [x] [a.tmps.getD d undef]:=nL [x] _ (.cons hv .nil) (by intro z hz;simp only[zu6] at hz;subst hz;exact hx);have h2:=nq (E':=E1) hs hu hw [x] [y] _ h1 (by simp only[cn,h]);have h3:a7 w D1 E1 y (a.tmps.getD d undef):=by
  simp only[aK] at h2;obtain ⟨v',rest,cs,e,k1,k2,_⟩:=h2;simp only[List.cons.injEq] at e;obtain ⟨e1,_⟩:=e;rw[e1];exact nz k1 k2
 refine ⟨D1,E1,hs1.sz,hs1.fj,fun t =>?_,hs1.eh,hs1.dh,hs1.dy,hs1.bQ,hs1.da,hs1.en,hs1.fx,hs1.cV,hs1.fD,hs1.gl⟩;simp only[aw,cm];split
 ·rename_i ht;subst ht;exact h3
 ·exact hs1.eH t
theorem aB.qy{ts ts':List (Nat×I)}{os0 os':List (Nat×ah)}(ns:List Nat)(d:Nat){x y:I}(hd:cm ts d=x)(h:bC true (aw ts (ji ns os0)) x=some y)(ho:aY (fun n => !ns.contains n) (cR ns os0))
  (h1:aQ ((d,y)::gU ns ts) ts') (h2:bt (cR ns os0) os') (h3:br (aq os') ts') (h4:aY (aq os') os'):aB (aw ts os0) (aw ts' os') :=
 (aB.iQ ns d hd h ho).trans (aB.bE h1 h2 h3 h4)
theorem U.AK{c:c6}{Q:Exit→af→Prop}{A:af}{x:aR}(T:af)(h1:U c x (au (fun B=>aB B T) fun _ _=>False) A)(h2:∀ B,aB B T→Q .normal B):U c x Q A :=
 h1.mono fun e B hq=>by
  cases e <;>simp only[au] at hq <;>first
   |exact h2 B hq
   |exact hq.elim
theorem PT{w:World}{D:aW}{E:a8}{p:List Nat}{c x y:I}{cs:List Value}(hr:ai w D E c cs)(h:c.at p=some x)(hxy:∀ ds,ai w D E x ds→ai w D E y ds)(hs:y.aV=x.aV):ai w D E (c.dS p y) cs∧(c.dS p y).aV=c.aV:=by
 obtain ⟨off,c1,c2,c3,h1,rfl,h2,h3⟩:=zY p c x cs hr h;obtain ⟨off',k1,k2,k3,k4⟩:=vc p c x y _ c2 hr h (hxy c2 h3) hs;rw[h1,u8] at k1;subst k1;refine ⟨?_,k4⟩;have e:(c1++c2++c3).take off++c2++(c1++c2++c3).drop (off+c2.length)=c1++c2++c3:=by
  rw[zz5 c1 c2 c3,←h2,List.take_left,List.drop_length_add_append,List.drop_left,zz5]
 rw[←e];exact k3
theorem aB.SP{A:af}{m n T sz z:Nat}{p:List Nat}{b:I}(hm:A.o m=some (.box b))(hp:b.at p=some (.nils z))(hn:A.o n=none)(hlt:n<1000000):aB A ((A.aU n (.b9 T sz [])).aU m (.box (b.dS p (.own n 0)))):=by
 rintro c a w ⟨D,E,h⟩;have az:E n=none:=by have:=h.bQ n;rw[hn] at this;exact this
 have hmn:m≠n:=fun e=>by rw[e,hn] at hm;cases hm
 have hl:ec w D E w D (fun m=>if m=n then some (.rw none 0) else E m):=by
  have eK:∀ {m:Nat} {e:bZ},E m=some e→(if m=n then some (.rw none 0) else E m)=some e:=fun {m e} he=>by
   have:m≠n:=fun e=>by rw[e,az] at he;cases he
   rw[if_neg this];exact he
  refine ⟨fun _ _ h=>h,fun _ _ _ _ h=>h,fun m b aV he=>eK he,fun m aG l he =>?_,fun m b he=>eK he,fun m b he=>eK he,fun _ _ _ _ h=>h⟩
  ·have:m≠n:=fun e=>by rw[e,az] at he;cases he
   exact ⟨aG,l,by simp only[if_neg this];exact he,zz7 _,fun _=>rfl⟩
 refine ⟨D,fun m=>if m=n then some (.rw none 0) else E m,h.sz,h.fj,fun t=>a7.bO hl (h.eH t),h.eh,h.dh,h.dy,fun k =>?_,fun m m' e e' b h1 h2 h3 h4 =>?_,fun m e hm =>?_,h.fx,h.cV,h.fD,h.gl⟩
 ·simp only[af.aU];by_cases hk:k=m
  ·subst hk;have ho:=h.bQ k;rw[hm] at ho;obtain ⟨b',cs,T',h1,h2,h3,h4,h5⟩:=ho;obtain ⟨q1,q2⟩:=PT (y:=.own n 0) (ai.bO hl _ _ h4) hp (fun ds hd=>by
    simp only[ai] at hd;subst hd;simp only[ai,if_true];exact ⟨none,0,rfl,zz7 _,⟨_,_,_,rfl⟩,fun _=>trivial⟩) rfl
   simp only[if_true,df];exact ⟨b',cs,T',by rw[q2];simp only[if_neg hmn];exact h1,h2,h3,q1,h5⟩
  ·simp only[if_neg hk];by_cases hkn:k=n
   ·subst hkn;simp only[if_true,df];exact ⟨none,by simp,by simp,trivial⟩
   ·simp only[if_neg hkn];exact (h.bQ k).bO hl (by simp only[if_neg hkn]) fun _ _ _ _=>⟨rfl,fun _ ho=>ho⟩
 ·by_cases hm:m=n <;>by_cases hm':m'=n
  ·rw[hm,hm']
  ·simp only[if_pos hm,u8] at h1;subst h1;simp[bZ.aG] at h3
  ·simp only[if_pos hm',u8] at h2;subst h2;simp[bZ.aG] at h4
  ·simp only[if_neg hm] at h1;simp only[if_neg hm'] at h2;exact h.da m m' e e' b h1 h2 h3 h4
 ·have hmn:m≠n:=fun e=>by rw[e,h.kS (.inr hlt)] at hm;cases hm
  simp only[if_neg hmn];exact h.en m e hm
theorem aB.vY{ts:List (Nat×I)}{os:List (Nat×ah)}(m n T sz z:Nat)(p:List Nat)(b:I)(hm:ao os m=some (.box b))(hp:b.at p=some (.nils z))(hn:ao os n=none){B:af}(h:aB (aw ts ((m,.box (b.dS p (.own n 0)))::(n,.b9 T sz [])::os)) B)(hlt:n<1000000:=by decide):aB (aw ts os) B :=
 ((aB.SP (A:=aw ts os) (T:=T) (sz:=sz) hm hp hn hlt).trans (by rw[py,py];exact aB.refl _)).trans h
end Go.Abs
