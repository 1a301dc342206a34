/-
  A part of the proof that the law HerdMoves returns true for every input; conditions: none beyond the statement's own. (part 2 of 7)
-/
import Derived.Maps.RangeRun
import Derived.Laws.MakeOwn
import Derived.Orders
import Derived.OrdersIn
import Derived.Test.YtcldiigclhgafaaGreatNfa
set_option linter.unusedSimpArgs false
set_option linter.unusedVariables false
set_option maxHeartbeats 16000000
set_option maxRecDepth 100000
namespace Go.Abs
open Go Go.RowKit
theorem Ek{w:World}{D:aV}{E:a6} : ∀ (l:List cU) (xs ys:List I) (cs ds:List Value),l.all x9=true→jf l xs ys=some true→aL w D E xs cs→aL w D E ys ds→xs=ys∧cs=ds∧∀ v∈cs,∃ k n,v=.int k n
 | [],xs,ys,cs,ds,_,h,hx,hy=>by
  simp only[jf] at h;split at h
  ·simp only[aL] at hx hy;subst hx hy;exact ⟨rfl,rfl,fun v hv=>by simp at hv⟩
  ·cases h
 |t::ts,xs,ys,cs,ds,ha,h,hx,hy=>by
  simp only[List.all_cons,zz4] at ha;simp only[jf] at h;split at h
  case h_2=>cases h
  rename_i f fs g gs;unfold iM at h;split at h
  case h_2=>cases h
  rename_i a b h1 h2;simp only[t7,zz4] at h;obtain ⟨rfl,rfl⟩:=h;simp only[aL] at hx hy;obtain ⟨c1,c2,rfl,p1,p2⟩:=hx;obtain ⟨d1,d2,rfl,q1,q2⟩:=hy;obtain ⟨rfl,rfl,k3⟩:=Ek ts fs gs c2 d2 ha.2 h2 p2 q2;cases t with
  |i k =>
   simp only[cn] at h1;split at h1
   case h_2=>cases h1
   rename_i k1 a k2 b;split at h1
   case isFalse=>cases h1
   rename_i hk;simp only[t7,beq_iff_eq] at h1;subst h1;obtain ⟨rfl,rfl⟩:=hk;simp only[af] at p1 q1;obtain ⟨rfl,_⟩:=p1;obtain ⟨rfl,_⟩:=q1;refine ⟨rfl,rfl,fun v hv =>?_⟩;rcases zx1.1 hv with hv | hv
   ·simp at hv;exact ⟨_,_,hv⟩
   ·exact k3 v hv
  |b | s | bA _ | kq _ _=>simp[x9] at ha
theorem OE:∀ (cs:List Value) (n:Nat),(∀ v∈cs,∃ k m,v=.int k m)→((cs.zip cs).all fun (x,y)=>Instr.sameBits n x y)=true
 | [],_,_=>rfl
 |v::cs,n,h=>by
  obtain ⟨k,m,rfl⟩:=h v (by simp);simp only[List.zip_cons_cons,List.all_cons,zz4];exact ⟨by cases n <;>simp[Instr.sameBits],OE cs n fun v hv=>h v (by simp[hv])⟩
theorem alM{P:Program}{t:TypeId}{ty:cU}{w:World}{D:aV}{E:a6}{x y:I}{u v:Value}(hk:lZ P t=some ty)(h:cn ty x y=some true)(hx:aY w D E x u)(hy:aY w D E y v):x=y∧u=v∧Instr.sameBits 10000 u v=true:=by
 unfold lZ at hk;split at hk
 ·rename_i k hu;simp only[t7] at hk;subst hk;simp only[cn] at h;split at h
  case h_2=>cases h
  split at h
  case isFalse=>cases h
  rename_i hk;simp only[t7,beq_iff_eq] at h;subst h;obtain ⟨rfl,rfl⟩:=hk;rw[(fF hx).1,(fF hy).1];exact ⟨rfl,rfl,by simp[Instr.sameBits]⟩
 ·rename_i fs hu;split at hk
  case h_2=>cases hk
  rename_i l hl;split at hk
  case isFalse=>cases hk
  rename_i hc;simp only[t7] at hk;subst hk;simp only[cn] at h;split at h
  case h_2=>cases h
  rename_i xs ys;obtain ⟨cs,rfl,hc1⟩:=jS hx;obtain ⟨ds,rfl,hd1⟩:=jS hy;obtain ⟨rfl,rfl,h3⟩:=Ek l xs ys cs ds hc.1 h hc1 hd1;refine ⟨rfl,rfl,?_⟩;simp only[Instr.sameBits,beq_self_eq_true,Bool.true_and];exact OE cs _ h3
 ·cases hk
section
variable {P:Program} {w:World} {D:aV} {E:a6}
theorem Dw{t:TypeId}{ty:cU}{em:Bool}{x y:I}{v:Value}{r:Bool}(hk:lZ P t=some ty)(hx:aY w D E x v)(h:cn ty x y=some r)(n:Nat):(Instr.checkKey em (n+2) t v).run P w=.ok () w:=by
 unfold lZ at hk;split at hk
 ·rename_i k hu;simp only[t7] at hk;subst hk;simp only[cn] at h;split at h
  case h_2=>cases h
  rename_i k1 a k2 b;split at h
  case isFalse=>cases h
  rename_i hq;rw[(fF hx).1,hq.1];exact MapKept.run_checkKey hu (by simp[MapKept.IsKey]) em (n+1)
 ·rename_i fs hu;split at hk
  case h_2=>cases hk
  rename_i l hl;split at hk
  case isFalse=>cases hk
  rename_i hc;simp only[t7] at hk;subst hk;simp only[cn] at h;split at h
  case h_2=>cases h
  rename_i xs ys;obtain ⟨cs,rfl,hc1⟩:=jS hx;obtain ⟨d,hd⟩:∃ d,d=11:=⟨_,rfl⟩
  rw[show (12:Nat)=d+1 from by omega] at hl;simp only[gX,hu] at hl;split at hl
  case isFalse=>cases hl
  rename_i hc2;simp only[zz1,cU.bA.injEq] at hl;obtain ⟨l',hl,rfl⟩:=hl;rw[show n+2=(n+1)+1 from rfl,Instr.checkKey];simp only[Sem.run_bind,run_underlying hu,Result.andThen_ok];rw[←Array.forIn_toList];have key:∀ (L:List Field) (l:List cU) (xs ys:List I) (r:Bool) (c1 c2:List Value),
    (L.mapM fun f=>match gX P d f.type with
     |some ty=>if ty.size=P.cellsOf f.type then some ty else none
     | none => none) = some l → (∀ f ∈ L, f.name ≠ "_" ∧ rm (P.underlying f.type) = true) → qe P c1.length L = true → aL w D E xs c2 → jf l xs ys = some r → c1 ++ c2 = cs →
    Sem.run P (forIn L PUnit.unit (fun (f : Field) (_ : PUnit) => (if f.name ≠ "_" then (do
     let x ←part f.type cs.toArray f.offset
     Instr.checkKey em (n+1) f.type x
     pure (ForInStep.yield PUnit.unit)) else pure (ForInStep.yield PUnit.unit):Sem (ForInStep PUnit)))) w=.ok PUnit.unit w:=by
   intro L
   induction L with
   |nil=>intros;simp
   |cons f L ih =>
    intro l xs ys r c1 c2 hm hn ho hx h htot;simp only[List.mapM_cons,Option.bind_eq_bind,Option.pure_def,Option.bind_eq_some_iff,t7] at hm;obtain ⟨ty,hty,tys,htys,rfl⟩:=hm;split at hty
    case h_2=>cases hty
    rename_i ty' hd';split at hty
    case isFalse=>cases hty
    rename_i hsz;simp only[t7] at hty;subst hty;simp only[jf] at h;split at h
    case h_2=>cases h
    rename_i x xs y ys;unfold iM at h;split at h
    case h_2=>cases h
    rename_i ra rb h1 h2;simp only[aL] at hx;obtain ⟨e1,e2,rfl,k1,k2⟩:=hx;obtain ⟨s,q1,q2,q3⟩:=wc hd' hsz h1;obtain ⟨u,p1,p2⟩:=oY (P:=P) (w:=w) (c1:=c1) (c3:=e2) q1 q2 k1;simp only[qe,zz4,beq_iff_eq] at ho;have hsx:=pK ty' x y ra h1;have hle:e1.length=P.cellsOf f.type:=by rw[af.length _ _ k1,hsx.1,hsz]
    have ih':=ih tys xs ys rb (c1++e1) e2 htys (fun g hg=>hn g (by simp[hg])) (by simp only[zz5,hle];exact ho.2) k2 h2 (by rw[←htot];simp);rw[zz6,htot,←ho.1] at p1;obtain ⟨hnm,hint⟩:=hn f (by simp);have hck:(Instr.checkKey em (n+1) f.type u).run P w=.ok () w:=by
     cases hu:P.underlying f.type with
     |none=>simp[hu,rm] at hint
     |some dd =>
      cases dd <;>simp[hu,rm] at hint
      rename_i q;have hti:ty'=.i q:=by
       rw[show d=10+1 from by omega] at hd';unfold gX at hd';simp only[hu,t7] at hd';exact hd'.symm
      subst hti;simp only[cn] at h1;split at h1
      case h_2=>cases h1
      split at h1
      case isFalse=>cases h1
      rename_i hq;rw[(fF p2).1,hq.1];exact MapKept.run_checkKey hu (by simp[MapKept.IsKey]) em n
    simp only[List.forIn_cons,Sem.run_bind,hnm,ne_eq,not_false_eq_true,if_true,p1,Result.andThen_ok,hck,Sem.run_pure];exact ih'
  rw[key fs.toList l' xs ys r [] cs hl (fun f hf=>⟨by simpa using zx9.1 hc2.2.1 f hf,Array.all_eq_true_iff_forall_mem.1 hc.2 f (Array.mem_toList_iff.1 hf)⟩) hc2.2.2 hc1 h rfl];simp
 ·cases hk
theorem zw{x:I}{xs:List I}{vs:List Value}(h:aK w D E (x::xs) vs):∃ v rest,vs=v::rest∧aY w D E x v∧aK w D E xs rest:=by
 simp only[aK] at h;obtain ⟨v,rest,cs,rfl,h1,h2,h3⟩:=h;exact ⟨v,rest,rfl,mW h1 h2,h3⟩
def pj(r:Option Nat)(es:List MapEntry)(i:Nat)(q:Option (Nat×Value)):Prop :=
 (r=none∧q=none)∨∃ j e,r=some (i+j)∧es[j]?=some e∧q=some (i+j,e.val)
theorem pj.step{r:Option Nat}{es:List MapEntry}{e:MapEntry}{i:Nat}{q:Option (Nat×Value)}(h:pj r es (i+1) q):pj r (e::es) i q:=by
 rcases h with h | ⟨j,e',h1,h2,h3⟩
 ·exact .inl h
 ·exact .inr ⟨j+1,e',by rw[h1];congr 1;omega,by simpa using h2,by rw[h3];congr 2;omega⟩
theorem EI{q:IntKind}{k:I}{v:Value}(hv:aY w D E k v):∀ (ks:List I) (es:List MapEntry) (i:Nat) (r:Option Nat),aK w D E ks (es.map (·.key))→fm (.i q) k ks i=some r →
  ∃ x,Instr.findNow (.int q) v es i=some x∧pj r es i x
 | [],es,i,r,hk,h=>by
  simp only[fm,t7] at h;simp only[aK,List.map_eq_nil_iff] at hk;subst h hk;exact ⟨none,rfl,.inl ⟨rfl,rfl⟩⟩
 |x::ks,es,i,r,hk,h=>by
  obtain ⟨u,rest,e1,hu,hr⟩:=zw hk;cases es with
  |nil=>cases e1
  |cons e es =>
   simp only[zy2,List.cons.injEq] at e1;obtain ⟨rfl,rfl⟩:=e1;simp only[fm] at h;have same:∀ b,cn (.i q) k x=some b→Instr.sameNow (.int q) v e.key=some b:=fun b hb=>by
    simp only[cn] at hb;split at hb
    case h_2=>cases hb
    split at hb
    case isFalse=>cases hb
    rename_i hq;simp only[t7] at hb;subst hb;rw[(fF hv).1,(fF hu).1];simp[Instr.sameNow,hq.1,hq.2]
   split at h
   ·rename_i hb;simp only[t7] at h;subst h;exact ⟨some (i,e.val),by simp[Instr.findNow,same _ hb],.inr ⟨0,e,rfl,rfl,rfl⟩⟩
   ·rename_i hb;obtain ⟨y,h1,h2⟩:=EI hv ks es (i+1) r hr h;exact ⟨y,by simp[Instr.findNow,same _ hb,h1],h2.step⟩
   ·cases h
theorem EF{t:TypeId}{ty:cU}(hty:gX P 12 t=some ty){k:I}{v:Value}(hv:aY w D E k v):∀ (ks:List I) (es:List MapEntry) (i:Nat) (r:Option Nat),aK w D E ks (es.map (·.key))→fm ty k ks i=some r →
  ∃ x,(Instr.findAsking t v es i).run P w=.ok x w∧pj r es i x
 | [],es,i,r,hk,h=>by
  simp only[fm,t7] at h;simp only[aK,List.map_eq_nil_iff] at hk;subst h hk;exact ⟨none,rfl,.inl ⟨rfl,rfl⟩⟩
 |x::ks,es,i,r,hk,h=>by
  obtain ⟨u,rest,e1,hu,hr⟩:=zw hk;cases es with
  |nil=>cases e1
  |cons e es =>
   simp only[zy2,List.cons.injEq] at e1;obtain ⟨rfl,rfl⟩:=e1;simp only[fm] at h;have same:∀ b,cn ty k x=some b→(Op.equal t v e.key).run P w=.ok b w:=fun b hb=>sV 12 t ty hty k x v e.key b hv hu hb _ (by simp[Op.maxDepth]);split at h
   ·rename_i hb;simp only[t7] at h;subst h;exact ⟨some (i,e.val),by simp[Instr.findAsking,same _ hb],.inr ⟨0,e,rfl,rfl,rfl⟩⟩
   ·rename_i hb;obtain ⟨y,h1,h2⟩:=EF hty hv ks es (i+1) r hr h;exact ⟨y,by simp[Instr.findAsking,same _ hb,h1],h2.step⟩
   ·cases h
theorem s8{t:TypeId}{ty:cU}(hk:lZ P t=some ty){k:I}{v:Value}(hv:aY w D E k v){ks:List I}{es:List MapEntry}{r:Option Nat}(hks:aK w D E ks (es.map (·.key)))(h:fm ty k ks 0=some r) :
  ∃ x,(Instr.findKey t v es).run P w=.ok x w∧pj r es 0 x:=by
 have hk0:=hk;unfold lZ at hk;split at hk
 ·rename_i q hu;simp only[t7] at hk;subst hk;obtain ⟨x,h1,h2⟩:=EI hv ks es 0 r hks h;exact ⟨x,by simp[Instr.findKey,run_underlying hu,h1],h2⟩
 ·rename_i fs hu;split at hk
  case h_2=>cases hk
  rename_i l hl;split at hk
  case isFalse=>cases hk
  simp only[t7] at hk;subst hk;cases es with
  |nil =>
   cases ks with
   |nil =>
    simp only[fm,t7] at h;subst h;exact ⟨none,by simp[Instr.findKey,run_underlying hu,Instr.findNow],.inl ⟨rfl,rfl⟩⟩
   |cons x xs=>simp[aK] at hks
  |cons e es =>
   obtain ⟨x,h1,h2⟩:=EF hl hv ks (e::es) 0 r hks h;exact ⟨x,by simp[Instr.findKey,run_underlying hu,Instr.findNow,Instr.sameNow,h1],h2⟩
 ·cases hk
theorem m8:∀ {xs:List I} {vs:List Value} {j:Nat} {v:Value},aK w D E xs vs→vs[j]?=some v→∃ x,xs[j]?=some x∧aY w D E x v
 | [],vs,j,v,h,hj=>by simp only[aK] at h;subst h;simp at hj
 |x::xs,vs,j,v,h,hj=>by
  obtain ⟨u,rest,rfl,h1,h2⟩:=zw h;cases j with
  |zero=>simp only[List.getElem?_cons_zero,t7] at hj;subst hj;exact ⟨x,rfl,h1⟩
  |succ j=>exact m8 (xs:=xs) h2 (by simpa using hj)
end
section
variable {c:cT} {A:ae} {o:Oper} {x:I}
theorem amg{a:Act}{w:World}{D:aV}{E:a6}(hs:aW c A a w D E){m:I}{v:Value}{ks vs:List I}(hv:aY w D E m v)(hm:gN A m=some (ks,vs)) :
  (v=.map none∧ks=[]∧vs=[])∨∃ b es clock,v=.map (some b)∧w.heap[b]?=some (.map es clock)∧aK w D E ks (es.toList.map (·.key))∧aK w D E vs (es.toList.map (·.val)):=by
 unfold gN at hm;split at hm
 ·simp only[t7,Prod.mk.injEq] at hm;obtain ⟨rfl,rfl⟩:=hm;obtain ⟨cs,q1,q2⟩:=hv;simp only[af] at q2;obtain ⟨b,es,ck,q3,q4,q5,q6⟩:=q2;exact .inr ⟨b,es,ck,by simpa[bR,I.isAgg,q3] using q1.symm,q4.1,q5,q6⟩
 ·rename_i n;split at hm
  case h_2=>cases hm
  rename_i ks' vs' hn;simp only[t7,Prod.mk.injEq] at hm;obtain ⟨rfl,rfl⟩:=hm;obtain ⟨cs,q1,q2⟩:=hv;simp only[af] at q2;obtain ⟨b,q3,q4⟩:=q2;obtain ⟨b',es,ck,k1,k2,k3,k4,k5,k6,k7⟩:=hs.map hn;rw[k1] at q3;cases q3;exact .inr ⟨_,es,ck,by simpa[bR,I.isAgg,q4] using q1.symm,k3,k5,k6⟩
 ·simp only[t7,Prod.mk.injEq] at hm;obtain ⟨rfl,rfl⟩:=hm;obtain ⟨cs,q1,q2⟩:=hv;simp only[af] at q2;exact .inl ⟨by simpa[bR,I.isAgg,q2.1] using q1.symm,rfl,rfl⟩
 ·cases hm
theorem pg{w:World}{D:aV}{E:a6}{y:I}{v:Value}(hv:y.cu=true)(h:aY w D E y v):∃ cs,bR y v cs∧af w D E y cs:=by
 cases y <;>simp[I.cu] at hv <;>exact h
theorem qo{w:World}{D:aV}{E:a6} : ∀ {xs:List I} {vs:List Value} {j:Nat} {x:I},aK w D E xs vs→xs[j]?=some x→x.cu=true
 | [],_,j,x,_,h=>by simp at h
 |y::ys,vs,j,x,hr,h=>by
  simp only[aK] at hr;obtain ⟨v,rest,cs,rfl,h1,h2,h3⟩:=hr;cases j with
  |zero =>
   simp only[List.getElem?_cons_zero,t7] at h;subst h;cases y <;>simp only[af] at h2 <;>rfl
  |succ j=>exact qo (xs:=ys) h3 (by simpa using h)
theorem apU{x:I}{cs r:List Value}(h:nk x cs=some r):x.cu=true:=by
 cases x <;>first | rfl | (cases cs <;>simp[nk] at h)
theorem apV{P:Program}{t:TypeId}{z:I}(hz:gw P t=some z)(hp:uW P t z=true):∃ zv,(∀ w,(zeroValue t).run P w=.ok zv w)∧z.cu=true∧∀ w D E,aY w D E z zv:=by
 have hz0:=hz;obtain ⟨i,zv,hi,hzz,hzr⟩:=mz hz;have hv:z.cu=true:=by
  unfold gw at hz;split at hz
  ·split at hz
   ·rename_i hk;simp only[t7] at hz;subst hz;exact apU hk
   ·cases hz
  ·cases hz
 refine ⟨zv,fun w=>by simp[zeroValue,typeInfo,hi,hzz],hv,fun w D E =>?_⟩;have h1:=hzr w D E;simp only[uW,hi,Option.bind_some,hzz] at hp;refine mW (cs:=zv.cells.toList) ?_ h1;cases zv <;>simp only[bR] at hp ⊢ <;>first
  |(rw[if_pos hp];simp[Value.cells])
  |(have hp':z.isAgg=false:=by simpa using hp
    rw[hp'];simp[Value.cells])
theorem alc{t kt et:TypeId}{m k:Operand}{m' k':aM}{ok:Bool}{ty:cU}{z v:I}{ks vs:List I}{there:Bool}(ho:o.op=.lookup t m k ok)(hu:c.P.underlying t=some (.map kt et))(hk:lZ c.P kt=some ty)(hz:gw c.P et=some z)(hzp:uW c.P et z=true)
  (hm:bO c.P 0 m=some m') (hk':bO c.P 0 k=some k') (hmm:gN A (ab A m')=some (ks,vs)) (hl:gG ty z (ab A k') ks vs=some (v,there)):dU c A o (if ok then .tuple [v,.bool there] else v) :=
 .same fun a w D E hs=>by
  have h1:=cg hs hm;have h2:=cg hs hk';obtain ⟨zv,hzrun,hzv,hzrv⟩:=apV hz hzp;unfold gG at hl;split at hl
  case isFalse=>cases hl
  rename_i hkk;obtain ⟨rk,hrk⟩:=zw7.1 hkk;have hchk:=fun em=>Dw (P:=c.P) (w:=w) (em:=em) hk h2 hrk 9998;have bl:∀ u there,v.cu=true→aY w D E v u→aY w D E (if ok then .tuple [v,.bool there] else v) (if ok then Value.tuple #[u,.bool there] else u):=fun u there hval hu'=>by
   cases ok
   ·exact hu'
   ·obtain ⟨cs,q1,q2⟩:=pg hval hu';simp only[if_true,aY,aK];exact ⟨[u,.bool there],rfl,u,[.bool there],cs,rfl,q1,q2,.bool there,[],[.bool there],rfl,by simp[bR,I.isAgg],by simp[af],rfl⟩
  have main:∀ (es:Array MapEntry),aK w D E ks (es.toList.map (·.key))→aK w D E vs (es.toList.map (·.val))→∃ u,v.cu=true∧aY w D E v u ∧
    ((∃ i,(Instr.findKey kt (a.eval k) es.toList).run c.P w=.ok (some (i,u)) w∧there=true)∨((Instr.findKey kt (a.eval k) es.toList).run c.P w=.ok none w∧u=zv∧there=false)):=fun es hks hvs=>by
   split at hl
   ·rename_i i hfi;simp only[zz1,Prod.mk.injEq] at hl;obtain ⟨v',hv',rfl,rfl⟩:=hl;obtain ⟨q,q1,q2⟩:=s8 hk h2 hks hfi;rcases q2 with ⟨e,_⟩ | ⟨j,e,e1,e2,rfl⟩
    ·cases e
    ·simp only[zz3,t7] at e1;subst e1;obtain ⟨x,k1,k2⟩:=m8 (j:=i) (v:=e.val) hvs (by simp only[zw6,e2,zy7]);rw[hv',t7] at k1;subst k1;exact ⟨e.val,qo hvs hv',k2,.inl ⟨_,q1,rfl⟩⟩
   ·rename_i hfi;simp only[t7,Prod.mk.injEq] at hl;obtain ⟨rfl,rfl⟩:=hl;obtain ⟨q,q1,q2⟩:=s8 hk h2 hks hfi;rcases q2 with ⟨_,rfl⟩ | ⟨j,e,e1,_⟩
    ·exact ⟨zv,hzv,hzrv w D E,.inr ⟨q1,rfl,rfl⟩⟩
    ·cases e1
   ·cases hl
  rcases amg hs h1 hmm with ⟨e1,rfl,rfl⟩ | ⟨b,es,ck,e1,e2,e3,e4⟩
  ·obtain ⟨u,hval,hu',hrun⟩:=main #[] (by simp[aK]) (by simp[aK]);refine ⟨_,?_,bl u there hval hu'⟩;rcases hrun with ⟨i,q1,rfl⟩ | ⟨q1,rfl,rfl⟩ <;>
    simp only[execOp,ho,Instr.lookup,e1,Sem.run_bind,run_underlying hu,Result.andThen_ok,Sem.run_pure,hchk,q1,hzrun]
  ·obtain ⟨u,hval,hu',hrun⟩:=main es e3 e4;refine ⟨_,?_,bl u there hval hu'⟩;rcases hrun with ⟨i,q1,rfl⟩ | ⟨q1,rfl,rfl⟩ <;>
    simp only[execOp,ho,Instr.lookup,e1,Sem.run_bind,run_underlying hu,Result.andThen_ok,MapKept.run_getObj_map e2,Sem.run_pure,hchk,q1,hzrun]
theorem Kq{y:Operand}{y':aM}(ho:o.op=.nilCheck y)(hy:bO c.P 0 y=some y')(h:(∃ n p,ab A y'=.ptr n p)∨∃ z,ab A y'=.ref z):dU c A o (ab A y') :=
 .same fun a w D E hs=>by
  have h1:=cg hs hy;rcases h with ⟨n,p,h⟩ | ⟨z,h⟩
  ·rw[h] at h1 ⊢;obtain ⟨b,aU,off,_,_,e⟩:=oZ h1;exact ⟨a.eval y,by simp only[execOp,ho,e,Sem.run_pure],h1⟩
  ·rw[h] at h1 ⊢;obtain ⟨b,off,cs,e,_⟩:=qn h1;exact ⟨a.eval y,by simp only[execOp,ho,e,Sem.run_pure],h1⟩
theorem KP{w:World}{D:aV}{E:a6}{x:I}{v:Value}{b:Bool}(h:jm x=some b)(hv:aY w D E x v):∃ ad,v=.pointer ad∧ad.isNone=b:=by
 cases x <;>simp only[jm,t7] at h <;>try (cases h;done)
 case nilp =>
  subst h;obtain ⟨cs,q1,q2⟩:=hv;simp only[af] at q2;exact ⟨none,by simpa[bR,I.isAgg,q2] using q1.symm,rfl⟩
 case ptr n p =>
  subst h;obtain ⟨b,aU,off,_,_,e⟩:=oZ hv;exact ⟨_,e,rfl⟩
 case ref z =>
  subst h;obtain ⟨b,off,cs,e,_⟩:=qn hv;exact ⟨_,e,rfl⟩
theorem alh{neg:Bool}{t yt e:TypeId}{y z:Operand}{y' z':aM}{b1 b2:Bool}(ho:o.op=.binOp (if neg then .neq else .eql) t y z yt)(hu:c.P.underlying t=some (.pointer e))(hy:bO c.P 0 y=some y')(hz:bO c.P 0 z=some z')
  (h1:jm (ab A y')=some b1) (h2:jm (ab A z')=some b2) (h:b1=true∨b2=true):dU c A o (.bool (if neg then !(b1&&b2) else (b1&&b2))) :=
 .same fun a w D E hs=>by
  obtain ⟨p,e1,k1⟩:=KP h1 (cg hs hy);obtain ⟨q,e2,k2⟩:=KP h2 (cg hs hz);have he:∀ d,(Op.equalIn (d+1) t (.pointer p) (.pointer q)).run c.P w=.ok (b1&&b2) w:=fun d=>by
   subst k1 k2;cases p <;>cases q <;>simp at h <;>simp[Op.equalIn,run_underlying hu]
  refine ⟨.bool (if neg then !(b1&&b2) else (b1&&b2)),?_,oO _⟩;cases neg <;>simp only[execOp,ho,e1,e2,if_true,zz8,if_false,Sem.run_bind,eqGuard] <;>simp[binOp,Op.equal,Op.maxDepth,he]
end
section
variable {c:cT} {A:ae} {o:Oper} {x:I}
theorem Z1{t:TypeId}{d:Nat}(ho:o.op=.makeMap t none)(hd:o.dst=some d)(hn:d<c.n)(hf:A.o d=none):ja c A o ((A.aR d (.cB [] [])).put d (.mref d)):=by
 intro a w D E hs;have h1:=hs.amz (.inl hn) hf;have h2:=h1.put (x:=.mref d) (v:=.map (some w.heap.size)) hn ⟨_,by simp[bR,I.isAgg];rfl,by
  simp only[af,if_true];exact ⟨w.heap.size,rfl,rfl⟩⟩
 exact ⟨w.alloc (.map #[] 0),.inl ⟨.map (some w.heap.size),by simp[execOp,ho,Instr.makeMap],D,_,by rw[hd];exact h2⟩⟩
theorem zu{w:World}{D:aV}{E:a6} : ∀ {xs ys:List I} {us vs:List Value},aK w D E xs us→aK w D E ys vs→aK w D E (xs++ys) (us++vs)
 | [],ys,us,vs,h,k=>by simp only[aK] at h;subst h;simpa using k
 |x::xs,ys,us,vs,h,k=>by
  simp only[aK,zy0] at *;obtain ⟨v,rest,cs,rfl,h1,h2,h3⟩:=h;exact ⟨v,rest++vs,cs,rfl,h1,h2,zu h3 k⟩
theorem OD{w:World}{D:aV}{E:a6} : ∀ {xs:List I} {us:List Value} {i:Nat} {y:I} {v:Value} {cs:List Value},aK w D E xs us→bR y v cs→af w D E y cs→aK w D E (xs.set i y) (us.set i v)
 | [],us,i,y,v,cs,h,_,_=>by simp only[aK] at h;subst h;simp[aK]
 |x::xs,us,i,y,v,cs,h,k1,k2=>by
  simp only[aK] at h;obtain ⟨u,rest,ds,rfl,h1,h2,h3⟩:=h;cases i with
  |zero=>simp only[List.set_cons_zero,aK];exact ⟨v,rest,cs,rfl,k1,k2,h3⟩
  |succ i=>simp only[List.set_cons_succ,aK];exact ⟨u,_,ds,rfl,h1,h2,OD h3 k1 k2⟩
theorem OC{w:World}{D:aV}{E:a6}{y:I}{v:Value}{cs:List Value}(h1:bR y v cs)(h2:af w D E y cs):aK w D E [y] [v]:=by
 simp only[aK];exact ⟨v,[],cs,rfl,h1,h2,rfl⟩
theorem EH{ty:cU}{k:I} : ∀ {ks:List I} {i j:Nat},fm ty k ks i=some (some j)→∃ x,ks[j-i]?=some x∧i≤j∧cn ty k x=some true
 | [],i,j,h=>by simp[fm] at h
 |x::xs,i,j,h=>by
  simp only[fm] at h;split at h
  ·rename_i hb;simp only[t7] at h;subst h;exact ⟨x,by simp,zz9 _,hb⟩
  ·obtain ⟨y,h1,h2,h3⟩:=EH h;refine ⟨y,?_,by omega,h3⟩;rw[show j-i=(j-(i+1))+1 from by omega];simpa using h1
  ·cases h
theorem D9{t kt et:TypeId}{m k v:Operand}{m' k' v':aM}{ty:cU}{n:Nat}{ks vs ks' vs':List I}(ho:o.op=.mapUpdate t m k v∨o.op=.insert t m k v)(hu:c.P.underlying t=some (.map kt et))(hk:lZ c.P kt=some ty)
  (hm:bO c.P 0 m=some m') (hk':bO c.P 0 k=some k') (hv':bO c.P et v=some v') (hmm:ab A m'=.mref n) (hn:A.o n=some (.cB ks vs)) (hl:gH ty (ab A k') (ab A v') ks vs=some (ks',vs')) (hd:o.dst=none) :
  ja c A o (A.aR n (.cB ks' vs')):=by
 intro a w D E hs;have h1:=cg hs hm;have h2:=cg hs hk';have h3:=cg hs hv';rw[hmm] at h1;unfold gH at hl;split at hl
 case isFalse=>cases hl
 rename_i hc;obtain ⟨hkk,hkv,hvv⟩:=hc;obtain ⟨rk,hrk⟩:=zw7.1 hkk;have hchk:=fun em=>Dw (P:=c.P) (w:=w) (em:=em) hk h2 hrk 9998;obtain ⟨kcs,kp1,kp2⟩:=pg hkv h2;obtain ⟨vcs,vp1,vp2⟩:=pg hvv h3;obtain ⟨b,es,ck,k1,k2,k3,k4,k5,k6,k7⟩:=hs.map hn;have hmv:a.eval m=.map (some b):=by
  obtain ⟨cs,q1,q2⟩:=h1;simp only[af] at q2;obtain ⟨b',q3,q4⟩:=q2;rw[k1] at q3;cases q3;simpa[bR,I.isAgg,q4] using q1.symm
 -- the new entries
 have step:∀ (es':Array MapEntry) (ck':Nat),(Instr.mapUpdate t (.map (some b)) (a.eval k) (a.eval v)).run c.P w=.ok () (w.putObj b (.map es' ck'))→qy es' ck'→aK w D E ks' (es'.toList.map (·.key))→aK w D E vs' (es'.toList.map (·.val)) →
   ∃ w',((∃ u,(execOp a.eval o).run c.P w=.ok (.value u) w'∧cv c (A.aR n (.cB ks' vs')) (a.put o.dst u) w')∨((execOp a.eval o).run c.P w=.ok .skip w'∧cv c (A.aR n (.cB ks' vs')) (a.put o.dst undef) w')):=fun es' ck' hrun hst hks hvs=>by
  refine ⟨w.putObj b (.map es' ck'),.inr ⟨?_,?_⟩⟩
  ·rcases ho with ho | ho <;>simp only[execOp,ho,hmv,Sem.run_bind,hrun,Result.andThen_ok,Sem.run_pure]
  ·rw[hd];have:=hs.OI (o':=.map es' ck') (x:=.cB ks' vs') k1 rfl rfl k3 rfl (fun q=>by simp) k2 (fun hl' hh hno=>⟨b,es',ck',k1,k2,hh,hst,aK.bM hl' _ _ hks,aK.bM hl' _ _ hvs,hno⟩);exact ⟨D,E,this⟩
 split at hl
 ·rename_i i hfi;simp only[t7,Prod.mk.injEq] at hl;obtain ⟨rfl,rfl⟩:=hl;obtain ⟨q,q1,q2⟩:=s8 hk h2 k5 hfi;rcases q2 with ⟨e,_⟩ | ⟨j,e,e1,e2,rfl⟩
  ·cases e
  simp only[zz3,t7] at e1;subst e1;obtain ⟨y,y1,_,y2⟩:=EH hfi;simp only[Nat.sub_zero] at y1;obtain ⟨y',y3,y4⟩:=m8 (j:=i) (v:=e.key) k5 (by simp only[zw6,e2,zy7]);rw[y1,t7] at y3;subst y3;obtain ⟨_,kk2,kk3⟩:=alM hk y2 h2 y4;have hes:es[i]?=some e:=by rw[←zu0];exact e2
  have hlen:i<es.size:=(zx6.1 hes).1;refine step (es.modify i fun e => { e with key:=a.eval k,val:=a.eval v }) ck ?_ ?_ ?_ ?_
  ·have hsb:Instr.sameBits 10000 (((es[i]?).map (·.key)).getD (a.eval k)) (a.eval k)=true:=by
    rw[hes];simp only[zy7,Option.getD_some];rw[←kk2];rw[←kk2] at kk3;exact kk3
   simp only[Instr.mapUpdate,Sem.run_bind,run_underlying hu,Result.andThen_ok,MapKept.run_getObj_map k3,hchk,q1,zz3,Instr.keyThatStays,hsb,if_true,Sem.run_pure,MapKept.run_setObj_map _ k3];rfl
  all_goals
   have em:(es.modify i fun e => { e with key:=a.eval k,val:=a.eval v }).toList=es.toList.set i { e with key:=a.eval k,val:=a.eval v } :=by
    rw[Array.toList_modify];apply List.ext_getElem?;intro j;rw[List.getElem?_modify,List.getElem?_set];by_cases hij:i=j
    ·subst hij;have hge:es[i]'hlen=e:=(zx6.1 hes).2;simp[hlen,hge]
    ·simp[hij]
  ·refine ⟨fun x hx =>?_,?_⟩
   ·rw[em] at hx;rcases List.mem_or_eq_of_mem_set hx with hx | rfl
    ·exact k4.1 x hx
    ·exact k4.1 e (List.mem_of_getElem? e2)
   ·rw[em];have:(es.toList.set i { e with key:=a.eval k,val:=a.eval v }).map (·.born)=es.toList.map (·.born):=by
     rw[List.map_set];apply List.ext_getElem?;intro j;rw[List.getElem?_set];split
     ·rename_i hij;subst hij;simp[e2];exact hlen
     ·rfl
    rw[this];exact k4.2
  ·rw[em,List.map_set];have:(es.toList.map (·.key)).set i (a.eval k)=es.toList.map (·.key):=by
    apply List.ext_getElem?;intro j;rw[List.getElem?_set];split
    ·rename_i hij;subst hij;simp[e2,kk2];exact hlen
    ·rfl
   simp only[this];exact k5
  ·rw[em,List.map_set];exact OD k6 vp1 vp2
 ·rename_i hfi;simp only[t7,Prod.mk.injEq] at hl;obtain ⟨rfl,rfl⟩:=hl;obtain ⟨q,q1,q2⟩:=s8 hk h2 k5 hfi;rcases q2 with ⟨_,rfl⟩ | ⟨j,e,e1,_⟩
  case inr=>cases e1
  refine step (es.push { key:=a.eval k,val:=a.eval v,born:=ck }) (ck+1) ?_ ⟨fun x hx =>?_,?_⟩ ?_ ?_
  ·simp only[Instr.mapUpdate,Sem.run_bind,run_underlying hu,Result.andThen_ok,MapKept.run_getObj_map k3,hchk,q1,MapKept.run_setObj_map _ k3];rfl
  ·simp only[Array.toList_push,zx1,List.mem_singleton] at hx;rcases hx with hx | rfl
   ·have:=k4.1 x hx;omega
   ·simp
  ·simp only[Array.toList_push,zx4,zy2,zx2];refine List.nodup_append.2 ⟨k4.2,by simp,fun x hx y hy =>?_⟩;simp only[List.mem_singleton] at hy;subst hy;obtain ⟨e,he,rfl⟩:=zw5.1 hx;exact Nat.ne_of_lt (k4.1 e he)
  ·simp only[Array.toList_push,zx4,zy2,zx2];exact zu k5 (OC kp1 kp2)
  ·simp only[Array.toList_push,zx4,zy2,zx2];exact zu k6 (OC vp1 vp2)
 ·cases hl
theorem Z3{t kt et:TypeId}{y:Operand}{y':aM}{ks vs:List I}{d:Nat}(ho:o.op=.range t y)(hu:c.P.underlying t=some (.map kt et))(hy:bO c.P 0 y=some y')(h:ab A y'=.c6 ks vs)(hd:o.dst=some d)(hn:d<c.n)(hf:A.o d=none) :
  ja c A o ((A.aR d (.it ks vs (List.range ks.length) none)).put d (.dE d)):=by
 intro a w D E hs;have h1:=cg hs hy;rw[h] at h1;obtain ⟨cs,q1,q2⟩:=h1;simp only[af] at q2;obtain ⟨b,es,ck,q3,q4,q5,q6⟩:=q2;have hv:a.eval y=.map (some b):=by simpa[bR,I.isAgg,q3] using q1.symm
 have h2:=hs.amy (.inl hn) hf q4 q5 q6;have h3:=h2.put (x:=.dE d) (v:=.pointer (some ⟨w.heap.size,0,none⟩)) hn ⟨_,by simp[bR,I.isAgg];rfl,by
  simp only[af,if_true];exact ⟨w.heap.size,rfl,rfl⟩⟩
 refine ⟨w.alloc (.mapIter (some b) ck #[] ck),.inl ⟨.pointer (some ⟨w.heap.size,0,none⟩),?_,D,_,by rw[hd];exact h3⟩⟩;simp only[execOp,ho,hv,Sem.run_bind,run_range_map w t kt et b es ck hu q4.1,Result.andThen_ok,Sem.run_pure]
theorem K1{es:Array MapEntry}{bH:Array Nat}{i:Nat} : i∈oN es bH↔∃ e,es[i]?=some e∧bH.contains e.born=false:=by
 unfold oN;simp only[zv6,zv2];constructor
 ·rintro ⟨h1,h2⟩;rw[Array.getElem?_eq_getElem h1] at h2 ⊢;exact ⟨_,rfl,by simpa using h2⟩
 ·rintro ⟨e,h1,h2⟩;exact ⟨(zx6.1 h1).1,by rw[h1];simpa using h2⟩
theorem apo{es:Array MapEntry}{ck:Nat}(hst:qy es ck){i j:Nat}{e f:MapEntry}(hi:es[i]?=some e)(hj:es[j]?=some f)(h:e.born=f.born):i=j:=by
 have hn:=hst.2;rw[←zu0] at hi hj;have h1:(es.toList.map (·.born))[i]?=some e.born:=by rw[zw6,hi];rfl
 have h2:(es.toList.map (·.born))[j]?=some e.born:=by rw[zw6,hj,h];rfl
 have hil:i<(es.toList.map (·.born)).length:=(zy6.1 h1).1;have hjl:j<(es.toList.map (·.born)).length:=(zy6.1 h2).1;exact (List.getElem?_inj hil hn).1 (h1.trans h2.symm)
theorem al5{es:Array MapEntry}{bH:Array Nat}{ck i:Nat}{e:MapEntry}(hst:qy es ck)(hi:es[i]?=some e):oN es (bH.push e.born)=(oN es bH).filter (· != i):=by
 unfold oN;rw[List.filter_filter];refine List.filter_congr fun j hj =>?_;have hjl:j<es.size:=by simpa using hj
 rw[Array.getElem?_eq_getElem hjl];simp only[Array.contains_push];by_cases hij:j=i
 ·subst hij;rw[Array.getElem?_eq_getElem hjl,t7] at hi;simp[hi]
 ·have:(es[j].born==e.born)=false:=by
   simp only[beq_eq_false_iff_ne,ne_eq];exact fun h=>hij (apo hst (Array.getElem?_eq_getElem hjl) hi h)
  have h2:(j != i)=true:=by simpa using hij
  simp[this,h2]
theorem amA{y:Operand}{y':aM}{ks vs:List I}{left:List Nat}{cur:Option Nat}{n:Nat}(ho:o.op=.next y false)(hy:bO c.P 0 y=some y')(h:ab A y'=.dE n)(hn:A.o n=some (.it ks vs left cur))(hdn:∀ k,o.dst=some k→k<c.n){a:Act}{w:World}{D:aV}{E:a6}(hs:aW c A a w D E) :
  ∃ w' v,(execOp a.eval o).run c.P w=.ok (.value v) w'∧((left=[]∧cv c (A.aS o.dst (.tuple [.bool false])) (a.put o.dst v) w') ∨
   ∃ i k x,i∈left∧ks[i]?=some k∧vs[i]?=some x∧cv c ((A.aR n (.it ks vs (left.filter (· != i)) (some i))).aS o.dst (.tuple [.bool true,k,x])) (a.put o.dst v) w'):=by
 have h1:=cg hs hy;rw[h] at h1;obtain ⟨cs,q1,q2⟩:=h1;simp only[af] at q2;obtain ⟨r,q3,q4⟩:=q2;have hv:a.eval y=.pointer (some ⟨r,0,none⟩):=by simpa[bR,I.isAgg,q4] using q1.symm
 have hob:=hs.bV n;rw[hn] at hob;obtain ⟨r',b,es,ck,since,bH,last,k1,k2,k3,k4,k5,k6,k7,k8,k9,k9',k10⟩:=hob;rw[k1] at q3;cases q3;rcases run_next_at (P:=c.P) w o.type r b since last bH es ck k3 k4.1 k7 k8.1 with ⟨h0,hrun⟩ | ⟨e,he,w1,hal,hrun⟩
 ·refine ⟨w,.tuple #[.bool false],by simp only[execOp,ho,hv,Sem.run_bind,hrun,Result.andThen_ok,Sem.run_pure],.inl ⟨?_,D,E,hs.aS hdn ?_⟩⟩
  ·rw[k9];refine List.eq_nil_iff_forall_not_mem.2 fun i hi =>?_;obtain ⟨e,h1,h2⟩:=K1.1 hi;have hm:e∈leftOf es bH:=by
    unfold leftOf;simp only[Array.mem_filter];exact ⟨Array.mem_of_getElem? h1,by simpa using h2⟩
   rw[Array.eq_empty_of_size_eq_zero h0] at hm;simp at hm
  ·simp only[aY,aK];exact ⟨[.bool false],rfl,.bool false,[],[.bool false],rfl,by simp[bR,I.isAgg],by simp[af],rfl⟩
 ·have hmem:e∈es.toList∧bH.contains e.born=false:=by
   unfold leftOf at he;simp only[Array.toList_filter,zv6] at he;exact ⟨he.1,by simpa using he.2⟩
  obtain ⟨i,hi⟩:=List.getElem?_of_mem hmem.1;have hie:es[i]?=some e:=by rw[←zu0];exact hi
  obtain ⟨k,hk1,hk2⟩:=m8 (j:=i) (v:=e.key) k5 (by simp only[zw6,hi,zy7]);obtain ⟨x,hx1,hx2⟩:=m8 (j:=i) (v:=e.val) k6 (by simp only[zw6,hi,zy7]);have hsw:aW c A a w1 D E:=by
   rcases hal with rfl | rfl
   ·exact hs
   ·exact hs.grow (w':=w.drew) (D':=D) ⟨rfl,rfl,rfl,zz9 _,fun _ _=>rfl⟩ (fun _ _ h=>h) (fun _ _ h _=>h) (fun b o hd=>hs.dm b o hd)
  have hw1:w1.heap=w.heap:=by rcases hal with rfl | rfl <;>rfl
  have k3':w1.heap[r]?=some (.mapIter (some b) since bH last):=by rw[hw1];exact k3
  have hset:=hsw.OI (x:=.it ks vs (left.filter (· != i)) (some i)) (o':=.mapIter (some b) since (bH.push e.born) ck) k1 rfl rfl k3' rfl (fun q=>by simp) k2
   (fun hl hh hno=>by
    have hm:oP w1 D b es ck:=⟨by rw[hw1];exact k4.1,k4.2.1,k4.2.2⟩
    have hob:=hsw.bV n;rw[hn] at hob;refine ⟨r,b,es,ck,since,bH.push e.born,ck,k1,k2,hh,hm.bM hl,aK.bM hl _ _ ?_,aK.bM hl _ _ ?_,k7,?_,?_,fun j hj =>?_,hno⟩
    ·obtain ⟨ed,b2,es2,ck2,si2,se2,la2,g1,g2,g3,g4,g5,g6,_⟩:=hob;rw[k1] at g1;cases g1;rw[k3'] at g3;cases g3;have:=g4.1;rw[hw1,k4.1] at this;cases this;exact g5
    ·obtain ⟨ed,b2,es2,ck2,si2,se2,la2,g1,g2,g3,g4,g5,g6,_⟩:=hob;rw[k1] at g1;cases g1;rw[k3'] at g3;cases g3;have:=g4.1;rw[hw1,k4.1] at this;cases this;exact g6
    ·exact ⟨k8.2,k8.2⟩
    ·rw[k9,al5 k4.2.2 hie]
    ·cases hj;exact ⟨e,hie,by simp,rfl⟩)
  have hset':aW c (A.aR n (.it ks vs (left.filter (· != i)) (some i))) a (ChangeMaps.setBlock w1 r (.mapIter (some b) since (bH.push e.born) ck)) D E:=hset;refine ⟨_,.tuple #[.bool true,e.key,e.val],by simp only[execOp,ho,hv,Sem.run_bind,hrun,Result.andThen_ok,Sem.run_pure],.inr ⟨i,k,x,?_,hk1,hx1,D,E,hset'.aS hdn ?_⟩⟩
  ·rw[k9];exact K1.2 ⟨e,hie,hmem.2⟩
  ·have hob2:=hset'.bV n;simp only[ae.aR,if_true] at hob2;obtain ⟨ed,b2,es2,ck2,si2,se2,la2,g1,g2,g3,g4,g5,g6,_⟩:=hob2;rw[k1] at g1;cases g1;have hr2:(ChangeMaps.setBlock w1 r (.mapIter (some b) since (bH.push e.born) ck)).heap[r]?=some (.mapIter (some b) since (bH.push e.born) ck):=World.putObj_heap_same (w:=w1) (gu k3');rw[hr2] at g3;cases g3;have hb2:(ChangeMaps.setBlock w1 r (.mapIter (some b) since (bH.push e.born) ck)).heap[b]?=some (.map es ck):=by
    have:b≠r:=fun e=>by rw[e] at k4;rw[k4.1] at k3;cases k3
    refine (World.putObj_heap_other (w:=w1) this).trans ?_;rw[hw1];exact k4.1
   have:=g4.1;rw[hb2] at this;cases this;obtain ⟨kk,a1,a2⟩:=m8 (j:=i) (v:=e.key) g5 (by simp only[zw6,hi,zy7]);rw[hk1] at a1;cases a1;obtain ⟨xx,b1,b2⟩:=m8 (j:=i) (v:=e.val) g6 (by simp only[zw6,hi,zy7]);rw[hx1] at b1;cases b1;obtain ⟨c1,c2,c3⟩:=pg (qo k5 hk1) a2;obtain ⟨d1,d2,d3⟩:=pg (qo k6 hx1) b2;simp only[aY,aK];exact ⟨[.bool true,e.key,e.val],rfl,.bool true,_,[.bool true],rfl,by simp[bR,I.isAgg],by simp[af],e.key,_,c1,rfl,c2,c3,e.val,[],d1,rfl,d2,d3,rfl⟩
theorem akZ{y:Operand}{y':aM}{ks vs:List I}{left:List Nat}{i n:Nat}{k x:I}(ho:o.op=.entry y)(hy:bO c.P 0 y=some y')(h:ab A y'=.dE n)(hn:A.o n=some (.it ks vs left (some i)))(hk:ks[i]?=some k)(hx:vs[i]?=some x):dU c A o (.tuple [k,x]) :=
 .same fun a w D E hs=>by
  have h1:=cg hs hy;rw[h] at h1;obtain ⟨cs,q1,q2⟩:=h1;simp only[af] at q2;obtain ⟨r,q3,q4⟩:=q2;have hv:a.eval y=.pointer (some ⟨r,0,none⟩):=by simpa[bR,I.isAgg,q4] using q1.symm
  have hob:=hs.bV n;rw[hn] at hob;obtain ⟨r',b,es,ck,since,bH,last,k1,k2,k3,k4,k5,k6,k7,k8,k9,k9',k10⟩:=hob;rw[k1] at q3;cases q3;obtain ⟨e,e1,e2,rfl⟩:=k9' i rfl;have hi:es.toList[i]?=some e:=by rw[zu0];exact e1
  obtain ⟨kk,a1,a2⟩:=m8 (j:=i) (v:=e.key) k5 (by simp only[zw6,hi,zy7]);rw[hk] at a1;cases a1;obtain ⟨xx,b1,b2⟩:=m8 (j:=i) (v:=e.val) k6 (by simp only[zw6,hi,zy7]);rw[hx] at b1;cases b1;obtain ⟨c1,c2,c3⟩:=pg (qo k5 hk) a2;obtain ⟨d1,d2,d3⟩:=pg (qo k6 hx) b2;have hf:es.find? (·.born==e.born)=some e:=by rw[←Array.find?_toList];exact find_born e es.toList k4.2.2.2 (List.mem_of_getElem? hi)
  refine ⟨.tuple #[e.key,e.val],?_,?_⟩
  ·have hr:(Instr.entry (.pointer (some ⟨r,0,none⟩))).run c.P w=.ok (.tuple #[e.key,e.val]) w:=by
    simp only[Instr.entry,getObj,Sem.run_bind,Sem.run,k3,k4.1,Result.andThen,e2,bne_self_eq_false,zz8,if_false,hf];rfl
   simp only[execOp,ho,hv,Sem.run_bind,hr,Result.andThen_ok,Sem.run_pure]
  ·simp only[aY,aK];exact ⟨[e.key,e.val],rfl,e.key,_,c1,rfl,c2,c3,e.val,[],d1,rfl,d2,d3,rfl⟩
theorem Oa{w:World}{D:aV}{E:a6}{z:I}{v:Value}(h:af w D E z [v]):∀ n:Nat,aL w D E (List.replicate n z) (List.replicate n v)
 |0=>by simp[aL]
 |n+1=>by simp only[List.replicate_succ,aL];exact ⟨[v],_,rfl,h,Oa h n⟩
theorem Z2{t e:TypeId}{l l':Operand}{n':aM}{z:I}{n d:Nat}{k:IntKind}(ho:o.op=.makeSlice t l l')(hll:l'=l)(hu:c.P.underlying t=some (.slice e))(hl:bO c.P 0 l=some n')(h:ab A n'=.int k n)(hz:gw c.P e=some z)(hz1:z.size=1)
  (hc1:c.P.cellsOf e=1) (hby:n*c.P.bytesOf e≤281474976710656) (hmax:n≤maxLen) (hd:o.dst=some d) (hn:d<c.n) (hf:A.o d=none):ja c A o ((A.aR d (.box (.agg (List.replicate n z)))).put d (.view d [] 1 0 n)):=by
 subst hll;intro a w D E hs;have h1:=cg hs hl;rw[h] at h1;obtain ⟨e1,_⟩:=fF h1;obtain ⟨i,zv,hi,hzz,hzr⟩:=mz hz;have hzc:=af.length _ _ (hzr w D E);rw[hz1] at hzc;obtain ⟨u,hu1⟩:∃ u,zv.cells = #[u]:=by
  have:zv.cells.size=1:=by simpa using hzc
  obtain ⟨u,hu⟩:=Array.size_eq_one_iff.1 this;exact ⟨u,hu⟩
 have hsz:i.size=1:=by have:=hc1;simp only[Program.cellsOf,hi,zy7,Option.getD_some] at this;exact this
 have hbytes:(i.bytes:Int)*(n:Int)≤281474976710656:=by
  have:c.P.bytesOf e=i.bytes:=by simp[Program.bytesOf,hi]
  rw[this] at hby;have h2:((i.bytes*n:Nat):Int)≤281474976710656:=by rw[Nat.mul_comm] at hby;omega
  rwa [Int.natCast_mul] at h2
 have hrun:=run_make (P:=c.P) w t e i zv hu hi hzz k k n n (by omega) (Int.le_refl _) hbytes (by have h9:=hmax;unfold maxLen at h9;omega);simp only[Int.toNat_natCast,hsz,Nat.mul_one] at hrun;have hmc:(madeCells zv.cells n).toList=List.replicate n u:=by
  rw[hu1];simp only[madeCells];apply List.ext_getElem?;intro j;simp[List.getElem?_replicate];split <;>simp_all[Nat.mod_one]
 have hcells:af w D E (.agg (List.replicate n z)) (madeCells zv.cells n).toList:=by
  rw[hmc];simp only[af];refine Oa ?_ n;have:=hzr w D E;rw[hu1] at this;simpa using this
 have h2:=hs.rC (T:=e) (.inl hn) hf hcells;have h3:=h2.put (x:=.view d [] 1 0 n) (v:=.slice (some ⟨w.heap.size,0,none⟩) n n) hn ⟨_,by simp[bR,I.isAgg];rfl,by
  simp only[af,if_true];refine ⟨w.heap.size,_,0,I.cX (List.replicate n z),rfl,by simp[cY.off],by simp[I.aU,cY.part],by simp[I.dA],by simpa[I.dA] using hmax,by simp[I.dA],fun s hs =>?_⟩;rw[I.dA] at hs;obtain ⟨y,hy,rfl⟩:=zw5.1 hs;rw[I.mu,(List.mem_replicate.1 hy).2,hz1]⟩
 refine ⟨_,.inl ⟨_,?_,D,_,by rw[hd];exact h3⟩⟩;simp only[execOp,ho,e1,Sem.run_bind,hrun,Result.andThen_ok,Sem.run_pure]
end
end Go.Abs
namespace Go.Abs
open Go Go.RowKit
mutual
/-- Values that lead to no memory. -/
def I.flat:I→Bool
 | .agg fs | .tuple fs=>I.pN fs
 | .bool _ | .int _ _ | .c8 _ | .nilp | .dv | .ea | .raw _ | .undef | .dg=>true
 |_=>false
def I.pN:List I→Bool
 | []=>true
 |x::xs=>x.flat&&I.pN xs
end
mutual
theorem af.flat{w w':World}{D D':aV}{E E':a6} : ∀ (x:I) (cs:List Value),x.flat=true→af w D E x cs→af w' D' E' x cs
 | .agg fs,cs,hf,hr=>by simp only[af,I.flat] at *;exact aL.flat fs cs hf hr
 | .bool b,cs,_,hr=>by simpa only[af] using hr
 | .int k n,cs,_,hr=>by simpa only[af] using hr
 | .c8 s,cs,_,hr=>by simpa only[af] using hr
 | .nilp,cs,_,hr=>by simpa only[af] using hr
 | .dv,cs,_,hr=>by simpa only[af] using hr
 | .ea,cs,_,hr=>by simpa only[af] using hr
 | .raw _,cs,_,hr=>by simpa only[af] using hr
 | .undef,_,_,hr=>by simp only[af] at hr
 | .dg,_,_,hr=>by simp only[af] at hr
 | .tuple _,_,_,hr=>by simp only[af] at hr
 | .nils _,_,hf,_ | .c0 _,_,hf,_ | .slice _ _,_,hf,_ | .ref _,_,hf,_ | .func _ _,_,hf,_ | .iface _ _,_,hf,_ | .ptr _ _,_,hf,_ | .own _ _,_,hf,_ | .view _ _ _ _ _,_,hf,_ | .mref _,_,hf,_ | .dE _,_,hf,_ | .c6 _ _,_,hf,_=>by simp[I.flat] at hf
theorem aL.flat{w w':World}{D D':aV}{E E':a6} : ∀ (xs:List I) (cs:List Value),I.pN xs=true→aL w D E xs cs→aL w' D' E' xs cs
 | [],cs,_,hr=>by simpa only[aL] using hr
 |x::xs,cs,hf,hr=>by
  simp only[aL,I.pN,zz4] at *;obtain ⟨c1,c2,h1,h2,h3⟩:=hr;exact ⟨c1,c2,h1,af.flat x c1 hf.1 h2,aL.flat xs c2 hf.2 h3⟩
end
theorem aK.flat{w w':World}{D D':aV}{E E':a6} : ∀ (xs:List I) (vs:List Value),I.pN xs=true→aK w D E xs vs→aK w' D' E' xs vs
 | [],vs,_,hr=>by simpa only[aK] using hr
 |x::xs,vs,hf,hr=>by
  simp only[aK,I.pN,zz4] at *;obtain ⟨v,rest,cs,h1,h2,h3,h4⟩:=hr;exact ⟨v,rest,cs,h1,h2,af.flat x cs hf.1 h3,aK.flat xs rest hf.2 h4⟩
theorem aY.flat{w w':World}{D D':aV}{E E':a6}{x:I}{v:Value}(hf:x.flat=true)(hr:aY w D E x v):aY w' D' E' x v:=by
 cases x <;>simp only[aY] at * <;>first
  |exact hr
  |(obtain ⟨vs,h1,h2⟩:=hr;exact ⟨vs,h1,aK.flat _ _ (by simpa[I.flat] using hf) h2⟩)
  |(obtain ⟨cs,h1,h2⟩:=hr;exact ⟨cs,h1,af.flat _ _ hf h2⟩)
def dB:a6:=fun _=>none
def aw(P:Program)(f:FuncId)(args:List I)(r:I):Prop :=
 il P f=true∧∀ (w:World) (D:aV) (vs:List Value),(∀ b o,D b o→b<w.heap.size)→aK w D dB args vs →
  Calls P f vs.toArray w fun e w'=>∃ v D',e=.returned v∧aY w' D' dB r v∧Below w.heap.size w w'∧(∀ b o,D' b o→b<w'.heap.size)∧∀ b o,D' b o→b<w.heap.size→D b o
def cG(P:Program)(f:FuncId)(args:List I)(os:List (Nat×ah))(post:cR):Prop :=
 il P f=true∧qG (Calls P f) (fun _ _ _=>True) args os post
def aZ(p:Nat→Bool):List (Nat×ah)→Prop
 | []=>True
 |(_,v)::r=>v.only p=true∧aZ p r
def cJ(ns:List Nat)(os:List (Nat×ah)):List (Nat×ah):=os.filter fun q => !ns.contains q.1
def fK(ns:List Nat)(ts:List (Nat×I)):List (Nat×I):=ts.map fun q=>(q.1,if q.2.only (fun n => !ns.contains n) then q.2 else .dg)
def gh(ns:List Nat)(os:List (Nat×ah)):List (Nat×ah):=os.filter fun q=>ns.contains q.1
def jN(ρ:List (Nat×Nat))(os:List (Nat×ah)):List Nat:=os.map fun q=>bJ ρ q.1
def jF(aD:Bool)(A0:ae)(ρ:List (Nat×Nat))(os:List (Nat×ah)):List I→List I→Prop
 | [],[]=>True
 |x::xs,c::cs=>((x=c.aQ (bJ ρ)∧c.only (al os)=true∧c.cu=true)∨bl aD A0 x=some c)∧jF aD A0 ρ os xs cs
 |_,_=>False
structure aG where
 dst:Option Nat
 op:cd
 guard:Option (Nat×Bool)
 deriving Inhabited
inductive cS where
 |done (A:ae)
 |fail
 |call (f:FuncId) (avs:List I) (a1 a2:Option (List I)) (dst:Option Nat) (rest:List aG) (A:ae)
 |pE (v:Value) (avs:List I) (dst:Option Nat) (rest:List aG) (A:ae)
 |kN (f:FuncId) (avs:List I) (dst:Option Nat) (rest:List aG) (A:ae)
 |any (p:Nat→Prop) (k:Nat→cS)
def cW(x:Option I)(k:I→cS):cS:=match x with
 |some v=>k v
 |none=>.fail
def yM(s:Option Nat)(v old:I):Prop:=v.cu=true∧ca s v=true∧v.aU=old.aU
def yF(e esz bytes l sz:Nat)(ys:List I)(T sz':Nat)(es:List I):Prop:=l=es.length∧sz=esz∧T=e∧sz'=esz∧ys≠[]∧es.length+ys.length≤maxLen∧(es.length+ys.length)*bytes≤140737488355328
def rl(ys:List I):List Int:=ys.filterMap fun y=>match y with | .int .i64 i=>some i | _=>none
def yG(e esz bytes l:Nat)(ys:List I)(T:Nat)(xs:List Int)(z:I):Prop:=l=xs.length∧esz=1∧T=e∧z=.int .i64 0∧ys=(rl ys).map (.int .i64)∧ys≠[]∧xs.length+ys.length≤maxLen∧(xs.length+ys.length)*bytes≤140737488355328
def kl:I→Bool
 | .slice _ es=>es.isEmpty
 | .c0 _=>true
 |_=>false
open Classical in
noncomputable def gL(A:ae)(dst:Option Nat)(esz bytes:Nat)(z:I)(es ys:List I)(k:ae→cS):cS :=
 match dst with
 |some d=>match A.o d with
  |none=>if (es.length+ys.length)*bytes≤140737488355328∧es.length+ys.length≤maxLen then
    .any (fun m=>es.length+ys.length+m≤maxLen) (fun m=>k ((A.aR d (.box (.agg (es++(ys++List.replicate m z))))).aS dst (.view d [] esz 0 (es.length+ys.length)))) else .fail
  |some _=>.fail
 |none=>.fail
open Classical in
noncomputable def fj(A:ae)(dst:Option Nat)(esz bytes:Nat)(z:I)(s:I):Option (List I)→Option (List I)→(ae→cS)→cS
 |some es,some ys,k=>if ys=[] then k (A.aS dst s) else match s with
  | .nils _=>gL A dst esz bytes z es ys k
  | .c0 _=>gL A dst esz bytes z es ys k
  | .view n p sz lo l=>match A.o n with
   |some (.box b)=>match b.at p with
    |some (.agg fs)=>if lo+l+ys.length≤fs.length then
      (if sz=esz∧I.cX ys=I.cX ((fs.drop (lo+l)).take ys.length) then k ((A.aR n (.box (iX b p (lo+l) fs ys))).aS dst (.view n p esz lo (l+ys.length))) else .fail)
      else gL A dst esz bytes z es ys k
    |_=>.fail
   |_=>.fail
  |_=>.fail
 |_,_,_=>.fail
open Classical in
noncomputable def vu(A:ae)(dst:Option Nat)(esz bytes:Nat)(z:I)(m:Nat)(s:I):Option (List I)→(ae→cS)→cS
 |some es,k=>match s with
  | .view n p _ lo l=>match A.o n with
   |some (.box b)=>match b.at p with
    |some (.agg fs)=>if 0<m∧fs.length<lo+l+m then gL A dst esz bytes z es (List.replicate m z) k else .fail
    |_=>.fail
   |_=>.fail
  |_=>.fail
 |_,_=>.fail
open Classical in
noncomputable def nz(A:ae)(esz:Nat)(z:I)(k:ae→cS):I→cS
 | .view n p sz lo l=>match A.o n with
  |some (.box b)=>match b.at p with
   |some (.agg fs)=>if sz=esz∧I.cX (List.replicate l z)=I.cX ((fs.drop lo).take l) then k (A.aR n (.box (iX b p lo fs (List.replicate l z)))) else .fail
   |_=>.fail
  |_=>.fail
 | .nils _=>k A
 | .c0 _=>k A
 |_=>.fail
open Classical in
noncomputable def sO(A:ae)(dst:Option Nat)(esz:Nat)(k:ae→cS):I→Option (List I)→cS
 | .view n p sz lo l,some ys=>match A.o n with
  |some (.box b)=>match b.at p with
   |some (.agg fs)=>if sz=esz∧I.cX (ys.take (min ys.length l))=I.cX ((fs.drop lo).take (min ys.length l)) then k ((A.aR n (.box (iX b p lo fs (ys.take (min ys.length l))))).aS dst (.int .i64 (min ys.length l:Nat))) else .fail
   |_=>.fail
  |_=>.fail
 |_,_=>.fail
open Classical in
noncomputable def bt(A:ae)(dst:Option Nat)(op:cd)(rest:List aG)(k:ae→cS):cS :=
 match op with
 | .alloc z=>match dst with
  |some d=>match A.o d with
   |none=>k ((A.aR d (.box z)).put d (.ptr d []))
   |some _=>.fail
  |none=>.fail
 | .box x=>match dst with
  |some d=>match A.o d with
   |none=>if (ab A x).cu then k ((A.aR d (.box (ab A x))).put d (.ptr d [])) else .fail
   |some _=>.fail
  |none=>.fail
 | .bA s x v=>match dst with
  |none=>match ab A x with
   | .ptr n p=>match A.o n with
    |some (.box b)=>match b.at p with
     |some old=>if yM s (ab A v) old then k (A.aR n (.box (b.dQ p (ab A v)))) else .fail
     |none=>.fail
    |_=>.fail
   |_=>.fail
  |some _=>.fail
 | .cV e esz bytes z s x=>match ab A s with
  | .own n l=>match ab A x with
   | .slice sz ys=>match A.o n with
    |some (.b5 T sz' es)=>if yF e esz bytes l sz ys T sz' es then k ((A.aR n (.b5 e esz (es++ys))).aS dst (.own n (es.length+ys.length))) else .fail
    |some (.c5 T xs)=>if yG e esz bytes l ys T xs z then k ((A.aR n (.c5 e (xs++rl ys))).aS dst (.own n (xs.length+ys.length))) else .fail
    |_=>.fail
   |_=>.fail
  |s'=>fj A dst esz bytes z s' (eE A esz s') (eE A esz (ab A x)) k
 | .lH _ esz bytes z s n=>match ab A n with
  | .int _ m=>vu A dst esz bytes z m.toNat (ab A s) (eE A esz (ab A s)) k
  |_=>.fail
 | .nilS neg x=>if kl (ab A x) then .any (fun m=>m<2) (fun m=>k (A.aS dst (.bool (m==0)))) else cW (bF A (.nilS neg x)) fun v=>k (A.aS dst v)
 | .iO esz z x=>match dst with
  |none=>nz A esz z k (ab A x)
  |some _=>.fail
 | .lN esz x y=>sO A dst esz k (ab A x) (eE A esz (ab A y))
 | .call f args=>.call f (args.map (ab A)) (b7 true A (args.map (ab A))) (b7 false A (args.map (ab A))) dst rest A
 | .eH x args=>match ab A x with
  | .func f caps=>.call f (args.map (ab A)++caps) (b7 true A (args.map (ab A)++caps)) (b7 false A (args.map (ab A)++caps)) dst rest A
  | .raw v=>.pE v (args.map (ab A)) dst rest A
  |_=>.fail
 | .kN f args=>.kN f (args.map (ab A)) dst rest A
 | .kb=>match dst with
  |some d=>match A.o d with
   |none=>k ((A.aR d (.cB [] [])).put d (.mref d))
   |some _=>.fail
  |none=>.fail
 | .kc _ bytes z n=>match dst with
  |some d=>match A.o d with
   |none=>match ab A n with
    | .int _ n=>if 0≤n∧n.toNat*bytes≤281474976710656∧n.toNat≤maxLen then k ((A.aR d (.box (.agg (List.replicate n.toNat z)))).put d (.view d [] 1 0 n.toNat)) else .fail
    |_=>.fail
   |some _=>.fail
  |none=>.fail
 | .hU ty m key v=>match dst with
  |none=>match ab A m with
   | .mref n=>match A.o n with
    |some (.cB ks vs)=>match gH ty (ab A key) (ab A v) ks vs with
     |some (ks',vs')=>k (A.aR n (.cB ks' vs'))
     |none=>.fail
    |_=>.fail
   |_=>.fail
  |some _=>.fail
 | .kJ x=>match dst with
  |some d=>match A.o d with
   |none=>match ab A x with
    | .c6 ks vs=>k ((A.aR d (.it ks vs (List.range ks.length) none)).put d (.dE d))
    |_=>.fail
   |some _=>.fail
  |none=>.fail
 | .jO x=>match ab A x with
  | .dE n=>match A.o n with
   |some (.it ks vs left cur)=>if left=[] then k (A.aS dst (.tuple [.bool false])) else
     .any (fun i=>i∈left) fun i=>match ks[i]?,vs[i]? with
      |some kk,some x=>k ((A.aR n (.it ks vs (left.filter (· != i)) (some i))).aS dst (.tuple [.bool true,kk,x]))
      |_,_=>.fail
   |_=>.fail
  |_=>.fail
 |op=>cW (bF A op) fun v=>k (A.aS dst v)
noncomputable def aC:List aG→ae→cS
 | [],A=>.done A
 |g::rest,A=>match g.guard with
  |none=>bt A g.dst g.op rest (aC rest)
  |some (t,b)=>match A.t t with
   | .bool b'=>if b'=b then bt A g.dst g.op rest (aC rest) else aC rest (A.aS g.dst .undef)
   | .undef=>aC rest (A.aS g.dst .undef)
   |_=>.fail
def Q8(P:Program)(A:ae)(f:FuncId)(avs:List I)(r:I):Prop :=
 ∀ (c:cT) (a:Act) (w:World) (D:aV) (E:a6) (vs:List Value),c.P=P→aW c A a w D E→gn (aY w D E) avs vs→∃ v,(callFunc f vs.toArray).run P w=.ok (.value v) w∧aY w D E r v
inductive br (P:Program) (Y:Value→List I→List (Nat×ah)→cR→Prop) (dr:Bool) (K:ae→Prop):cS→Prop where
 |done {A:ae} : K A→br P Y dr K (.done A)
 |flat {f:FuncId} {avs cargs:List I} {a2:Option (List I)} {dst:Option Nat} {rest:List aG} {A:ae} (r:I):aw P f cargs r→r.flat=true→br P Y dr K (aC rest (A.aS dst r))→br P Y dr K (.call f avs (some cargs) a2 dst rest A)
 |lead {f:FuncId} {avs cargs:List I} {a1:Option (List I)} {dst:Option Nat} {rest:List aG} {A:ae} (r:I):aw P f cargs r→br P Y dr K (aC rest (A.aS dst r))→br P Y dr K (.call f avs a1 (some cargs) dst rest A)
 |gY {f:FuncId} {avs cargs:List I} {a1 a2:Option (List I)} {dst:Option Nat} {rest:List aG} {ts:List (Nat×I)} {os0:List (Nat×ah)} (ns:List Nat) (r:I):dr=false→aw P f cargs r→b7 true (ar ts (gh ns os0)) avs=some cargs →
   aZ (fun n => !ns.contains n) (cJ ns os0)→br P Y dr K (aC rest ((ar (fK ns ts) (cJ ns os0)).aS dst r))→br P Y dr K (.call f avs a1 a2 dst rest (ar ts os0))
 |bV {f:FuncId} {avs:List I} {a1 a2:Option (List I)} {dst:Option Nat} {rest:List aG} {ts:List (Nat×I)} {os0:List (Nat×ah)} (aD:Bool) (ρ:List (Nat×Nat)) (os:List (Nat×ah)) (cargs:List I) (post:cR):dr=false→cG P f cargs os post →
   fX ρ os os0→jF aD (ar ts (cJ (jN ρ os) os0)) ρ os avs cargs→(∀ r os',post r os'→ee aD ρ os os0 r os') →
   (∀ r os',post r os'→br P Y dr K (aC rest ((ar ts (dN ρ os'++os0)).aS dst (r.aQ (bJ ρ)))))→br P Y dr K (.call f avs a1 a2 dst rest (ar ts os0))
 |zV {v:Value} {avs:List I} {dst:Option Nat} {rest:List aG} {ts:List (Nat×I)} {os0:List (Nat×ah)} (os:List (Nat×ah)) (cargs:List I) (post:cR):dr=false→Y v cargs os post →
   fX [] os os0→jF false (ar ts (cJ (jN [] os) os0)) [] os avs cargs→(∀ r os',post r os'→ee false [] os os0 r os') →
   (∀ r os',post r os'→br P Y dr K (aC rest ((ar ts (dN [] os'++os0)).aS dst (r.aQ (bJ [])))))→br P Y dr K (.pE v avs dst rest (ar ts os0))
 |ext {f:FuncId} {avs:List I} {dst:Option Nat} {rest:List aG} {A:ae} (r:I):dr=false→Q8 P A f avs r→br P Y dr K (aC rest (A.aS dst r))→br P Y dr K (.kN f avs dst rest A)
 |any {p:Nat→Prop} {k:Nat→cS} : dr=false→(∀ m,p m→br P Y dr K (k m))→br P Y dr K (.any p k)
def Ea(n:Nat):Option Nat→Bool
 |some d=>decide (d<n)
 |none=>true
def pC(P:Program)(n:Nat)(bI:Array Oper)(o:Oper):Option aG :=
 match dJ P o with
 |none=>none
 |some g=>if Ea n o.dst=true then
   match o.guard with
   |none=>some ⟨o.dst,g,none⟩
   |some (j,b)=>match (bI[j]?).bind (·.dst) with
    |some t=>some ⟨o.dst,g,some (t,b)⟩
    |none=>none
  else none
def kr(P:Program)(n:Nat)(bI:Array Oper):List Oper→Option (List aG)
 | []=>some []
 |o::l=>match pC P n bI o,kr P n bI l with
  |some g,some gs=>some (g::gs)
  |_,_=>none
end Go.Abs
namespace Go.Abs
open Go Go.RowKit
section
variable {c:cT} {A:ae} {o:Oper} {x:I}
theorem aoo{g:cd}(hg:dJ c.P o=some g)(h:bF A g=some x):dU c A o x:=by
 unfold dJ at hg;split at hg
 -- move
 ·rename_i y ho;simp only[zz1] at hg;obtain ⟨z,hz,rfl⟩:=hg;simp only[bF,t7] at h;subst h;exact Kp (.inl ho) hz
 ·rename_i y ho;simp only[zz1] at hg;obtain ⟨z,hz,rfl⟩:=hg;simp only[bF,t7] at h;subst h;exact Kp (.inr ho) hz
 -- pick
 ·rename_i q y z ho;split at hg
  ·rename_i q' y' z' h1 h2 h3;simp only[t7] at hg;subst hg;simp only[bF] at h;split at h
   ·rename_i t ht;simp only[t7] at h;subst h;exact alg ho h1 h2 h3 ht
   ·cases h
  ·cases hg
 -- binOp
 ·rename_i op t y z yt ho;split at hg
  ·rename_i k y' z' hu h1 h2;simp only[t7] at hg;subst hg;exact Kn ho h1 h2 h
  ·rename_i y' z' hu h1 h2;simp only[t7] at hg;subst hg;exact Kn ho h1 h2 h
  ·rename_i e y' z' hu h1 h2;split at hg
   ·rename_i s;split at hg
    ·rename_i hop;simp only[t7] at hg;subst hg;have ho':o.op=.binOp (if (op==.neq)=true then .neq else .eql) t y z yt:=by
      rcases hop with rfl | rfl <;>simpa using ho
     simp only[bF] at h;split at h
     ·rename_i s' hs';simp only[t7] at h;subst h;have:=xR (r:=true) ho' hu h1 h2 (.inl ⟨s',hs',rfl⟩);rw[show (if (op==BinOp.neq)=true then !true else true) = !(op==BinOp.neq) from by cases (op==BinOp.neq) <;>rfl] at this;exact this
     ·rename_i s' es hs';split at h
      ·cases h
      ·rename_i hne;simp only[t7] at h;subst h;have:=xR (r:=false) ho' hu h1 h2 (.inr (.inl ⟨s',es,hs',by simpa using hne,rfl⟩));rw[show (if (op==BinOp.neq)=true then !false else false)=(op==BinOp.neq) from by cases (op==BinOp.neq) <;>rfl] at this;exact this
     ·rename_i n p s' lo k hs';simp only[t7] at h;subst h;have:=xR (r:=false) ho' hu h1 h2 (.inr (.inr ⟨n,p,s',lo,k,hs',rfl⟩));rw[show (if (op==BinOp.neq)=true then !false else false)=(op==BinOp.neq) from by cases (op==BinOp.neq) <;>rfl] at this;exact this
     ·cases h
    ·cases hg
   ·cases hg
  ·rename_i e y' z' hu h1 h2;split at hg
   ·rename_i hop;simp only[t7] at hg;subst hg;have ho':o.op=.binOp (if (op==.neq)=true then .neq else .eql) t y z yt:=by
     rcases hop with rfl | rfl <;>simpa using ho
    simp only[bF] at h;cases hb1:jm (ab A y') with
    |none=>rw[hb1] at h;cases h
    |some b1=>cases hb2:jm (ab A z') with
     |none=>rw[hb1,hb2] at h;cases h
     |some b2 =>
      rw[hb1,hb2] at h;simp only[m3] at h;split at h
      ·rename_i hor;simp only[t7] at h;subst h;exact alh ho' hu h1 h2 hb1 hb2 (by simpa using hor)
      ·cases h
   ·cases hg
  ·rename_i d y' z' _ _ _ _ hu h1 h2;split at hg
   ·rename_i hop;simp only[zz1] at hg;obtain ⟨ty,hty,rfl⟩:=hg;have ho':o.op=.binOp (if (op==.neq)=true then .neq else .eql) t y z yt:=by
     rcases hop.1 with rfl | rfl <;>simpa using ho
    simp only[bF,zz1] at h;obtain ⟨r,hr,rfl⟩:=h;exact ak0 ho' h1 h2 hop.2 hty hr
   ·cases hg
  ·cases hg
 -- unOp
 ·rename_i op t y ho;simp only[zz1] at hg;obtain ⟨z,hz,rfl⟩:=hg;simp only[bF] at h;split at h
  ·rename_i b hb;simp only[t7] at h;subst h;exact alf ho hz hb
  ·rename_i k n hb;simp only[t7] at h;subst h;exact ale ho hz hb
  ·rename_i k n hb;simp only[t7] at h;subst h;exact akY ho hz hb
  ·cases h
 -- nilCheck
 ·rename_i y ho;simp only[zz1] at hg;obtain ⟨z,hz,rfl⟩:=hg;simp only[bF] at h;cases hy:ab A z <;>rw[hy] at h <;>simp only[mX,t7] at h <;>try (cases h;done)
  ·subst h;rw[←hy];exact Kq ho hz (.inr ⟨_,hy⟩)
  ·subst h;rw[←hy];exact Kq ho hz (.inl ⟨_,_,hy⟩)
 -- makeMap
 ·simp only[t7] at hg;subst hg;simp[bF] at h
 -- lookup
 ·rename_i t m k ok ho;split at hg
  ·rename_i kt et m' k' hu h1 h2;split at hg
   ·rename_i ty z hk hz;split at hg
    ·rename_i hp;simp only[t7] at hg;subst hg;simp only[bF] at h;cases hm:gN A (ab A m') with
     |none=>rw[hm] at h;cases h
     |some q =>
      obtain ⟨ks,vs⟩:=q;rw[hm] at h;simp only[rr] at h;cases hl:gG ty z (ab A k') ks vs with
      |none=>rw[hl] at h;cases h
      |some q =>
       obtain ⟨v,b⟩:=q;rw[hl] at h;simp only[ru,t7] at h;subst h;exact alc ho hu hk hz hp h1 h2 hm hl
    ·cases hg
   ·cases hg
  ·cases hg
 -- mapUpdate,insert
 iterate 2
  ·split at hg
   ·split at hg
    ·simp only[t7] at hg;subst hg;simp[bF] at h
    ·cases hg
   ·cases hg
 -- makeSlice
 ·split at hg
  ·split at hg
   ·split at hg
    ·simp only[t7] at hg;subst hg;simp[bF] at h
    ·cases hg
   ·cases hg
  ·cases hg
 -- range
 ·split at hg
  ·simp only[zz1] at hg;obtain ⟨z,_,rfl⟩:=hg;simp[bF] at h
  ·cases hg
 -- next
 ·simp only[zz1] at hg;obtain ⟨z,_,rfl⟩:=hg;simp[bF] at h
 -- entry
 ·rename_i y ho;simp only[zz1] at hg;obtain ⟨z,hz,rfl⟩:=hg;simp only[bF] at h;split at h
  ·rename_i n hn;split at h
   ·rename_i ks vs left cur hob;cases cur with
    |none=>cases h
    |some i =>
     simp only[pJ] at h;split at h
     ·rename_i kk xx hk hx;simp only[t7] at h;subst h;exact akZ ho hz hn hob hk hx
     ·cases h
   ·cases h
  ·cases h
 -- convert
 ·rename_i oj dst y ho;split at hg
  ·rename_i k0 k y' h1 h2 h3;simp only[t7] at hg;subst hg;simp only[bF] at h;split at h
   ·rename_i k1 n hn;simp only[t7] at h;subst h;exact akX ho h1 h2 h3 hn
   ·cases h
  ·cases hg
 -- load
 ·rename_i t y ho;split at hg
  ·rename_i s y' h1 h2;simp only[t7] at hg;subst hg;simp only[bF] at h;split at h
   ·rename_i v hv;split at h
    ·rename_i hok;simp only[t7] at h;subst h;exact alb ho h1 h2 hv hok
    ·cases h
   ·cases h
  ·cases hg
 -- fieldAddr
 ·rename_i t y f ho;split at hg
  ·rename_i fs y' hu h1;split at hg
   ·rename_i fd hf;split at hg
    ·cases hg
    ·rename_i hz;simp only[t7] at hg;subst hg;simp only[bF] at h;split at h
     ·rename_i gs hgs;split at h
      ·rename_i v hv;split at h
       ·rename_i hoff;simp only[t7] at h;subst h;exact ak3 ho hu hf hz h1 hgs hv hoff
       ·cases h
      ·cases h
     ·rename_i n p hp;split at h
      ·rename_i gs hgs;split at h
       ·rename_i hoff;simp only[t7] at h;subst h;exact ak2 ho hu hf hz h1 hp hgs hoff.1 hoff.2
       ·cases h
      ·cases h
     ·cases h
   ·cases hg
  ·cases hg
 -- field
 ·rename_i t y f ho;split at hg
  ·rename_i fs y' hu h1;split at hg
   ·rename_i fd hf;simp only[zz1] at hg;obtain ⟨s,hs,rfl⟩:=hg;simp only[bF] at h;split at h
    ·rename_i gs hgs;split at h
     ·rename_i v hv;split at h
      ·rename_i hoff;simp only[t7] at h;subst h;exact ak4 ho hu hf hs h1 hgs hv hoff.1 hoff.2
      ·cases h
     ·cases h
    ·cases h
   ·cases hg
  ·cases hg
 -- indexAddr
 ·rename_i t y i ho;split at hg
  ·rename_i n e y' i' hu h1 h2;split at hg
   ·rename_i hinfo;obtain ⟨ti,hti⟩:=zw7.1 hinfo;simp only[t7] at hg;subst hg;simp only[bF] at h;split at h
    ·rename_i kk k hk;split at h
     ·rename_i hb;split at h
      ·rename_i gs hgs;split at h
       ·rename_i hev;simp only[zz1] at h;obtain ⟨v,hv,rfl⟩:=h;exact ak6 ho hu hti h1 h2 hgs hk hb hev hv
       ·cases h
      ·rename_i m p hp;split at h
       ·rename_i gs hgs;split at h
        ·rename_i hev;simp only[t7] at h;subst h;exact ak5 ho hu hti h1 h2 hp hk hb hgs hev
        ·cases h
       ·cases h
      ·cases h
     ·cases h
    ·cases h
   ·cases hg
  ·rename_i e y' i' hu h1 h2;split at hg
   ·rename_i hinfo;obtain ⟨ti,hti⟩:=zw7.1 hinfo;simp only[t7] at hg;subst hg;simp only[bF] at h;split at h
    ·rename_i kk k hk;split at h
     ·rename_i sz es hes;split at h
      ·rename_i hb;obtain ⟨rfl,hb⟩:=hb;simp only[zz1] at h;obtain ⟨v,hv,rfl⟩:=h;exact ak7 ho hu hti h1 h2 hes hk hb hv
      ·cases h
     ·rename_i m l hm;split at h
      ·rename_i T sz es hes;split at h
       ·rename_i hb;obtain ⟨rfl,rfl,hb⟩:=hb;simp only[zz1] at h;obtain ⟨v,hv,rfl⟩:=h;exact ak8 ho hu hti h1 h2 hm hes hk hb hv
       ·cases h
      ·cases h
     ·rename_i m p sz lo l hm;split at h
      ·rename_i fs hfs;split at h
       ·rename_i hb;simp only[t7] at h;subst h;exact ak9 ho hu hti h1 h2 hb.1 hm hfs hk hb.2
       ·cases h
      ·cases h
     ·cases h
    ·cases h
   ·cases hg
  ·cases hg
 -- index
 ·rename_i t y i ho;split at hg
  ·rename_i n e y' i' hu h1 h2;simp only[zz1] at hg;obtain ⟨s,hs,rfl⟩:=hg;simp only[bF] at h;split at h
   ·rename_i kk k hk;split at h
    ·rename_i hb;split at h
     ·rename_i gs hgs;split at h
      ·rename_i hev;split at h
       ·rename_i v hv;split at h
        ·rename_i hok;simp only[t7] at h;subst h;exact ala ho hu hs h1 h2 hgs hk hb hev hv hok
        ·cases h
       ·cases h
      ·cases h
     ·cases h
    ·cases h
   ·cases h
  ·cases hg
 -- slice
 ·rename_i t y lo hi mx ho;split at hg
  ·rename_i n e y' hu h1;split at hg
   ·split at hg
    ·rename_i hinfo;obtain ⟨ti,hti⟩:=zw7.1 hinfo;simp only[t7] at hg;subst hg;simp only[bF] at h;split at h
     ·rename_i m p hp;split at h
      ·rename_i gs hgs;split at h
       ·rename_i hev;simp only[t7] at h;subst h;exact alj ho hu hti h1 hp hgs hev.1 hev.2.1 hev.2.2
       ·cases h
      ·cases h
     ·rename_i gs hgs;split at h
      ·rename_i hev;simp only[t7] at h;subst h;exact alk ho hu hti h1 hgs hev.1 hev.2.1
      ·cases h
     ·cases h
    ·cases hg
   ·cases hg
  ·rename_i e y' hu h1;split at hg
   ·rename_i lo' hi' mx' q1 q2 q3;split at hg
    ·rename_i hc;obtain ⟨ti,hti⟩:=zw7.1 hc.2;simp only[t7] at hg;subst hg;simp only[bF] at h;split at h
     ·rename_i sz es hes;split at h
      ·rename_i hsz;subst hsz;exact xS ho hu hti h1 q1 q2 q3 hc.1 (.inl hes) h
      ·cases h
     ·rename_i sz hes;split at h
      ·rename_i hsz;subst hsz;exact xS ho hu hti h1 q1 q2 q3 hc.1 (.inr (.inl ⟨hes,rfl⟩)) h
      ·cases h
     ·rename_i sz hes;split at h
      ·rename_i hsz;subst hsz;exact xS ho hu hti h1 q1 q2 q3 hc.1 (.inr (.inr ⟨hes,rfl⟩)) h
      ·cases h
     ·rename_i n p sz l0 k hv;split at h
      ·rename_i fs hfs;split at h
       ·rename_i hsz;exact ali ho hu hti h1 q1 q2 q3 hc.1 hsz hv hfs h
       ·cases h
      ·cases h
     ·cases h
    ·cases hg
   ·cases hg
  ·cases hg
 -- build
 ·rename_i t parts ho;split at hg
  ·rename_i zs ps hz hp;split at hg
   ·rename_i fs hu;split at hg
    ·rename_i hc;simp only[t7] at hg;subst hg;simp only[bF,zz1] at h;obtain ⟨zs',h,rfl⟩:=h;exact Ko ho hz hp (.inl ⟨fs,hu,hc.1,hc.2⟩) h
    ·cases hg
   ·rename_i n e hu;split at hg
    ·rename_i hc;simp only[t7] at hg;subst hg;simp only[bF,zz1] at h;obtain ⟨zs',h,rfl⟩:=h;exact Ko ho hz hp (.inr ⟨n,e,hu,hc.1,hc.2.1,hc.2.2⟩) h
    ·cases hg
   ·cases hg
  ·cases hg
 -- buildSlice
 ·rename_i t len parts ho;split at hg
  ·rename_i e hu;split at hg
   ·rename_i ps hp;split at hg
    ·rename_i h0;obtain ⟨rfl,rfl,h0⟩:=h0;obtain ⟨ti,hti⟩:=zw7.1 h0;simp only[t7] at hg;subst hg;simp only[bF,t7] at h;subst h;exact akW ho hu hti
    split at hg
    ·rename_i hc;obtain ⟨c1,c2,c3,gT,jc⟩:=hc;simp only[t7] at hg;subst hg;simp only[bF] at h;split at h
     ·rename_i es hes;split at h
      ·rename_i hev;simp only[t7] at h;subst h;refine akV ho hu hp c1 c2 c3 gT jc hes (fun y hy =>?_) hev.2;have:=zx9.1 hev.1 y hy;simpa using this
      ·cases h
     ·cases h
    ·cases hg
   ·cases hg
  ·cases hg
 -- extract
 ·rename_i y i ho;simp only[zz1] at hg;obtain ⟨z,hz,rfl⟩:=hg;simp only[bF] at h;split at h
  ·rename_i fs hfs;exact ak1 ho hz hfs h
  ·cases h
 -- makeFunc
 ·rename_i f first caps ho
  split at hg
  ·rename_i hfirst;simp only[zz1] at hg;obtain ⟨ys,hys,rfl⟩:=hg;simp only[bF] at h;split at h
   ·rename_i hv;simp only[t7] at h;subst h;have hf:first = #[]:=by simpa using hfirst
    rw[hf] at ho;refine ald ho hys (fun y hy =>?_);have:=zx9.1 hv (ab A y) (zw5.2 ⟨y,hy,rfl⟩);exact this
   ·cases h
  ·cases hg
 -- alloc
 ·simp only[zz1] at hg;obtain ⟨z,_,rfl⟩:=hg;simp[bF] at h
 -- box
 ·simp only[zz1] at hg;obtain ⟨z,_,rfl⟩:=hg;simp[bF] at h
 -- store
 ·split at hg
  ·split at hg
   ·simp only[t7] at hg;subst hg;simp[bF] at h
   ·cases hg
  ·cases hg
 -- call
 ·split at hg
  ·simp only[zz1] at hg;obtain ⟨z,_,rfl⟩:=hg;simp[bF] at h
  ·simp only[zz1] at hg;obtain ⟨z,_,rfl⟩:=hg;simp[bF] at h
 ·split at hg
  ·simp only[t7] at hg;subst hg;simp[bF] at h
  ·cases hg
 -- len
 ·rename_i args tys ho;split at hg
  ·rename_i y ty hargs htys;have ho':o.op=.call { callee:=.builtin .len,args := #[y],argTypes := #[ty] } :=by
    rw[ho];have e1:args = #[y]:=by apply Array.ext';simpa using hargs
    have e2:tys = #[ty]:=by apply Array.ext';simpa using htys
    rw[e1,e2]
   split at hg
   ·rename_i e hu;simp only[zz1] at hg;obtain ⟨y',hy,rfl⟩:=hg;simp only[bF] at h;split at h
    ·rename_i sz es hes;simp only[t7] at h;subst h;refine pP ho' hu (.inl ⟨e,rfl⟩) hy (fun a w D E hs v hv =>?_);rw[hes] at hv;obtain ⟨ad,cap,e1,e2,e3,_⟩:=oh hv;exact ⟨zu1 e2 e3,fun _=>⟨ad,cap,e1⟩,fun e=>by cases e⟩
    ·rename_i sz hes;simp only[t7] at h;subst h;refine pP (n:=0) ho' hu (.inl ⟨e,rfl⟩) hy (fun a w D E hs v hv =>?_);rw[hes] at hv;obtain ⟨cs,q1,q2⟩:=hv;simp only[af] at q2;exact ⟨by simp[maxLen],fun _=>⟨none,0,by simpa[bR,I.isAgg,q2] using q1.symm⟩,fun e=>by cases e⟩
    ·rename_i sz hes;simp only[t7] at h;subst h;refine pP (n:=0) ho' hu (.inl ⟨e,rfl⟩) hy (fun a w D E hs v hv =>?_);rw[hes] at hv;obtain ⟨cs,q1,q2⟩:=hv;simp only[af] at q2;obtain ⟨ad,q2⟩:=q2;exact ⟨by simp[maxLen],fun _=>⟨ad,0,by simpa[bR,I.isAgg,q2] using q1.symm⟩,fun e=>by cases e⟩
    ·rename_i m l hm;split at h
     ·rename_i T sz es hes;split at h
      ·rename_i hl;subst hl;simp only[t7] at h;subst h;refine pP ho' hu (.inl ⟨e,rfl⟩) hy (fun a w D E hs v hv =>?_);rw[hm] at hv;rcases hs.own hes hv with ⟨rfl,_,rfl⟩ | ⟨b,cap,cs,pre,rest,_,rfl,_,_,_,_,_,k8,k9,_⟩
       ·exact ⟨by simp[maxLen],fun _=>⟨none,0,rfl⟩,fun e=>by cases e⟩
       ·exact ⟨zu1 k8 k9,fun _=>⟨_,_,rfl⟩,fun e=>by cases e⟩
      ·cases h
     ·cases h
    ·rename_i n p sz lo k hm;simp only[t7] at h;subst h;refine pP ho' hu (.inl ⟨e,rfl⟩) hy (fun a w D E hs v hv =>?_);rw[hm] at hv;obtain ⟨cs,q1,q2⟩:=hv;simp only[af] at q2;obtain ⟨b,aU,off,l,_,_,_,q2,q3,q4,_⟩:=q2;exact ⟨by omega,fun _=>⟨_,_,by simpa[bR,I.isAgg,q2] using q1.symm⟩,fun e=>by cases e⟩
    ·cases h
   ·rename_i hu;simp only[zz1] at hg;obtain ⟨y',hy,rfl⟩:=hg;simp only[bF] at h;split at h
    ·rename_i s hs';simp only[t7] at h;subst h;refine pP ho' hu (.inr rfl) hy (fun a w D E hs v hv =>?_);rw[hs'] at hv;obtain ⟨e1,e2⟩:=oi hv;exact ⟨e2,(fun e=>by obtain ⟨_,e⟩:=e;cases e),fun _=>⟨s,e1,rfl⟩⟩
    ·cases h
   ·cases hg
  ·cases hg
 -- append
 ·split at hg
  ·split at hg
   ·split at hg
    ·simp only[zz1] at hg;obtain ⟨z,_,rfl⟩:=hg;simp[bF] at h
    ·split at hg
     ·simp only[zz1] at hg;obtain ⟨z,_,rfl⟩:=hg;simp[bF] at h
     ·cases hg
   ·cases hg
  ·cases hg
 -- cap
 ·rename_i args tys ho;split at hg
  ·rename_i y ty hargs htys;have ho':o.op=.call { callee:=.builtin .cap,args := #[y],argTypes := #[ty] } :=by
    rw[ho];have e1:args = #[y]:=by apply Array.ext';simpa using hargs
    have e2:tys = #[ty]:=by apply Array.ext';simpa using htys
    rw[e1,e2]
   split at hg
   ·rename_i e hu;simp only[zz1] at hg;obtain ⟨y',hy,rfl⟩:=hg;simp only[bF] at h;split at h
    ·rename_i sz hes;simp only[t7] at h;subst h;refine xQ ho' hu hy (fun a w D E hs v hv =>?_);rw[hes] at hv;obtain ⟨cs,q1,q2⟩:=hv;simp only[af] at q2;exact ⟨by simp[maxLen],_,_,by simpa[bR,I.isAgg,q2] using q1.symm⟩
    ·rename_i sz hes;simp only[t7] at h;subst h;refine xQ ho' hu hy (fun a w D E hs v hv =>?_);rw[hes] at hv;obtain ⟨cs,q1,q2⟩:=hv;simp only[af] at q2;obtain ⟨ad,q2⟩:=q2;exact ⟨by simp[maxLen],_,_,by simpa[bR,I.isAgg,q2] using q1.symm⟩
    ·rename_i n p sz lo k hm;split at h
     ·rename_i fs hfs;simp only[t7] at h;subst h;refine xQ ho' hu hy (fun a w D E hs v hv =>?_);rw[hm] at hv;obtain ⟨_,b,cs,T,off,c1,c2,c3,_,_,_,_,_,_,_,_,_,_,_,q1,q2⟩:=hs.view hv hfs;exact ⟨by omega,_,_,q2⟩
     ·cases h
    ·cases h
   ·cases hg
  ·cases hg
 -- clear
 ·split at hg
  ·split at hg
   ·simp only[zz1] at hg;obtain ⟨z,_,rfl⟩:=hg;simp[bF] at h
   ·cases hg
  ·cases hg
 -- copy
 ·split at hg
  ·split at hg
   ·split at hg
    ·simp only[t7] at hg;subst hg;simp[bF] at h
    ·cases hg
   ·cases hg
  ·cases hg
 ·cases hg
theorem gn.append{α β:Type}{R:α→β→Prop} : ∀ {xs:List α} {ys:List β} {xs':List α} {ys':List β},gn R xs ys→gn R xs' ys'→gn R (xs++xs') (ys++ys')
 |_,_,_,_,.nil,h=>h
 |_,_,_,_,.cons h1 h2,h=>.cons h1 (h2.append h)
theorem zt{w:World}{D:aV}{E:a6} : ∀ {xs:List I} {vs:List Value},aK w D E xs vs→gn (aY w D E) xs vs
 | [],vs,h=>by simp only[aK] at h;subst h;exact .nil
 |x::xs,vs,h=>by
  simp only[aK] at h;obtain ⟨v,rest,cs,rfl,h1,h2,h3⟩:=h;exact .cons (mW h1 h2) (zt h3)
theorem Um {P : Program} {f : FuncId} (h : il P f = true) : ∃ fn, P.funcs[f]? = some fn ∧ ¬ fn.name = "runtime.NumGoroutine" ∧ ¬ fn.body = none := by
 unfold il at h;cases hf:P.funcs[f]? with
 |none=>simp[hf] at h
 |some fn =>
  simp only[hf,Option.any_some,zz4,bne_iff_ne,ne_eq] at h;refine ⟨fn,rfl,by simpa using h.1,?_⟩;cases hb:fn.body <;>simp_all
theorem zo{P:Program}{w:World}{f:FuncId}{args:Array Value}(h:il P f=true):(callFunc f args).run P w=.ok (.enter f args) w:=by
 obtain ⟨fn,h1,h2,h3⟩:=Um h;simp[callFunc,h1,h2,h3]
theorem aw.apI{f:FuncId}{avs cargs:List I}{r:I}{vs:List Value}{a:Act}{w:World}{D:aV}{E:a6}(hs:aW c A a w D E)(h:aw c.P f cargs r)(hf:r.flat=true)(hc:b7 true A avs=some cargs)(hv:gn (aY w D E) avs vs) :
  Calls c.P f vs.toArray w fun e w'=>∃ v D',e=.returned v∧aW c A a w' D' E∧aY w' D' E r v:=by
 have hw:iL true A D E (fun b _=>b<w.heap.size):=by
  refine ⟨fun b o hd=>hs.dm b o hd,fun n T sz es b cap hn aA o _=>hs.gp aA rfl,fun _ n x b aU hn aA o _=>hs.gp aA rfl,fun _ n ks vs b hn aA=>hs.gp aA rfl⟩
 have hrv:=mN (E':=dB) hs (fun _ _ h=>h) hw avs cargs vs (m9 _ _ hv (qZ hc)) hc;refine (h.2 w _ vs (fun _ _ hd=>hd) hrv).mono fun e w' ⟨v,D',he,h1,h2,h3,h4⟩=>⟨v,D,he,?_,aY.flat hf h1⟩
 exact hs.grow h2 (fun _ _ hd=>hd) (fun _ _ hd _=>hd) (fun b o hd=>Nat.lt_of_lt_of_le (hs.dm b o hd) h2.size)
theorem aw.apK{f:FuncId}{avs cargs:List I}{r:I}{vs:List Value}{a:Act}{w:World}{D:aV}{E:a6}(hs:aW c A a w D E)(h:aw c.P f cargs r)(hc:b7 false A avs=some cargs)(hv:gn (aY w D E) avs vs) :
  Calls c.P f vs.toArray w fun e w'=>∃ v D',e=.returned v∧aW c A a w' D' E∧aY w' D' E r v:=by
 obtain ⟨hs1,hw⟩:=hs.o5;have hrv:=mN (E':=dB) hs (fun _ _ h=>h) hw avs cargs vs (m9 _ _ hv (qZ hc)) hc;refine (h.2 w _ vs hs1.dm hrv).mono fun e w' ⟨v,D',he,h1,h2,h3,h4⟩=>⟨v,fun b o=>oX A D E b o∨(w.heap.size≤b∧D' b o),he,?_,?_⟩
 ·refine hs1.grow h2 (fun _ _ hd=>.inl hd) ?_ ?_
  ·rintro b o (hd | ⟨hle,_⟩) hlt
   ·exact hd
   ·omega
  ·rintro b o (hd | ⟨_,hd⟩)
   ·exact Nat.lt_of_lt_of_le (hs1.dm b o hd) h2.size
   ·exact h3 b o hd
 ·refine aY.bM (E:=dB) ⟨fun b o hd =>?_,fun _ _ _ _ h=>h,fun n b aU hn=>by simp[dB] at hn,fun n aI l hn=>by simp[dB] at hn,fun n b hn=>by simp[dB] at hn,fun n b hn=>by simp[dB] at hn,fun _ _ _ _ h=>h⟩ h1;rcases Nat.lt_or_ge b w.heap.size with hlt | hge
  ·exact .inl (h4 b o hd hlt)
  ·exact .inr ⟨hge,hd⟩
theorem K6(p:Nat→Bool)(os:List (Nat×ah))(n:Nat):ak (os.filter fun q=>p q.1) n=if p n then ak os n else none:=by
 induction os with
 |nil=>simp[ak]
 |cons q os ih =>
  obtain ⟨k,v⟩:=q;simp only[zx7];by_cases hk:p k=true
  ·simp only[hk,if_true,ak,ih];by_cases hn:n=k
   ·subst hn;simp only[hk,if_true]
   ·simp only[if_neg hn]
  ·simp only[hk,zz8,if_false,ih,ak];by_cases hn:n=k
   ·subst hn;simp[hk]
   ·simp only[if_neg hn]
theorem l6(ns:List Nat)(os:List (Nat×ah))(n:Nat):ak (cJ ns os) n=if ns.contains n then none else ak os n:=by
 rw[cJ,K6 (fun n => !ns.contains n)];cases ns.contains n <;>rfl
theorem l7(ns:List Nat)(os:List (Nat×ah))(n:Nat):ak (gh ns os) n=if ns.contains n then ak os n else none:=K6 _ _ _
theorem uh{p:Nat→Bool} : ∀ {os:List (Nat×ah)},aZ p os→∀ k x,ak os k=some x→x.only p=true
 | [],_,k,x,hx=>by simp[ak] at hx
 |(j,v)::r,h,k,x,hx=>by
  simp only[aZ] at h;simp only[ak] at hx;split at hx
  ·simp only[t7] at hx;subst hx;exact h.1
  ·exact uh h.2 k x hx
theorem K7(ns:List Nat):∀ (ts:List (Nat×I)) (t:Nat),bQ (fK ns ts) t=if (bQ ts t).only (fun n => !ns.contains n) then bQ ts t else .dg
 | [],t=>by simp[fK,bQ,I.only]
 |(k,v)::r,t=>by
  simp only[fK,zy2,bQ];by_cases h:t=k
  ·simp only[if_pos h]
  ·simp only[if_neg h];exact K7 ns r t
theorem aW.EO{a:Act}{w:World}{D:aV}{E:a6}{ts:List (Nat×I)}{os0:List (Nat×ah)}(h:aW c (ar ts os0) a w D E)(ns:List Nat)(ho:aZ (fun n => !ns.contains n) (cJ ns os0)) :
  ∃ D' E',aW c (ar (fK ns ts) (cJ ns os0)) a w D' E'∧iL true (ar ts (gh ns os0)) D E D':=by
 have h1:=h.o5.1;have hw1:=h.o5.2;obtain ⟨D1,hD1⟩:∃ D1,D1=oX (ar ts os0) D E:=⟨_,rfl⟩
 rw[←hD1] at h1 hw1;obtain ⟨D2,hD2⟩:∃ D2:aV,D2=fun b o=>D1 b o∨(∃ n x aU,ns.contains n=true∧ak os0 n=some (.box x)∧E n=some (.aD b aU)∧o<x.size)∨∃ n ks vs,ns.contains n=true∧ak os0 n=some (.cB ks vs)∧E n=some (.cB b)∧o=0:=⟨_,rfl⟩
 obtain ⟨E2,hE2⟩:∃ E2:a6,E2=fun n=>if ns.contains n then none else E n:=⟨_,rfl⟩
 have e2:∀ n,(!ns.contains n)=true→E2 n=E n:=fun n hn=>by rw[hE2];simp at hn;simp[hn]
 have hl:dV w D1 E2 w D2 E2:=⟨fun b o hd=>by rw[hD2];exact .inl hd,fun _ _ _ _ h=>h,fun _ _ _ h=>h,fun _ aI l h=>⟨aI,l,h,zz9 _,fun _=>rfl⟩,fun _ _ h=>h,fun _ _ h=>h,fun _ _ _ _ h=>h⟩
 have p7:∀ b o,D2 b o→D1 b o∨∃ n e q,ns.contains n=true∧E n=some e∧e.aI=some b∧c.ft b∧w.heap[b]?=some q:=fun b o hd=>by
  rw[hD2] at hd;rcases hd with hd | ⟨n,x,aU,k1,k2,k3,k4⟩ | ⟨n,ks,vs,k1,k2,k3,_⟩
  ·exact .inl hd
  ·obtain ⟨b',cs,T,q1,q2,q3,_⟩:=h.box (n:=n) (x:=x) (by simpa[ar] using k2);rw[k3] at q1;simp only[t7,bZ.aD.injEq] at q1;obtain ⟨rfl,rfl⟩:=q1;exact .inr ⟨n,_,_,k1,k3,rfl,q2,q3⟩
  ·obtain ⟨b',es,ck,q1,q2,q3,_⟩:=h.map (n:=n) (ks:=ks) (vs:=vs) (by simpa[ar] using k2);rw[k3] at q1;cases q1;exact .inr ⟨n,_,_,k1,k3,rfl,q2,q3⟩
 refine ⟨D2,E2,⟨h1.sz,h1.eW,fun t =>?_,h1.dW,fun b o hd hm =>?_,fun b o hd =>?_,fun n =>?_,fun n m e e' b g1 g2 g3 g4 =>?_,fun n e hn =>?_,h1.ff,fun b o hd=>hl.dc b o (h1.cQ b o hd),h1.fh,h1.fO⟩,?_⟩
 ·simp only[ar,K7];have ht:=h1.en t;simp only[ar] at ht;split
  ·rename_i hp;exact aY.bM hl (aY.dI e2 hp ht)
  ·simp[aY]
 ·rcases p7 b o hd with hd | ⟨n,e,q,_,_,_,k,_⟩
  ·exact h1.dc b o hd hm
  ·exact absurd k hm
 ·rcases p7 b o hd with hd | ⟨n,e,q,_,_,_,_,k⟩
  ·exact h1.dm b o hd
  ·exact gu k
 ·simp only[ar,l6];by_cases hn:ns.contains n=true
  ·simp only[hn,if_true,de];rw[hE2];simp only[hn,if_true]
  ·have hnb:(!ns.contains n)=true:=by simpa using hn
   simp only[hn,zz8,if_false];have hob:=h1.bV n;simp only[ar] at hob;cases hx:ak os0 n with
   |none=>rw[hx] at hob;simp only[de] at hob ⊢;rw[e2 n hnb];exact hob
   |some x =>
    have hon:=uh ho n x (by rw[l6,if_neg hn];exact hx);have nD:∀ e b,E n=some e→e.aI=some b→∀ o,D2 b o→D1 b o:=fun e b he hb o hd=>by
     rcases p7 b o hd with hd | ⟨m,e',q,k1,k3,k2,_⟩
     ·exact hd
     ·have:=h.c4 n m e _ b he k3 hb k2;subst this;exact absurd k1 hn
    rw[hx] at hob;cases x with
    |box x =>
     obtain ⟨b,cs,T,k1,k2,k3,k4,k5⟩:=hob;exact ⟨b,cs,T,(e2 n hnb).trans k1,k2,k3,af.bM hl _ _ (af.dI e2 _ _ (by simpa[ah.only] using hon) k4),fun o hd=>k5 o (nD _ b k1 rfl o hd)⟩
    |b5 T sz es =>
     obtain ⟨aI,k1,k2,k3⟩:=hob;refine ⟨aI,(e2 n hnb).trans k1,k2,?_⟩;cases aI with
     |none=>exact k3
     |some bc =>
      obtain ⟨b,cap⟩:=bc;obtain ⟨cs,pre,rest,q1,q2,q3,q4,q5,q6,q7,q8⟩:=k3;exact ⟨cs,pre,rest,q1,q2,q3,aL.bM hl _ _ (aL.dI e2 _ _ (by simpa[ah.only] using hon) q4),q5,q6,q7,fun o hd=>q8 o (nD _ b k1 rfl o hd)⟩
    |c5 T xs =>
     obtain ⟨aI,k1,k2,k3⟩:=hob;refine ⟨aI,(e2 n hnb).trans k1,k2,?_⟩;cases aI with
     |none=>exact k3
     |some bc =>
      obtain ⟨b,cap⟩:=bc;obtain ⟨cs,r,q1,q2,q3,q4,q5,q6,q7⟩:=k3;exact ⟨cs,r,q1,q2,q3,q4,q5,q6,fun o hd=>q7 o (nD _ b k1 rfl o hd)⟩
    |dT x =>
     obtain ⟨b,k1,k2,k3,k4,k5⟩:=hob;exact ⟨b,(e2 n hnb).trans k1,k2,k3,k4,fun o hd=>k5 o (nD _ b k1 rfl o hd)⟩
    |cB ks vs =>
     obtain ⟨b,es,ck,k1,k2,k3,k4,k5,k6,k7⟩:=hob;simp only[ah.only,zz4] at hon;exact ⟨b,es,ck,(e2 n hnb).trans k1,k2,k3,k4,aK.bM hl _ _ (aK.dI e2 _ _ hon.1 k5),aK.bM hl _ _ (aK.dI e2 _ _ hon.2 k6),fun o hd=>k7 o (nD _ b k1 rfl o hd)⟩
    |it ks vs left cur =>
     obtain ⟨r,b,es,ck,si,se,la,k1,k2,k3,k4,k5,k6,k7,k8,k9,k9',k10⟩:=hob;simp only[ah.only,zz4] at hon;exact ⟨r,b,es,ck,si,se,la,(e2 n hnb).trans k1,k2,k3,k4.bM hl,aK.bM hl _ _ (aK.dI e2 _ _ hon.1 k5),aK.bM hl _ _ (aK.dI e2 _ _ hon.2 k6),k7,k8,k9,k9',fun o hd=>k10 o (nD _ r k1 rfl o hd)⟩
 ·have cut:∀ n e,E2 n=some e→E n=some e:=fun n e he=>by
   rw[hE2] at he;simp only at he;split at he
   ·cases he
   ·exact he
  exact h.c4 n m e e' b (cut n e g1) (cut m e' g2) g3 g4
 ·by_cases hm:ns.contains n=true
  ·left;rw[hE2];simp only[hm,if_true]
  ·rw[e2 n (by simpa using hm)];exact h.dZ n e hn
 ·refine ⟨fun b o hd=>by rw[hD2];exact .inl (hw1.dc b o hd),fun n T sz es b cap hn aA o hlt =>?_,fun _ n x b aU hn aA o hlt =>?_,fun _ n ks vs b hn aA =>?_⟩
  ·simp only[ar,l7] at hn;split at hn
   ·rw[hD2];exact .inl (hw1.b5 n T sz es b cap hn aA o hlt)
   ·cases hn
  ·simp only[ar,l7] at hn;split at hn
   ·rename_i hk;rw[hD2];exact .inr (.inl ⟨n,x,aU,hk,hn,aA,hlt⟩)
   ·cases hn
  ·simp only[ar,l7] at hn;split at hn
   ·rename_i hk;rw[hD2];exact .inr (.inr ⟨n,ks,vs,hk,hn,aA,rfl⟩)
   ·cases hn
theorem aw.apJ{f:FuncId}{avs cargs:List I}{r:I}{vs:List Value}{a:Act}{w:World}{D:aV}{E:a6}{ts:List (Nat×I)}{os0:List (Nat×ah)}(hs:aW c (ar ts os0) a w D E)(ns:List Nat)(ho:aZ (fun n => !ns.contains n) (cJ ns os0))
  (h:aw c.P f cargs r) (hc:b7 true (ar ts (gh ns os0)) avs=some cargs) (hv:gn (aY w D E) avs vs) :
  Calls c.P f vs.toArray w fun e w'=>∃ v D' E',e=.returned v∧aW c (ar (fK ns ts) (cJ ns os0)) a w' D' E'∧aY w' D' E' r v:=by
 obtain ⟨D1,E1,hs1,hw⟩:=hs.EO ns ho;have hu:eB (ar ts (gh ns os0)) (ar ts os0):=fun n x hx=>by
  simp only[ar,l7] at hx ⊢;split at hx
  ·exact hx
  ·cases hx
 have hrv:=mN (E':=dB) hs hu hw avs cargs vs (m9 _ _ hv (qZ hc)) hc;refine (h.2 w _ vs hs1.dm hrv).mono fun e w' ⟨v,D',he,h1,h2,h3,h4⟩=>⟨v,fun b o=>D1 b o∨(w.heap.size≤b∧D' b o),E1,he,?_,?_⟩
 ·refine hs1.grow h2 (fun _ _ hd=>.inl hd) ?_ ?_
  ·rintro b o (hd | ⟨hle,_⟩) hlt
   ·exact hd
   ·omega
  ·rintro b o (hd | ⟨_,hd⟩)
   ·exact Nat.lt_of_lt_of_le (hs1.dm b o hd) h2.size
   ·exact h3 b o hd
 ·refine aY.bM (E:=dB) ⟨fun b o hd =>?_,fun _ _ _ _ h=>h,fun n b aU hn=>by simp[dB] at hn,fun n aI l hn=>by simp[dB] at hn,fun n b hn=>by simp[dB] at hn,fun n b hn=>by simp[dB] at hn,fun _ _ _ _ h=>h⟩ h1;rcases Nat.lt_or_ge b w.heap.size with hlt | hge
  ·exact .inl (h4 b o hd hlt)
  ·exact .inr ⟨hge,hd⟩
theorem vw{a:Act}{w:World}{D D1:aV}{E:a6}{ts:List (Nat×I)}{os0 os:List (Nat×ah)}{ρ:List (Nat×Nat)}{aD:Bool}{A0:ae}(hs:aW c (ar ts os0) a w D E)(hu:eB A0 (ar ts os0))(hD:∀ b o,D b o→D1 b o)(hw:iL aD A0 D E D1) :
  ∀ (avs cargs:List I) (vs:List Value),jF aD A0 ρ os avs cargs→gn (aY w D E) avs vs→aK w D1 (aA ρ os E) cargs vs
 | [],[],vs,_,hv=>by cases hv;simp[aK]
 | [],_::_,_,h,_=>by simp[jF] at h
 |_::_,[],_,h,_=>by simp[jF] at h
 |x::xs,y::ys,vs,h,hv=>by
  cases hv with
  |cons hv hvs =>
  rename_i v vs;simp only[jF] at h;have ih:=vw hs hu hD hw xs ys vs h.2 hvs;have hl:dV w D (aA ρ os E) w D1 (aA ρ os E):=⟨hD,fun _ _ _ _ h=>h,fun _ _ _ h=>h,fun _ aI l h=>⟨aI,l,h,zz9 _,fun _=>rfl⟩,fun _ _ h=>h,fun _ _ h=>h,fun _ _ _ _ h=>h⟩
  have h1:∃ cs,bR y v cs∧af w D1 (aA ρ os E) y cs:=by
   rcases h.1 with ⟨k1,k2,k3⟩ | k
   ·rw[k1] at hv;have h2:=aY.bM hl ((aY.aQ (w:=w) (D:=D) (p:=al os) (ρ:=bJ ρ) (E:=aA ρ os E) (E':=E) (fun n hn=>by simp only[aA,hn,if_true]) k2).1 hv);cases y <;>simp only[aY] at h2 <;>first | (simp[I.cu] at k3;done) | exact h2
   ·have h2:aK w D E [x] [v]:=m9 [x] [v] (.cons hv .nil) (by
     intro z hz;simp only[List.mem_singleton] at hz;subst hz;cases z <;>simp_all[bl,I.cu])
    have h3:=mN (E':=aA ρ os E) hs hu hw [x] [y] [v] h2 (by simp[b7,k]);simp only[aK] at h3;obtain ⟨v',rest,cs,e,k1,k2,_⟩:=h3;simp only[List.cons.injEq] at e;obtain ⟨rfl,_⟩:=e;exact ⟨cs,k1,k2⟩
  obtain ⟨cs,k1,k2⟩:=h1;simp only[aK];exact ⟨v,vs,cs,rfl,k1,k2,ih⟩
theorem eB.drop(ts:List (Nat×I))(ns:List Nat)(os0:List (Nat×ah)):eB (ar ts (cJ ns os0)) (ar ts os0):=fun n x hx=>by
 simp only[ar,l6] at hx ⊢;split at hx
 ·cases hx
 ·exact hx
theorem qG.use{run:Array Value→World→(Ending→World→Prop)→Prop}{since:World→aV→a6→Prop}{avs cargs:List I}{post:cR}{vs:List Value}{a:Act}{w:World}{D:aV}{E:a6}{ts:List (Nat×I)}{os0 os:List (Nat×ah)}{ρ:List (Nat×Nat)}
  (hs:aW c (ar ts os0) a w D E) (h:qG run since cargs os post) (aD:Bool) (hmono:∀ {vs w R R'},run vs w R→(∀ e w,R e w→R' e w)→run vs w R') (hsince:(aD=true→∀ D E,since w D E)∧(aD=false→since w (oX (ar ts os0) D E) (aA ρ os E)))
  (hg:fX ρ os os0) (ha:jF aD (ar ts (cJ (jN ρ os) os0)) ρ os avs cargs) (hb:∀ r os',post r os'→ee aD ρ os os0 r os') (hv:gn (aY w D E) avs vs) :
  run vs.toArray w fun e w'=>∃ v r os' D2 E2,e=.returned v∧post r os'∧aW c (ar ts (dN ρ os'++os0)) a w' D2 E2∧aY w' D2 E2 (r.aQ (bJ ρ)) v∧∀ m e,aA ρ os E m=some e→al os' m=true→∃ e',E2 (bJ ρ m)=some e'∧e.le e':=by
 have notName:∀ n,(jN ρ os).contains n=false→∀ m,al os m=true→bJ ρ m≠n:=fun n hn m hm he=>by
  obtain ⟨q,hq,rfl⟩:=ya.1 hm;have:(jN ρ os).contains n=true:=by simp only[jN,List.contains_iff_mem,zw5];exact ⟨q,hq,he⟩
  rw[this] at hn;cases hn
 have other:∀ {D:aV},aW c (ar ts os0) a w D E→∀ n e b x,ak (cJ (jN ρ os) os0) n=some x→E n=some e→e.aI=some b→¬ dG (aA ρ os E) b:=fun hs n e b x hx he hb ho=>by
  obtain ⟨m,e',h1,h2,hb',_⟩:=hs.tu hg ho;rw[l6] at hx;split at hx
  ·cases hx
  ·rename_i hc;have:=hs.c4 n (bJ ρ m) e _ b he h2 hb hb';exact notName n (by simpa using hc) m h1 this.symm
 cases aD with
 |true =>
  obtain ⟨D1,hD1⟩:∃ D1:aV,D1=fun b o=>D b o∨(b<w.heap.size∧¬ dG (aA ρ os E) b):=⟨_,rfl⟩
  have hD:∀ b o,D b o→D1 b o:=fun b o hd=>by rw[hD1];exact .inl hd
  have hw:iL true (ar ts (cJ (jN ρ os) os0)) D E D1:=by
   refine ⟨hD,fun n T sz es b cap hn aA o _ =>?_,fun _ n x b aU hn aA o _ =>?_,fun _ n ks vs b hn aA =>?_⟩
   ·rw[hD1];exact .inr ⟨hs.gp aA rfl,other hs n _ b _ hn aA rfl⟩
   ·rw[hD1];exact .inr ⟨hs.gp aA rfl,other hs n _ b _ hn aA rfl⟩
   ·rw[hD1];exact .inr ⟨hs.gp aA rfl,other hs n _ b _ hn aA rfl⟩
  have hrv:=vw hs (eB.drop ts _ os0) hD hw avs cargs vs ha hv;refine hmono (h w D1 (aA ρ os E) vs (hsince.1 rfl _ _) (fun b o hd=>by
   rw[hD1] at hd;rcases hd with hd | hd
   ·exact hs.dm b o hd
   ·exact hd.1) (hs.Kv hg hD fun b o hd ho=>by
    rw[hD1] at hd;rcases hd with hd | hd
    ·exact hd
    ·exact absurd ho hd.2) hrv) ?_
  rintro e w' ⟨v,D',E',r,os',he,hp,h1,h2,h3,h4,h5,h6,h7,h8⟩;obtain ⟨D2,E2,k1,k2⟩:=hs.nw hg hD (fun h=>by cases h) (hb r os' hp) h1 h2 h3 h5 h4 h8 h6 h7;exact ⟨v,r,os',D2,E2,he,hp,k1,k2⟩
 |false =>
  obtain ⟨hs1,hw⟩:=hs.o5;have hw':iL false (ar ts (cJ (jN ρ os) os0)) D E (oX (ar ts os0) D E):=⟨hw.dc,fun n T sz es b cap hn aA o hlt=>hw.b5 n T sz es b cap (eB.drop ts _ os0 n _ hn) aA o hlt,(fun hb=>by cases hb),fun hb=>by cases hb⟩
  have hrv:=vw hs (eB.drop ts _ os0) hw.dc hw' avs cargs vs ha hv;refine hmono (h w _ (aA ρ os E) vs (hsince.2 rfl) hs1.dm (hs1.Kv hg (fun _ _ h=>h) fun b o hd _=>hd) hrv) ?_;rintro e w' ⟨v,D',E',r,os',he,hp,h1,h2,h3,h4,h5,h6,h7,h8⟩;obtain ⟨D2,E2,k1,k2⟩:=hs1.nw hg (fun _ _ h=>h) (fun _ _ _ h=>h) (hb r os' hp) h1 h2 h3 h5 h4 h8 h6 h7;exact ⟨v,r,os',D2,E2,he,hp,k1,k2⟩
theorem aW.since{A:ae}{a:Act}{w:World}{D:aV}{E E':a6}(h:aW c A a w D E)(aA:∀ n,E' n=E n∨E' n=none):AE c w D E' :=
 ⟨h.dW,h.cQ,h.dc,fun n e hn=>by
  rcases aA n with k | k
  ·rw[k];exact h.dZ n e hn
  ·exact .inl k,h.fO⟩
theorem oG(c:cT)(f:FuncId):c.bp.fn f:=by unfold cT.bp;split <;>trivial
theorem D5(c:cT):c.bp.depth.isSome=true→1≤9:=fun _=>by omega
theorem mD{a:Act}{w:World} : ∀ f,o.about c.P w a.eval=some f→c.bp.fn f:=fun f _=>oG c f
theorem nc{g:cd}(hg:dJ c.P o=some g)(r:Option Nat)(ρ:Operand→Value):o.semAt r ρ=execOp ρ o:=by
 cases r with
 |none=>rfl
 |some l =>
  refine Oper.semAt_some l ρ o fun cl h =>?_;unfold dJ at hg;rw[h] at hg;simp at hg
theorem Uo{f:FuncId}{args:Array Value}{w:World}{R:Ending→World→Prop}(h:Calls c.P f args w R):CallsIn c.bp (9-1) c.P f args w R:=by
 have h1:CallsIn Fence.wide (9-1) c.P f args w R:=callsIn_wide.2 h;unfold cT.bp;split
 ·exact h1
 ·exact h1
theorem sv.mono{P:Program}{v:Value}{vs:Array Value}{w:World}{R R':Ending→World→Prop}(h:sv P v vs w R)(hr:∀ e w,R e w→R' e w):sv P v vs w R':=by
 obtain ⟨l,h1,fn,tmps,assign,body,h2,h3⟩:=h;exact ⟨l,h1,fn,tmps,assign,body,h2,h3.mono hr⟩
theorem aoQ{l:Nat}{f:FuncId}{tmps:Array Value}{assign body:Code}{w:World}{R:Ending→World→Prop}(h:RoundIn Fence.wide 9 c.P l f tmps assign body w R):RoundIn c.bp (9-1) c.P l f tmps assign body w R:=by
 have h1:RoundIn Fence.wide (9-1) c.P l f tmps assign body w R:=⟨h.1,fun cc cs _=>h.2 cc cs (room_wide _)⟩
 unfold cT.bp;split
 ·exact h1
 ·exact h1
theorem ja.wp{B:ae}{g:cd}(hg:dJ c.P o=some g)(h:ja c A o B){a:Act}{w:World}{K:Act→World→Prop}{Q:Exit→Act→World→Prop}(hs:cv c A a w)(hK:∀ a w,cv c B a w→K a w):o.wpIn c.bp 9 c.P a w K Q:=by
 obtain ⟨D,E,hs⟩:=hs;obtain ⟨w',h⟩:=h a w D E hs;refine ⟨mD,?_⟩;rw[nc hg];rcases h with ⟨v,h1,h2⟩ | ⟨h1,h2⟩
 ·rw[h1];exact hK _ _ h2
 ·rw[h1];exact hK _ _ h2
theorem Dl{dr:Bool}{K:ae→Prop}{f:FuncId}{avs:List I}{a1 a2:Option (List I)}{vs:List Value}{dst:Option Nat}{rest:List aG}{a:Act}{w:World}{Kw:Act→World→Prop}{Q:Exit→Act→World→Prop}{g:cd}(hg:dJ c.P o=some g)(h1:b7 true A avs=a1)(h2:b7 false A avs=a2)
  (hs:∀ D E,aW c A a w D E→gn (aY w D E) avs vs) (hsim:cv c A a w) (hwp:br c.P c.Y dr K (.call f avs a1 a2 dst rest A)) (hd:o.dst=dst) (hdn:∀ k,dst=some k→k<c.n)
  (hrun:il c.P f=true→(execOp a.eval o).run c.P w=.ok (.enter f vs.toArray) w)
  (hK:∀ B a' w',br c.P c.Y dr K (aC rest B)→cv c B a' w'→Kw a' w'):o.wpIn c.bp 9 c.P a w Kw Q:=by
 obtain ⟨D,E,hsw⟩:=hsim;have pc:∀ {R:Ending→World→Prop},il c.P f=true→Calls c.P f vs.toArray w R→(∀ e w',R e w'→∃ v,e=.returned v∧Kw (a.put o.dst v) w')→o.wpIn c.bp 9 c.P a w Kw Q:=fun {R} hc hcl hR=>by
  refine ⟨mD,?_⟩;rw[nc hg,hrun hc,Oper.uponIn_enter];refine ⟨D5 c,Uo (hcl.mono fun e w' he =>?_)⟩;obtain ⟨v,rfl,hv⟩:=hR e w' he;exact hv
 cases hwp with
 |flat r hspec hflat hrest =>
  refine pc hspec.1 (hspec.apI hsw hflat h1 (hs D E hsw)) ?_;rintro e w' ⟨v,D',he,hs',hv⟩;refine ⟨v,he,?_⟩;rw[hd];exact hK _ _ _ hrest ⟨D',E,hs'.aS hdn hv⟩
 |lead r hspec hrest =>
  refine pc hspec.1 (hspec.apK hsw h2 (hs D E hsw)) ?_;rintro e w' ⟨v,D',he,hs',hv⟩;refine ⟨v,he,?_⟩;rw[hd];exact hK _ _ _ hrest ⟨D',E,hs'.aS hdn hv⟩
 |gY ns r hdr hspec hf ho hrest =>
  refine pc hspec.1 (hspec.apJ hsw ns ho hf (hs D E hsw)) ?_;rintro e w' ⟨v,D',E',he,hs',hv⟩;refine ⟨v,he,?_⟩;rw[hd];exact hK _ _ _ hrest ⟨D',E',hs'.aS hdn hv⟩
 |bV aD ρ os cargs post hdr hspec hgv ha hb hrest =>
  refine pc hspec.1 (hspec.2.use hsw aD (fun h=>h.mono) ⟨fun _ _ _=>trivial,fun _=>trivial⟩ hgv ha hb (hs D E hsw)) ?_;rintro e w' ⟨v,r,os',D2,E2,he,hp,hs',hv,_⟩;refine ⟨v,he,?_⟩;rw[hd];exact hK _ _ _ (hrest r os' hp) ⟨D2,E2,hs'.aS hdn hv⟩
theorem Un{dr:Bool}{K:ae→Prop}{v:Value}{avs:List I}{vs:List Value}{dst:Option Nat}{rest:List aG}{a:Act}{w:World}{Kw:Act→World→Prop}{Q:Exit→Act→World→Prop}{g:cd}(hg:dJ c.P o=some g)
  (hs:∀ D E,aW c A a w D E→gn (aY w D E) avs vs) (hsim:cv c A a w) (hwp:br c.P c.Y dr K (.pE v avs dst rest A)) (hd:o.dst=dst) (hdn:∀ k,dst=some k→k<c.n)
  (hrun:∀ l,v=.func (.yield l) #[] #[]→(execOp a.eval o).run c.P w=(Instr.yield l vs.toArray).run c.P w)
  (hK:∀ B a' w',br c.P c.Y dr K (aC rest B)→cv c B a' w'→Kw a' w'):o.wpIn c.bp 9 c.P a w Kw Q:=by
 obtain ⟨D,E,hsw⟩:=hsim;cases hwp with
 |zV os cargs post hdr hY hgv ha hb hrest =>
  have hyr:=(hsw.fh _ _ _ _ hY).use (ρ:=[]) hsw false (fun h=>h.mono) ⟨(fun h=>by cases h),fun _=>hsw.o5.1.since (fun n=>by simp only[aA,bJ];split <;>simp)⟩ hgv ha hb (hs D E hsw);obtain ⟨l,rfl,fn,tmps,assign,body,h2,h3⟩:=hyr;refine ⟨mD,?_⟩;rw[nc hg,hrun l rfl,h2,Oper.uponIn_round];refine ⟨D5 c,aoQ (h3.mono fun e w' he =>?_)⟩;obtain ⟨v,r,os',D2,E2,rfl,hp,hs',hv,_⟩:=he;rw[hd];exact hK _ _ _ (hrest r os' hp) ⟨D2,E2,hs'.aS hdn hv⟩
end
section
variable {c:cT} {A:ae} {o:Oper}
theorem vI{P:Program}{n:Nat}{bI:Array Oper}{g:aG}(h:pC P n bI o=some g):dJ P o=some g.op∧g.dst=o.dst∧(∀ k,o.dst=some k→k<n) ∧
  ((o.guard=none∧g.guard=none)∨∃ j b t,o.guard=some (j,b)∧(bI[j]?).bind (·.dst)=some t∧g.guard=some (t,b)):=by
 unfold pC at h;split at h
 ·cases h
 rename_i g' hg';split at h
 case isFalse=>cases h
 rename_i hd;have hdst:∀ k,o.dst=some k→k<n:=by
  intro k hk;rw[hk] at hd;simpa[Ea] using hd
 split at h
 ·rename_i hgd;simp only[t7] at h;subst h;exact ⟨hg',rfl,hdst,.inl ⟨hgd,rfl⟩⟩
 ·rename_i j b hgd;split at h
  ·rename_i t ht;simp only[t7] at h;subst h;exact ⟨hg',rfl,hdst,.inr ⟨j,b,t,hgd,ht,rfl⟩⟩
  ·cases h
theorem Kl{dr:Bool}{K:ae→Prop}{op:cd}{dst:Option Nat}{rest:List aG}{a:Act}{w:World}{Kw:Act→World→Prop}{Q:Exit→Act→World→Prop}(hop:dJ c.P o=some op)(hd:o.dst=dst)(hdn:∀ k,dst=some k→k<c.n)
  (hsim:cv c A a w) (hK:∀ B a' w',br c.P c.Y dr K (aC rest B)→cv c B a' w'→Kw a' w') (h:br c.P c.Y dr K (cW (bF A op) fun v=>aC rest (A.aS dst v))):o.wpIn c.bp 9 c.P a w Kw Q:=by
 cases hv:bF A op with
 |some v =>
  rw[hv] at h;exact ((aoo hop hv).does (by rw[hd];exact hdn)).wp hop hsim (fun a' w' hs=>by rw[hd] at hs;exact hK _ a' w' h hs)
 |none=>rw[hv] at h;cases h
theorem akw{dr:Bool}{K:ae→Prop}{dst:Option Nat}{rest:List aG}{a:Act}{w:World}{Kw:Act→World→Prop}{Q:Exit→Act→World→Prop}{z:I}(hop:dJ c.P o=some (.alloc z))(hd:o.dst=dst)(hdn:∀ k,dst=some k→k<c.n)
  (hwp:br c.P c.Y dr K (bt A dst (.alloc z) rest (aC rest))) (hsim:cv c A a w) (hK:∀ B a' w',br c.P c.Y dr K (aC rest B)→cv c B a' w'→Kw a' w'):o.wpIn c.bp 9 c.P a w Kw Q:=by
 have hop0:=hop;simp only[bt] at hwp;split at hwp
 case h_2=>cases hwp
 rename_i d;split at hwp
 case h_2=>cases hwp
 rename_i hf;unfold dJ at hop;split at hop <;>try (first | (simp at hop;done) | ((repeat' split at hop) <;>simp at hop;done))
 rename_i t ho;simp only[zz1,cd.alloc.injEq] at hop;obtain ⟨z',hz,rfl⟩:=hop;exact (ZT ho hz hd (hdn d rfl) hf).wp hop0 hsim (fun a' w' hs=>hK _ a' w' hwp hs)
theorem akz{dr:Bool}{K:ae→Prop}{dst:Option Nat}{rest:List aG}{a:Act}{w:World}{Kw:Act→World→Prop}{Q:Exit→Act→World→Prop}{x:aM}(hop:dJ c.P o=some (.box x))(hd:o.dst=dst)(hdn:∀ k,dst=some k→k<c.n)
  (hwp:br c.P c.Y dr K (bt A dst (.box x) rest (aC rest))) (hsim:cv c A a w) (hK:∀ B a' w',br c.P c.Y dr K (aC rest B)→cv c B a' w'→Kw a' w'):o.wpIn c.bp 9 c.P a w Kw Q:=by
 have hop0:=hop;simp only[bt] at hwp;split at hwp
 case h_2=>cases hwp
 rename_i d;split at hwp
 case h_2=>cases hwp
 rename_i hf;split at hwp
 case isFalse=>cases hwp
 rename_i hv;unfold dJ at hop;split at hop <;>try (first | (simp at hop;done) | ((repeat' split at hop) <;>simp at hop;done))
 rename_i t y ho;simp only[zz1,cd.box.injEq] at hop;obtain ⟨z',hz,rfl⟩:=hop;exact (ZY ho hz hv hd (hdn d rfl) hf).wp hop0 hsim (fun a' w' hs=>hK _ a' w' hwp hs)
theorem akK{dr:Bool}{K:ae→Prop}{dst:Option Nat}{rest:List aG}{a:Act}{w:World}{Kw:Act→World→Prop}{Q:Exit→Act→World→Prop}{s:Option Nat}{x v:aM}(hop:dJ c.P o=some (.bA s x v))(hd:o.dst=dst)(hdn:∀ k,dst=some k→k<c.n)
  (hwp:br c.P c.Y dr K (bt A dst (.bA s x v) rest (aC rest))) (hsim:cv c A a w) (hK:∀ B a' w',br c.P c.Y dr K (aC rest B)→cv c B a' w'→Kw a' w'):o.wpIn c.bp 9 c.P a w Kw Q:=by
 have hop0:=hop;simp only[bt] at hwp;split at hwp
 case h_2=>cases hwp
 split at hwp
 case h_2=>cases hwp
 rename_i n p hp;split at hwp
 case h_2=>cases hwp
 rename_i b hb;split at hwp
 case h_2=>cases hwp
 rename_i old hat;split at hwp
 case isFalse=>cases hwp
 rename_i hok;unfold dJ at hop;split at hop <;>try (first | (simp at hop;done) | ((repeat' split at hop) <;>simp at hop;done))
 rename_i t y z ho;split at hop
 case h_2=>cases hop
 rename_i s' x' v' h1 h2 h3;split at hop
 case isFalse=>cases hop
 rename_i hk;simp only[t7,cd.bA.injEq] at hop;obtain ⟨rfl,rfl,rfl⟩:=hop;exact (Z4 ho h1 hk h2 h3 hp hb hat hok.1 hok.2.1 hok.2.2 hd).wp hop0 hsim (fun a' w' hs=>hK _ a' w' hwp hs)
theorem akA{dr:Bool}{K:ae→Prop}{dst:Option Nat}{rest:List aG}{a:Act}{w:World}{Kw:Act→World→Prop}{Q:Exit→Act→World→Prop}{f:FuncId}{args:List aM}(hop:dJ c.P o=some (.call f args))(hd:o.dst=dst)(hdn:∀ k,dst=some k→k<c.n)
  (hwp:br c.P c.Y dr K (bt A dst (.call f args) rest (aC rest))) (hsim:cv c A a w) (hK:∀ B a' w',br c.P c.Y dr K (aC rest B)→cv c B a' w'→Kw a' w'):o.wpIn c.bp 9 c.P a w Kw Q:=by
 have hop0:=hop;simp only[bt] at hwp;unfold dJ at hop;split at hop <;>try (first | (simp at hop;done) | ((repeat' split at hop) <;>simp at hop;done))
 rename_i f' xs ts ho;split at hop
 case isFalse=>simp at hop
 simp only[zz1,cd.call.injEq] at hop;obtain ⟨ys,hys,rfl,rfl⟩:=hop;refine Dl (vs:=xs.toList.map a.eval) hop0 rfl rfl (fun D E hs=>py hs xs.toList ts.toList ys hys) hsim hwp hd hdn (fun hc =>?_) hK;have e:xs.map a.eval=(xs.toList.map a.eval).toArray:=by apply Array.ext';simp
 simp only[execOp,ho,resolve,Act.eval,Deferred.ofValue,Sem.run_bind,Sem.run_pure,Result.andThen_ok,invoke,Array.append_empty,Array.empty_append,zo hc];rw[←e]
theorem akL{dr:Bool}{K:ae→Prop}{dst:Option Nat}{rest:List aG}{a:Act}{w:World}{Kw:Act→World→Prop}{Q:Exit→Act→World→Prop}{f:FuncId}{args:List aM}(hop:dJ c.P o=some (.kN f args))(hd:o.dst=dst)(hdn:∀ k,dst=some k→k<c.n)
  (hwp:br c.P c.Y dr K (bt A dst (.kN f args) rest (aC rest))) (hsim:cv c A a w) (hK:∀ B a' w',br c.P c.Y dr K (aC rest B)→cv c B a' w'→Kw a' w'):o.wpIn c.bp 9 c.P a w Kw Q:=by
 have hop0:=hop;simp only[bt] at hwp;unfold dJ at hop;split at hop <;>try (first | (simp at hop;done) | ((repeat' split at hop) <;>simp at hop;done))
 rename_i f' xs ts ho;split at hop
 case isTrue=>simp at hop
 simp only[zz1,cd.kN.injEq] at hop;obtain ⟨ys,hys,rfl,rfl⟩:=hop;obtain ⟨D,E,hs⟩:=hsim;cases hwp with
 |ext r hdr hx hw =>
  obtain ⟨v,g1,g2⟩:=hx c a w D E (xs.toList.map a.eval) rfl hs (py hs xs.toList ts.toList ys hys);have e:xs.map a.eval=(xs.toList.map a.eval).toArray:=by apply Array.ext';simp
  have hrun:(execOp a.eval o).run c.P w=.ok (.value v) w:=by
   simp only[execOp,ho,resolve,Act.eval,Deferred.ofValue,Sem.run_bind,Sem.run_pure,Result.andThen_ok,invoke,Array.append_empty,Array.empty_append];rw[←e] at g1;exact g1
  refine ⟨mD,?_⟩;rw[nc hop0,hrun,Oper.uponIn_value];exact hK _ _ _ hw ⟨D,E,by rw[hd];exact hs.aS hdn g2⟩
theorem akE{dr:Bool}{K:ae→Prop}{dst:Option Nat}{rest:List aG}{a:Act}{w:World}{Kw:Act→World→Prop}{Q:Exit→Act→World→Prop} (hop:dJ c.P o=some (.kb))(hd:o.dst=dst)(hdn:∀ k,dst=some k→k<c.n)
  (hwp:br c.P c.Y dr K (bt A dst (.kb) rest (aC rest))) (hsim:cv c A a w) (hK:∀ B a' w',br c.P c.Y dr K (aC rest B)→cv c B a' w'→Kw a' w'):o.wpIn c.bp 9 c.P a w Kw Q:=by
 have hop0:=hop;simp only[bt] at hwp;split at hwp
 case h_2=>cases hwp
 rename_i d;split at hwp
 case h_2=>cases hwp
 rename_i hf;unfold dJ at hop;split at hop <;>try (first | (simp at hop;done) | ((repeat' split at hop) <;>simp at hop;done))
 rename_i t ho;exact (Z1 ho hd (hdn d rfl) hf).wp hop0 hsim (fun a' w' hs=>hK _ a' w' hwp hs)
theorem akF{dr:Bool}{K:ae→Prop}{dst:Option Nat}{rest:List aG}{a:Act}{w:World}{Kw:Act→World→Prop}{Q:Exit→Act→World→Prop}{e:TypeId}{bytes:Nat}{z:I}{n:aM}(hop:dJ c.P o=some (.kc e bytes z n))(hd:o.dst=dst)(hdn:∀ k,dst=some k→k<c.n)
  (hwp:br c.P c.Y dr K (bt A dst (.kc e bytes z n) rest (aC rest))) (hsim:cv c A a w) (hK:∀ B a' w',br c.P c.Y dr K (aC rest B)→cv c B a' w'→Kw a' w'):o.wpIn c.bp 9 c.P a w Kw Q:=by
 have hop0:=hop;simp only[bt] at hwp;split at hwp
 case h_2=>cases hwp
 rename_i d;split at hwp
 case h_2=>cases hwp
 rename_i hf;split at hwp
 case h_2=>cases hwp
 rename_i k m hn;split at hwp
 case isFalse=>cases hwp
 rename_i hc;unfold dJ at hop;split at hop <;>try (first | (simp at hop;done) | ((repeat' split at hop) <;>simp at hop;done))
 rename_i t l l' ho;split at hop
 case h_2=>cases hop
 rename_i e' n' hu hl;split at hop
 case h_2=>cases hop
 rename_i z' hz;split at hop
 case isFalse=>cases hop
 rename_i hc2;simp only[t7,cd.kc.injEq] at hop;obtain ⟨rfl,rfl,rfl,rfl⟩:=hop;obtain ⟨j,rfl⟩:=Int.eq_ofNat_of_zero_le hc.1;simp only[Int.toNat_natCast] at hc hwp;exact (Z2 ho (aoX hc2.1) hu hl hn hz hc2.2.1 hc2.2.2 hc.2.1 hc.2.2 hd (hdn d rfl) hf).wp hop0 hsim (fun a' w' hs=>hK _ a' w' hwp hs)
theorem akG{dr:Bool}{K:ae→Prop}{dst:Option Nat}{rest:List aG}{a:Act}{w:World}{Kw:Act→World→Prop}{Q:Exit→Act→World→Prop}{ty:cU}{m k v:aM}(hop:dJ c.P o=some (.hU ty m k v))(hd:o.dst=dst)(hdn:∀ k,dst=some k→k<c.n)
  (hwp:br c.P c.Y dr K (bt A dst (.hU ty m k v) rest (aC rest))) (hsim:cv c A a w) (hK:∀ B a' w',br c.P c.Y dr K (aC rest B)→cv c B a' w'→Kw a' w'):o.wpIn c.bp 9 c.P a w Kw Q:=by
 have hop0:=hop;simp only[bt] at hwp;split at hwp
 case h_2=>cases hwp
 split at hwp
 case h_2=>cases hwp
 rename_i n hm;split at hwp
 case h_2=>cases hwp
 rename_i ks vs hn;split at hwp
 case h_2=>cases hwp
 rename_i ks' vs' hl;unfold dJ at hop;split at hop <;>try (first | (simp at hop;done) | ((repeat' split at hop) <;>simp at hop;done))
 all_goals
  rename_i t mo ko vo ho;split at hop
  case h_2=>cases hop
  rename_i kt et m' k' hu h1 h2;split at hop
  case h_2=>cases hop
  rename_i ty' v' hk h3;simp only[t7,cd.hU.injEq] at hop;obtain ⟨rfl,rfl,rfl,rfl⟩:=hop
 ·exact (D9 (.inl ho) hu hk h1 h2 h3 hm hn hl hd).wp hop0 hsim (fun a' w' hs=>hK _ a' w' hwp hs)
 ·exact (D9 (.inr ho) hu hk h1 h2 h3 hm hn hl hd).wp hop0 hsim (fun a' w' hs=>hK _ a' w' hwp hs)
theorem akJ{dr:Bool}{K:ae→Prop}{dst:Option Nat}{rest:List aG}{a:Act}{w:World}{Kw:Act→World→Prop}{Q:Exit→Act→World→Prop}{x:aM}(hop:dJ c.P o=some (.kJ x))(hd:o.dst=dst)(hdn:∀ k,dst=some k→k<c.n)
  (hwp:br c.P c.Y dr K (bt A dst (.kJ x) rest (aC rest))) (hsim:cv c A a w) (hK:∀ B a' w',br c.P c.Y dr K (aC rest B)→cv c B a' w'→Kw a' w'):o.wpIn c.bp 9 c.P a w Kw Q:=by
 have hop0:=hop;simp only[bt] at hwp;split at hwp
 case h_2=>cases hwp
 rename_i d;split at hwp
 case h_2=>cases hwp
 rename_i hf;split at hwp
 case h_2=>cases hwp
 rename_i ks vs hx;unfold dJ at hop;split at hop <;>try (first | (simp at hop;done) | ((repeat' split at hop) <;>simp at hop;done))
 rename_i t y ho;split at hop
 case h_2=>cases hop
 rename_i kt et hu;simp only[zz1,cd.kJ.injEq] at hop;obtain ⟨z,hz,rfl⟩:=hop;exact (Z3 ho hu hz hx hd (hdn d rfl) hf).wp hop0 hsim (fun a' w' hs=>hK _ a' w' hwp hs)
theorem akI{dr:Bool}{K:ae→Prop}{dst:Option Nat}{rest:List aG}{a:Act}{w:World}{Kw:Act→World→Prop}{Q:Exit→Act→World→Prop}{x:aM}(hop:dJ c.P o=some (.jO x))(hd:o.dst=dst)(hdn:∀ k,dst=some k→k<c.n)
  (hwp:br c.P c.Y dr K (bt A dst (.jO x) rest (aC rest))) (hsim:cv c A a w) (hK:∀ B a' w',br c.P c.Y dr K (aC rest B)→cv c B a' w'→Kw a' w'):o.wpIn c.bp 9 c.P a w Kw Q:=by
 have hop0:=hop;simp only[bt] at hwp;split at hwp
 case h_2=>cases hwp
 rename_i n hx;split at hwp
 case h_2=>cases hwp
 rename_i ks vs left cur hn;unfold dJ at hop;split at hop <;>try (first | (simp at hop;done) | ((repeat' split at hop) <;>simp at hop;done))
 rename_i y ho;simp only[zz1,cd.jO.injEq] at hop;obtain ⟨z,hz,rfl⟩:=hop;obtain ⟨D,E,hs⟩:=hsim;obtain ⟨w',v,hrun,hor⟩:=amA ho hz hx hn (by rw[hd];exact hdn) hs;refine ⟨mD,?_⟩;rw[nc hop0,hrun,Oper.uponIn_value];rw[hd] at hor;split at hwp
 ·rename_i hl;rcases hor with ⟨_,hor⟩ | ⟨i,k,x,hi,_⟩
  ·exact hK _ _ _ hwp (by rw[hd];exact hor)
  ·rw[hl] at hi;cases hi
 ·rename_i hl;rcases hor with ⟨h,_⟩ | ⟨i,k,x,hi,hk,hx,hor⟩
  ·exact absurd h hl
  ·cases hwp with
   |any hdr hall =>
    have:=hall i hi;simp only[hk,hx] at this;exact hK _ _ _ this (by rw[hd];exact hor)
theorem akB{dr:Bool}{K:ae→Prop}{dst:Option Nat}{rest:List aG}{a:Act}{w:World}{Kw:Act→World→Prop}{Q:Exit→Act→World→Prop}{x:aM}{args:List aM}(hop:dJ c.P o=some (.eH x args))(hd:o.dst=dst)(hdn:∀ k,dst=some k→k<c.n)
  (hwp:br c.P c.Y dr K (bt A dst (.eH x args) rest (aC rest))) (hsim:cv c A a w) (hK:∀ B a' w',br c.P c.Y dr K (aC rest B)→cv c B a' w'→Kw a' w'):o.wpIn c.bp 9 c.P a w Kw Q:=by
 have hop0:=hop;simp only[bt] at hwp;unfold dJ at hop;split at hop <;>try (first | (simp at hop;done) | ((repeat' split at hop) <;>simp at hop;done))
 rename_i y xs ts _ ho;split at hop
 case h_2=>cases hop
 rename_i y' ys h1 h2;simp only[t7,cd.eH.injEq] at hop;obtain ⟨rfl,rfl⟩:=hop;obtain ⟨D,E,hs⟩:=hsim;have hv:=cg hs h1;split at hwp
 ·rename_i f caps hx;rw[hx] at hv;obtain ⟨cs,q1,q2⟩:=hv;simp only[af] at q2;obtain ⟨vs,q3,q4⟩:=q2;have hval:a.eval y=.func (.func f) #[] vs.toArray:=by simpa[bR,I.isAgg,q3] using q1.symm
  refine Dl (vs:=xs.toList.map a.eval++vs) hop0 rfl rfl (fun D' E' hs'=>(py hs' xs.toList ts.toList ys h2).append ?_) ⟨D,E,hs⟩ hwp hd hdn (fun hc =>?_) hK
  ·have hv':=cg hs' h1;rw[hx] at hv';obtain ⟨cs',q1',q2'⟩:=hv';simp only[af] at q2';obtain ⟨vs',q3',q4'⟩:=q2';have hval':a.eval y=.func (.func f) #[] vs'.toArray:=by simpa[bR,I.isAgg,q3'] using q1'.symm
   rw[hval] at hval';simp only[Value.func.injEq,true_and,Array.mk.injEq] at hval';subst hval';exact zt q4'
  ·have e:xs.map a.eval=(xs.toList.map a.eval).toArray:=by apply Array.ext';simp
   simp only[execOp,ho,resolve,hval,Deferred.ofValue,Sem.run_bind,Sem.run_pure,Result.andThen_ok,invoke,Array.empty_append,zo hc];rw[e];simp
 ·rename_i u hx;rw[hx] at hv;obtain ⟨cs,q1,q2⟩:=hv;simp only[af] at q2;have hval:a.eval y=u:=by simpa[bR,I.isAgg,q2.1] using q1.symm
  refine Un (vs:=xs.toList.map a.eval) hop0 (fun D' E' hs'=>py hs' xs.toList ts.toList ys h2) ⟨D,E,hs⟩ hwp hd hdn (fun l hl =>?_) hK;subst hl;have e:xs.map a.eval=(xs.toList.map a.eval).toArray:=by apply Array.ext';simp
  simp only[execOp,ho,resolve,hval,Deferred.ofValue,Sem.run_bind,Sem.run_pure,Result.andThen_ok,invoke,Array.empty_append];rw[e]
 ·cases hwp
theorem akH{dr:Bool}{K:ae→Prop}{dst:Option Nat}{rest:List aG}{a:Act}{w:World}{Kw:Act→World→Prop}{Q:Exit→Act→World→Prop}{neg:Bool}{x:aM}(hop:dJ c.P o=some (.nilS neg x))(hd:o.dst=dst)(hdn:∀ k,dst=some k→k<c.n)
  (hwp:br c.P c.Y dr K (bt A dst (.nilS neg x) rest (aC rest))) (hsim:cv c A a w) (hK:∀ B a' w',br c.P c.Y dr K (aC rest B)→cv c B a' w'→Kw a' w'):o.wpIn c.bp 9 c.P a w Kw Q:=by
 have hop0:=hop;simp only[bt] at hwp;split at hwp
 case isFalse=>exact Kl hop hd hdn hsim hK hwp
 rename_i hu;cases hwp with
 |any hdr hall =>
 unfold dJ at hop;split at hop <;>try (first | (simp at hop;done) | ((repeat' split at hop) <;>simp at hop;done))
 rename_i bop t y z yt ho;split at hop
 ·simp at hop
 ·simp at hop
 ·rename_i e y' z' hut h1 h2;split at hop
  ·rename_i s;split at hop
   ·rename_i hopp;simp only[t7,cd.nilS.injEq] at hop;obtain ⟨rfl,rfl⟩:=hop;have ho':o.op=.binOp (if (bop==.neq)=true then .neq else .eql) t y z yt:=by
     rcases hopp with rfl | rfl <;>simpa using ho
    obtain ⟨D,E,hs⟩:=hsim;have hund:∃ sz,ab A y'=.slice sz []∨ab A y'=.c0 sz:=by
     generalize ab A y'=q at hu;cases q <;>simp only[kl,zz8,List.isEmpty_iff] at hu
     ·rename_i sz;exact ⟨sz,.inr rfl⟩
     ·rename_i sz es;subst hu;exact ⟨sz,.inl rfl⟩
    obtain ⟨b,hrun⟩:=amC ho' hut h1 h2 hund hs;refine ⟨mD,?_⟩;rw[nc hop0,hrun,Oper.uponIn_value];have hb:=hall (if b then 0 else 1) (by cases b <;>simp);refine hK _ _ _ hb ⟨D,E,?_⟩;rw[hd];have e:((if b=true then (0:Nat) else 1)==0)=b:=by cases b <;>rfl
    rw[e];exact hs.aS hdn (oO b)
   ·cases hop
  ·cases hop
 ·split at hop <;>simp at hop
 ·split at hop <;>simp at hop
 ·cases hop
theorem akx{dr:Bool}{K:ae→Prop}{dst:Option Nat}{rest:List aG}{a:Act}{w:World}{Kw:Act→World→Prop}{Q:Exit→Act→World→Prop}{e:TypeId}{esz bytes:Nat}{z:I}{s x:aM}(hop:dJ c.P o=some (.cV e esz bytes z s x))(hd:o.dst=dst)(hdn:∀ k,dst=some k→k<c.n)
  (hwp:br c.P c.Y dr K (bt A dst (.cV e esz bytes z s x) rest (aC rest))) (hsim:cv c A a w) (hK:∀ B a' w',br c.P c.Y dr K (aC rest B)→cv c B a' w'→Kw a' w'):o.wpIn c.bp 9 c.P a w Kw Q:=by
 have hop0:=hop;simp only[bt] at hwp;unfold dJ at hop;split at hop <;>try (first | (simp at hop;done) | ((repeat' split at hop) <;>simp at hop;done))
 rename_i args tys ho;split at hop
 case h_2=>cases hop
 rename_i y q t t' ha ht;split at hop
 case h_2=>cases hop
 rename_i e' s' x' k1 k2 k3;split at hop
 case isFalse=>split at hop <;>simp at hop
 rename_i hk;simp only[zz1,cd.cV.injEq] at hop;obtain ⟨zz,hz1,rfl,rfl,rfl,rfl,rfl,rfl⟩:=hop;obtain ⟨rfl,hk2,hk3⟩:=hk;have ha':args = #[y,q]:=by apply Array.ext';simpa using ha
 have ht':tys = #[t,t]:=by apply Array.ext';simpa using ht
 subst ha' ht';rw[hz1] at hk3;simp only[zy7,t7] at hk3;have hinfo:(c.P.info? e').isSome=true:=by
  obtain ⟨ti,_,hti,_⟩:=mz hz1;rw[hti];rfl
 have grow:∀ es ys,eE A (c.P.cellsOf e') (ab A s')=some es→eE A (c.P.cellsOf e') (ab A x')=some ys→ys≠[]→(∀ a w D E,aW c A a w D E→∀ ad l cp,a.eval y=.slice ad l cp→cp<l+ys.length) →
   br c.P c.Y dr K (gL A dst (c.P.cellsOf e') (c.P.bytesOf e') zz es ys (aC rest))→o.wpIn c.bp 9 c.P a w Kw Q:=fun es ys hse hsx hne hfull h=>by
  simp only[gL] at h;split at h
  case h_2=>cases h
  rename_i d;split at h
  case h_2=>cases h
  rename_i hf;split at h
  case isFalse=>cases h
  rename_i hb;cases h with
  |any hdr hall =>
   obtain ⟨D,E,hs⟩:=hsim;obtain ⟨v,w',m,g1,g2,g3⟩:=RC ho k1 k2 k3 hz1 hk3 hse hsx hb.1 hd (hdn d rfl) hf hne hs (hfull a w D E hs) hb.2;refine ⟨mD,?_⟩;rw[nc hop0,g1,Oper.uponIn_value,hd];rw[hd] at g3;exact hK _ _ _ (hall m g2) g3
 split at hwp
 ·rename_i n l hs';split at hwp
  case h_2=>cases hwp
  rename_i sz ys hx';split at hwp
  case h_3=>cases hwp
  case h_2 =>
   rename_i T xs hn;split at hwp
   case isFalse=>cases hwp
   rename_i hok;obtain ⟨h1,h2,h3,h4,h5,h6,h7,h8⟩:=hok;subst h3 h4;have hl5:ys.length=(rl ys).length:=(congrArg List.length h5).trans (by simp);rw[hl5] at h7 h8 hwp;rw[h5] at hx';have hd':=ZV (o:=o) ho k1 k2 k3 hz1 h2 hs' hn h1 hx' (fun e=>h6 (by rw[h5,e];rfl)) h7 h8 (by rw[hd];exact hdn);exact hd'.wp hop0 hsim (fun a' w' hs=>by rw[hd] at hs;exact hK _ a' w' hwp hs)
  rename_i T sz' es hn;split at hwp
  case isFalse=>cases hwp
  rename_i hok;obtain ⟨h1,h2,h3,h4,h5,h6,h7⟩:=hok;subst h2 h3 h4;have hd':=ZU (o:=o) ho k1 k2 k3 hz1 hk3 hk2 hs' hn h1 hx' rfl h5 h6 h7 (by rw[hd];exact hdn);exact hd'.wp hop0 hsim (fun a' w' hs=>by rw[hd] at hs;exact hK _ a' w' hwp hs)
 ·simp only[fj] at hwp;split at hwp
  case h_2=>cases hwp
  rename_i es ys hse hsx;split at hwp
  ·rename_i hne;subst hne;exact ((ZX ho k1 hinfo k2 k3 hse hsx).does (by rw[hd];exact hdn)).wp hop0 hsim (fun a' w' hs=>by rw[hd] at hs;exact hK _ a' w' hwp hs)
  ·rename_i hne;have hpos:0<ys.length:=List.length_pos_iff.2 hne;split at hwp
   ·rename_i z0 hsv;refine grow es ys hse hsx hne (fun a w D E hs ad l cp hv =>?_) hwp;have h0:=cg hs k2;rw[hsv] at h0;obtain ⟨cs,q1,q2⟩:=h0;simp only[af] at q2;have:a.eval y=.slice none 0 0:=by simpa[bR,I.isAgg,q2] using q1.symm
    rw[this] at hv;simp only[Value.slice.injEq] at hv;omega
   ·rename_i z0 hsv;refine grow es ys hse hsx hne (fun a w D E hs ad l cp hv =>?_) hwp;have h0:=cg hs k2;rw[hsv] at h0;obtain ⟨cs,q1,q2⟩:=h0;simp only[af] at q2;obtain ⟨ad',q2⟩:=q2;have:a.eval y=.slice ad' 0 0:=by simpa[bR,I.isAgg,q2] using q1.symm
    rw[this] at hv;simp only[Value.slice.injEq] at hv;omega
   ·rename_i n p sz lo l hsv;split at hwp
    case h_2=>cases hwp
    rename_i b hn;split at hwp
    case h_2=>cases hwp
    rename_i fs hat;split at hwp
    ·rename_i hroom;split at hwp
     case isFalse=>cases hwp
     rename_i hok;obtain ⟨rfl,hsh⟩:=hok;exact (ZW ho k1 hinfo k2 k3 hsv hn hat hsx hroom hsh (by rw[hd];exact hdn)).wp hop0 hsim (fun a' w' hs=>by rw[hd] at hs;exact hK _ a' w' hwp hs)
    ·rename_i hroom;refine grow es ys hse hsx hne (fun a w D E hs ad l' cp hv =>?_) hwp;have h0:=cg hs k2;rw[hsv] at h0;obtain ⟨_,bb,cs,T,off,c1,c2,c3,_,_,_,_,_,_,_,_,_,_,r1,ed,uv⟩:=hs.view (fs:=fs) h0 (by simp only[cC,hn,hat]);rw[uv] at hv;simp only[Value.slice.injEq] at hv;omega
   ·cases hwp
theorem aky{dr:Bool}{K:ae→Prop}{dst:Option Nat}{rest:List aG}{a:Act}{w:World}{Kw:Act→World→Prop}{Q:Exit→Act→World→Prop}{e:TypeId}{esz bytes:Nat}{z:I}{s n:aM}(hop:dJ c.P o=some (.lH e esz bytes z s n))(hd:o.dst=dst)(hdn:∀ k,dst=some k→k<c.n)
  (hwp:br c.P c.Y dr K (bt A dst (.lH e esz bytes z s n) rest (aC rest))) (hsim:cv c A a w) (hK:∀ B a' w',br c.P c.Y dr K (aC rest B)→cv c B a' w'→Kw a' w'):o.wpIn c.bp 9 c.P a w Kw Q:=by
 have hop0:=hop;simp only[bt] at hwp;unfold dJ at hop;split at hop <;>try (first | (simp at hop;done) | ((repeat' split at hop) <;>simp at hop;done))
 rename_i args tys ho;split at hop
 case h_2=>cases hop
 rename_i y q t t' ha ht;split at hop
 case h_2=>cases hop
 rename_i e' s' x' k1 k2 k3;split at hop
 case isTrue=>simp at hop
 split at hop
 case isFalse=>cases hop
 rename_i hk;simp only[zz1,cd.lH.injEq] at hop;obtain ⟨zz,hz1,rfl,rfl,rfl,rfl,rfl,rfl⟩:=hop;obtain ⟨hint,hk2,hk3⟩:=hk;have ha':args = #[y,q]:=by apply Array.ext';simpa using ha
 have ht':tys = #[t,t']:=by apply Array.ext';simpa using ht
 subst ha' ht';rw[hz1] at hk3;simp only[zy7,t7] at hk3;obtain ⟨kt,hkt⟩:∃ kt,c.P.underlying t'=some (.int kt):=by
  cases hu:c.P.underlying t' with
  |none=>rw[hu] at hint;cases hint
  |some dsc=>cases dsc <;>rw[hu] at hint <;>first | exact ⟨_,rfl⟩ | cases hint
 split at hwp
 case h_2=>cases hwp
 rename_i kx aT hx';simp only[vu] at hwp;split at hwp
 case h_2=>cases hwp
 rename_i es hse;split at hwp
 case h_2=>cases hwp
 rename_i nn p sz lo l hsv;split at hwp
 case h_2=>cases hwp
 rename_i bb hn;split at hwp
 case h_2=>cases hwp
 rename_i fs hat;split at hwp
 case isFalse=>cases hwp
 rename_i hroom;simp only[gL] at hwp;split at hwp
 case h_2=>cases hwp
 rename_i d;split at hwp
 case h_2=>cases hwp
 rename_i hf;split at hwp
 case isFalse=>cases hwp
 rename_i hb;rw[zv3] at hb;cases hwp with
 |any hdr hall =>
  obtain ⟨D,E,hs⟩:=hsim;obtain ⟨v,w',m,g1,g2,g3⟩:=RH ho k1 k2 k3 hkt hx' rfl hroom.1 hk2 hz1 hk3 hse hb.1 hd (hdn d rfl) hf hs (fun ad l' cp hv=>by
   have h0:=cg hs k2;rw[hsv] at h0;have hsv':=hse;obtain ⟨_,b1,cs,T,off,c1,c2,c3,_,_,_,_,_,_,_,_,_,_,r1,ed,uv⟩:=hs.view (fs:=fs) h0 (by simp only[cC,hn,hat]);rw[uv] at hv;simp only[Value.slice.injEq] at hv;have hel:es.length=l:=by
    rw[hsv] at hse;simp only[eE,cC,hn,hat] at hse;split at hse
    ·simp only[t7] at hse;rw[←hse,zy4,zy9];omega
    ·cases hse
   omega) hb.2
  refine ⟨mD,?_⟩;rw[nc hop0,g1,Oper.uponIn_value,hd];rw[hd] at g3;have:=hall m (by rw[zv3];exact g2);rw[zv3] at this;exact hK _ _ _ this g3
theorem akC{dr:Bool}{K:ae→Prop}{dst:Option Nat}{rest:List aG}{a:Act}{w:World}{Kw:Act→World→Prop}{Q:Exit→Act→World→Prop}{esz:Nat}{z:I}{x:aM}(hop:dJ c.P o=some (.iO esz z x))(hd:o.dst=dst)(hdn:∀ k,dst=some k→k<c.n)
  (hwp:br c.P c.Y dr K (bt A dst (.iO esz z x) rest (aC rest))) (hsim:cv c A a w) (hK:∀ B a' w',br c.P c.Y dr K (aC rest B)→cv c B a' w'→Kw a' w'):o.wpIn c.bp 9 c.P a w Kw Q:=by
 have hop0:=hop;simp only[bt] at hwp;split at hwp
 case h_2=>cases hwp
 unfold dJ at hop;split at hop <;>try (first | (simp at hop;done) | ((repeat' split at hop) <;>simp at hop;done))
 rename_i args tys ho;split at hop
 case h_2=>cases hop
 rename_i y t ha ht;split at hop
 case h_2=>cases hop
 rename_i e' x' k1 k2;simp only[zz1,cd.iO.injEq] at hop;obtain ⟨zz,hz1,rfl,rfl,rfl⟩:=hop;have ha':args = #[y]:=by apply Array.ext';simpa using ha
 have ht':tys = #[t]:=by apply Array.ext';simpa using ht
 subst ha' ht';have nothing:br c.P c.Y dr K (aC rest A)→(∀ a w D E,aW c A a w D E→∃ ad cp,a.eval y=.slice ad 0 cp)→o.wpIn c.bp 9 c.P a w Kw Q:=fun h hv=>by
  obtain ⟨D,E,hs⟩:=hsim;obtain ⟨ad,cp,hv⟩:=hv a w D E hs;refine ⟨mD,?_⟩;have hrun:(execOp a.eval o).run c.P w=.ok (.value (.tuple #[])) w:=by
   cases ad <;>simp[execOp,ho,resolve,invoke,builtin,Builtin.clear_,run_underlying k1,hv]
  rw[nc hop0,hrun,Oper.uponIn_value,hd];exact hK _ _ _ h ⟨D,E,hs⟩
 unfold nz at hwp;split at hwp
 ·rename_i n p sz lo l hv;split at hwp
  case h_2=>cases hwp
  rename_i b hn;split at hwp
  case h_2=>cases hwp
  rename_i fs hat;split at hwp
  case isFalse=>cases hwp
  rename_i hok;obtain ⟨rfl,hsh⟩:=hok;exact (ZZ ho k1 k2 hz1 hv hn hat hsh hd).wp hop0 hsim (fun a' w' hs=>hK _ a' w' hwp hs)
 ·rename_i z0 hv;refine nothing hwp fun a w D E hs =>?_;have h0:=cg hs k2;rw[hv] at h0;obtain ⟨cs,q1,q2⟩:=h0;simp only[af] at q2;exact ⟨none,0,by simpa[bR,I.isAgg,q2] using q1.symm⟩
 ·rename_i z0 hv;refine nothing hwp fun a w D E hs =>?_;have h0:=cg hs k2;rw[hv] at h0;obtain ⟨cs,q1,q2⟩:=h0;simp only[af] at q2;obtain ⟨ad,q2⟩:=q2;exact ⟨ad,0,by simpa[bR,I.isAgg,q2] using q1.symm⟩
 ·cases hwp
theorem akD{dr:Bool}{K:ae→Prop}{dst:Option Nat}{rest:List aG}{a:Act}{w:World}{Kw:Act→World→Prop}{Q:Exit→Act→World→Prop}{esz:Nat}{x y:aM}(hop:dJ c.P o=some (.lN esz x y))(hd:o.dst=dst)(hdn:∀ k,dst=some k→k<c.n)
  (hwp:br c.P c.Y dr K (bt A dst (.lN esz x y) rest (aC rest))) (hsim:cv c A a w) (hK:∀ B a' w',br c.P c.Y dr K (aC rest B)→cv c B a' w'→Kw a' w'):o.wpIn c.bp 9 c.P a w Kw Q:=by
 have hop0:=hop;simp only[bt] at hwp;unfold dJ at hop;split at hop <;>try (first | (simp at hop;done) | ((repeat' split at hop) <;>simp at hop;done))
 rename_i args tys ho;split at hop
 case h_2=>cases hop
 rename_i u v t t' ha ht;split at hop
 case h_2=>cases hop
 rename_i e' x' y' k1 k2 k3;split at hop
 case isFalse=>cases hop
 rename_i hk;simp only[t7,cd.lN.injEq] at hop;obtain ⟨rfl,rfl,rfl⟩:=hop;obtain ⟨rfl,hinfo⟩:=hk;have ha':args = #[u,v]:=by apply Array.ext';simpa using ha
 have ht':tys = #[t,t]:=by apply Array.ext';simpa using ht
 subst ha' ht';unfold sO at hwp;split at hwp
 ·rename_i n p sz lo l ys hv hsx;split at hwp
  case h_2=>cases hwp
  rename_i b hn;split at hwp
  case h_2=>cases hwp
  rename_i fs hat;split at hwp
  case isFalse=>cases hwp
  rename_i hok;obtain ⟨rfl,hsh⟩:=hok;exact (Z0 ho k1 hinfo k2 k3 hv hn hat hsx rfl hsh (by rw[hd];exact hdn)).wp hop0 hsim (fun a' w' hs=>by rw[hd] at hs;exact hK _ a' w' hwp hs)
 ·cases hwp
theorem xM{dr:Bool}{K:ae→Prop}{op:cd}{dst:Option Nat}{rest:List aG}{a:Act}{w:World}{Kw:Act→World→Prop}{Q:Exit→Act→World→Prop}(hop:dJ c.P o=some op)(hd:o.dst=dst)(hdn:∀ k,dst=some k→k<c.n)
  (hwp:br c.P c.Y dr K (bt A dst op rest (aC rest))) (hsim:cv c A a w) (hK:∀ B a' w',br c.P c.Y dr K (aC rest B)→cv c B a' w'→Kw a' w'):o.wpIn c.bp 9 c.P a w Kw Q:=by
 cases op with
 |alloc z=>exact akw hop hd hdn hwp hsim hK
 |box x=>exact akz hop hd hdn hwp hsim hK
 |bA s x v=>exact akK hop hd hdn hwp hsim hK
 |call f args=>exact akA hop hd hdn hwp hsim hK
 |kN f args=>exact akL hop hd hdn hwp hsim hK
 |kb=>exact akE hop hd hdn hwp hsim hK
 |kc e bytes z n=>exact akF hop hd hdn hwp hsim hK
 |hU ty m k v=>exact akG hop hd hdn hwp hsim hK
 |kJ x=>exact akJ hop hd hdn hwp hsim hK
 |jO x=>exact akI hop hd hdn hwp hsim hK
 |eH x args=>exact akB hop hd hdn hwp hsim hK
 |nilS neg x=>exact akH hop hd hdn hwp hsim hK
 |cV e esz bytes z s x=>exact akx hop hd hdn hwp hsim hK
 |lH e esz bytes z s n=>exact aky hop hd hdn hwp hsim hK
 |iO esz z x=>exact akC hop hd hdn hwp hsim hK
 |lN esz x y=>exact akD hop hd hdn hwp hsim hK
 |_=>exact Kl hop hd hdn hsim hK (by simpa only[bt] using hwp)
theorem xT{j t:Nat}{bI:Array Oper}{a:Act}{w:World}{b b':Bool}(hs:cv c A a w)(hg:o.guard=some (j,b))(ht:(bI[j]?).bind (·.dst)=some t)(hv:A.t t=.bool b'):Region.wanted o (yielded bI a.tmps)=(b'==b):=by
 obtain ⟨D,E,hs⟩:=hs;have h:=hs.en t;rw[hv] at h;have h:=mq h;have hy:yielded bI a.tmps j=some b':=by
  unfold yielded;rw[ht];simp only[Option.bind_some];simp only[Array.getD_eq_getD_getElem?] at h;cases hh:a.tmps[t]? with
  |none=>simp[hh,undef] at h
  |some v=>simp only[hh,Option.getD_some] at h;subst h;rfl
 unfold Region.wanted;rw[hg];simp only[hy];cases b <;>cases b' <;>rfl
theorem xU{j t:Nat}{bI:Array Oper}{a:Act}{w:World}{b:Bool}(hs:cv c A a w)(hg:o.guard=some (j,b))(ht:(bI[j]?).bind (·.dst)=some t)(hv:A.t t=.undef):Region.wanted o (yielded bI a.tmps)=false:=by
 obtain ⟨D,E,hs⟩:=hs;have h:=hs.en t;rw[hv] at h;simp only[aY] at h;have hy:yielded bI a.tmps j=none:=by
  unfold yielded;rw[ht];simp only[Option.bind_some];simp only[Array.getD_eq_getD_getElem?] at h;cases hh:a.tmps[t]? with
  |none=>rfl
  |some v=>simp only[hh,Option.getD_some] at h;subst h;rfl
 unfold Region.wanted;rw[hg];simp only[hy];rfl
theorem cv.qj{a:Act}{w:World}(h:cv c A a w){d:Option Nat}(hd:∀ k,d=some k→k<c.n):cv c (A.aS d .undef) (a.put d undef) w:=by
 obtain ⟨D,E,h⟩:=h;exact ⟨D,E,h.aS hd (by simp[aY])⟩
theorem tv{dr:Bool}{K:ae→Prop}{bI:Array Oper}{Q:Exit→Act→World→Prop}(hQ:∀ B a w,K B→cv c B a w→Q .normal a w):∀ (l:List Oper) (gs:List aG) (A:ae) (a:Act) (w:World),kr c.P c.n bI l=some gs→br c.P c.Y dr K (aC gs A) →
  cv c A a w→wpListIn c.bp 9 c.P bI Q l a w
 | [],gs,A,a,w,hc,hwp,hs=>by
  simp only[kr,t7] at hc;subst hc;simp only[aC] at hwp;cases hwp with
  |done hk=>exact hQ A a w hk hs
 |o::l,gs,A,a,w,hc,hwp,hs=>by
  simp only[kr] at hc;split at hc
  case h_2=>cases hc
  rename_i g gs' hg hgs;simp only[t7] at hc;subst hc;obtain ⟨h1,h2,h3,h4⟩:=vI hg;have step:br c.P c.Y dr K (bt A g.dst g.op gs' (aC gs'))→o.wpIn c.bp 9 c.P a w (wpListIn c.bp 9 c.P bI Q l) Q:=fun h =>
   xM h1 h2.symm (by rw[h2];exact h3) h hs (fun B a' w' hw hs'=>tv hQ l gs' B a' w' hgs hw hs')
  simp only[wpListIn];simp only[aC] at hwp;rcases h4 with ⟨h5,h6⟩ | ⟨j,b,t,h5,h6,h7⟩
  ·rw[h6] at hwp;have hw:Region.wanted o (yielded bI a.tmps)=true:=by simp[Region.wanted,h5]
   rw[hw,if_pos rfl];exact step hwp
  ·rw[h7] at hwp;simp only at hwp;split at hwp
   ·rename_i b' hb';rw[xT hs h5 h6 hb'];split at hwp
    ·rename_i hbb;subst hbb;simp only[BEq.rfl,if_true];exact step hwp
    ·rename_i hbb;have:(b'==b)=false:=by simpa using hbb
     rw[this];simp only[zz8,if_false];exact ⟨fun f _=>oG c f,tv hQ l gs' _ _ w hgs hwp (by rw[h2];exact hs.qj h3)⟩
   ·rename_i hb';rw[xU hs h5 h6 hb'];simp only[zz8,if_false];exact ⟨fun f _=>oG c f,tv hQ l gs' _ _ w hgs hwp (by rw[h2];exact hs.qj h3)⟩
   ·cases hwp
end
def aM.sl:aM→List Nat
 | .t n=>[n]
 | .c _=>[]
def tZ:Option aM→List Nat
 |some x=>x.sl
 |none=>[]
def ki(l:List aM):List Nat:=l.flatMap aM.sl
def cd.df:cd→List Nat
 | .mv x=>x.sl
 | .pick c a b=>c.sl++(a.sl++b.sl)
 | .bin _ x y=>x.sl++y.sl
 | .eqv _ _ x y=>x.sl++y.sl
 | .nilS _ x=>x.sl
 | .conv _ x=>x.sl
 | .un _ x=>x.sl
 | .ld _ x=>x.sl
 | .fa _ _ x=>x.sl
 | .fl _ _ _ x=>x.sl
 | .ia _ _ x i=>x.sl++i.sl
 | .is _ x i=>x.sl++i.sl
 | .ix _ _ _ x i=>x.sl++i.sl
 | .len x=>x.sl
 | .lenT x=>x.sl
 | .va _ _ x=>x.sl
 | .sl _ x lo hi mx=>x.sl++(tZ lo++(tZ hi++tZ mx))
 | .bld _ ps=>ki (ps.map (·.2))
 | .bs _ _ ps=>ki ps
 | .ext x _=>x.sl
 | .mk _ caps=>ki caps
 | .alloc _=>[]
 | .box x=>x.sl
 | .bA _ x v=>x.sl++v.sl
 | .cV _ _ _ _ s x=>s.sl++x.sl
 | .lH _ _ _ _ s x=>s.sl++x.sl
 | .cap x=>x.sl
 | .bs0 _=>[]
 | .iO _ _ x=>x.sl
 | .lN _ x y=>x.sl++y.sl
 | .call _ args=>ki args
 | .eH x args=>x.sl++ki args
 | .kN _ args=>ki args
 | .nilC x=>x.sl
 | .ptrE _ x y=>x.sl++y.sl
 | .kc _ _ _ n=>n.sl
 | .kb=>[]
 | .lk _ _ _ m k=>m.sl++k.sl
 | .hU _ m k v=>m.sl++(k.sl++v.sl)
 | .kJ x=>x.sl
 | .jO x=>x.sl
 | .ent x=>x.sl
def aG.df(g:aG):List Nat:=g.op.df++(match g.guard with | some (t,_)=>[t] | none=>[])
def cd.gU:cd→Nat
 | .mv _ | .pick .. | .bin .. | .eqv .. | .nilS .. | .conv .. | .un .. | .fl .. | .ix .. | .lenT _ | .bld .. | .ext .. | .mk .. | .nilC _ | .ptrE .. =>0
 | .ld .. | .fa .. | .ia .. | .is .. | .len _ | .va .. | .bs .. | .sl .. | .cap _ | .bs0 _ | .lk .. | .ent _=>1
 | .call .. | .eH .. =>2
 | .alloc _ | .box _=>3
 | .bA .. =>4
 | .cV .. | .lH .. | .iO .. | .lN .. | .kN .. | .kc .. | .kb | .hU .. | .kJ _ | .jO _=>5
def vT(a b:Nat):Bool:=(decide (a≤2)&&decide (b≤3))||(a==0&&b==4)
def nP(g h:aG):Bool:=vT g.op.gU h.op.gU&&(match g.dst with
  |some d => !h.df.contains d&&h.dst != some d
  |none=>true)&&(match h.dst with
  |some d => !g.df.contains d
  |none=>true)
def ep(A A':ae)(l:List Nat):Prop:=∀ k∈l,A'.t k=A.t k
section
variable {A A':ae}
theorem dp{x:aM}(h:ep A A' x.sl):ab A' x=ab A x:=by
 cases x with
 |t n=>exact h n (by simp[aM.sl])
 |c x=>rfl
theorem ep.l{l m:List Nat}(h:ep A A' (l++m)):ep A A' l:=fun k hk=>h k (List.mem_append_left _ hk)
theorem ep.r{l m:List Nat}(h:ep A A' (l++m)):ep A A' m:=fun k hk=>h k (List.mem_append_right _ hk)
theorem mL:∀ {l:List aM},ep A A' (ki l)→l.map (ab A')=l.map (ab A)
 | [],_=>rfl
 |x::l,h=>by
  simp only[ki,List.flatMap_cons] at h;simp only[zy2,dp h.l,mL (l:=l) h.r]
theorem pL{x:Option aM}(h:ep A A' (tZ x)):x.map (ab A')=x.map (ab A):=by
 cases x with
 |none=>rfl
 |some x=>simp only[zy7,dp (x:=x) h]
theorem En:∀ {l:List (Nat×aM)},ep A A' (ki (l.map (·.2)))→(l.map fun p=>(p.1,ab A' p.2))=l.map fun p=>(p.1,ab A p.2)
 | [],_=>rfl
 |x::l,h=>by
  simp only[ki,zy2,List.flatMap_cons] at h;simp only[zy2,dp h.l,En (l:=l) h.r]
theorem rB{f g:I→Option I}(h:∀ x v,f x=some v→g x=some v):∀ {xs vs:List I},fT f xs=some vs→fT g xs=some vs
 | [],vs,hx=>by simpa only[fT] using hx
 |x::xs,vs,hx=>by
  simp only[fT] at hx ⊢;cases h1:f x with
  |none=>rw[h1] at hx;cases hx
  |some y=>cases h2:fT f xs with
   |none=>rw[h1,h2] at hx;cases hx
   |some ys=>rw[h1,h2] at hx;rw[h x y h1,rB h h2];exact hx
theorem wC(hu:eB A A'):∀ (k:Nat) (x v:I),dD A k x=some v→dD A' k x=some v
 |0,_,_,h=>by simp[dD] at h
 |k+1,x,v,h=>by
  have ih:=wC hu k;simp only[dD] at h ⊢;split at h
  ·rename_i hc;rw[if_pos hc];exact h
  ·rename_i hc;rw[if_neg hc];cases x <;>simp only[] at h ⊢ <;>try (cases h;done)
   case agg fs =>
    simp only[zz1] at h ⊢;obtain ⟨a,h1,h2⟩:=h;exact ⟨a,rB ih h1,h2⟩
   case func f fs =>
    simp only[zz1] at h ⊢;obtain ⟨a,h1,h2⟩:=h;exact ⟨a,rB ih h1,h2⟩
   case ptr n p =>
    cases hd:cC A (.ptr n p) with
    |none=>rw[hd] at h;cases h
    |some y =>
     rw[hd] at h;rw[j0 hu hd];simp only[zz1] at h ⊢;obtain ⟨a,h1,h2⟩:=h;exact ⟨a,ih _ _ h1,h2⟩
   case view n p sz lo l =>
    cases hd:cC A (.ptr n p) with
    |none=>rw[hd] at h;cases h
    |some y=>rw[hd] at h;rw[j0 hu hd];exact h
   case mref n =>
    cases ho:A.o n with
    |none=>rw[ho] at h;cases h
    |some y =>
     rw[ho] at h;rw[hu n y ho];cases y <;>try (cases h;done)
     simp only at h ⊢;split at h
     ·rename_i hk;rw[if_pos hk];simp only[zz1] at h ⊢;obtain ⟨a,h1,h2⟩:=h;exact ⟨a,rB ih h1,h2⟩
     ·cases h
   case own n l =>
    cases ho:A.o n with
    |none=>rw[ho] at h;cases h
    |some y=>rw[ho] at h;rw[hu n y ho];exact h
mutual
theorem ED(hu:eB A A'){aD:Bool} : ∀ {x v:I},bl aD A x=some v→bl aD A' x=some v
 | .ptr n p,v,h=>by
  simp only[bl] at h ⊢;cases aD <;>simp only[zz8,if_false,if_true] at h ⊢
  ·exact h
  ·cases hd:cC A (.ptr n p) with
   |none=>rw[hd] at h;cases h
   |some y =>
    rw[hd] at h;rw[j0 hu hd];simp only at h ⊢;split at h
    ·rename_i hc;rw[if_pos hc];exact h
    ·rename_i hc;rw[if_neg hc];simp only[zz1] at h ⊢;obtain ⟨a,h1,h2⟩:=h;exact ⟨a,wC hu 9 _ _ h1,h2⟩
 | .mref n,v,h=>by
  simp only[bl] at h ⊢;cases aD <;>simp only[zz8,if_false,if_true] at h ⊢
  ·exact h
  ·cases ho:A.o n with
   |none=>rw[ho] at h;cases h
   |some y =>
    rw[ho] at h;rw[hu n y ho];cases y <;>try (cases h;done)
    simp only at h ⊢;split at h
    ·rename_i hk;rw[if_pos hk];simp only[zz1] at h ⊢;obtain ⟨a,h1,h2⟩:=h;exact ⟨a,rB (wC hu 9) h1,h2⟩
    ·cases h
 | .dE _,_,h=>by simp[bl] at h
 | .c6 _ _,_,h=>by simpa only[bl] using h
 | .own n k,v,h=>by
  simp only[bl] at h ⊢;cases ho:A.o n with
  |none=>rw[ho] at h;cases h
  |some y=>rw[ho] at h;rw[hu n y ho];exact h
 | .view n p sz lo k,v,h=>by
  simp only[bl] at h ⊢;cases aD <;>simp only[zz8,if_false,if_true] at h ⊢
  ·exact h
  ·cases hd:cC A (.ptr n p) with
   |none=>rw[hd] at h;cases h
   |some y=>rw[hd] at h;rw[j0 hu hd];exact h
 | .func f caps,v,h=>by
  simp only[bl,zz1] at h ⊢;obtain ⟨a,h1,h2⟩:=h;exact ⟨a,lU hu h1,h2⟩
 | .agg fs,v,h=>by
  simp only[bl,zz1] at h ⊢;obtain ⟨a,h1,h2⟩:=h;exact ⟨a,lU hu h1,h2⟩
 | .nils _,_,h | .c0 _,_,h | .tuple _,_,h | .undef,_,h | .dg,_,h | .bool _,_,h | .int _ _,_,h | .c8 _,_,h | .nilp,_,h | .dv,_,h | .ea,_,h | .raw _,_,h | .slice _ _,_,h | .ref _,_,h | .iface _ _,_,h=>by simpa only[bl] using h
theorem lU(hu:eB A A'){aD:Bool} : ∀ {xs vs:List I},b7 aD A xs=some vs→b7 aD A' xs=some vs
 | [],vs,h=>by simpa only[b7] using h
 |x::xs,vs,h=>by
  simp only[b7] at h ⊢;cases h1:bl aD A x with
  |none=>rw[h1] at h;cases h
  |some y=>cases h2:b7 aD A xs with
   |none=>rw[h1,h2] at h;cases h
   |some ys=>rw[h1,h2] at h;rw[ED hu h1,lU hu h2];exact h
end
theorem yY{op:cd}(hc:op.gU=0)(h:ep A A' op.df):bF A' op=bF A op:=by
 cases op <;>simp only[cd.gU] at hc <;>try (cases hc;done)
 all_goals simp only[cd.df] at h
 case mv x=>simp only[bF,dp h]
 case pick c a b=>simp only[bF,dp h.l,dp h.r.l,dp h.r.r]
 case bin _ x y=>simp only[bF,dp h.l,dp h.r]
 case eqv _ _ x y=>simp only[bF,dp h.l,dp h.r]
 case nilS x=>simp only[bF,dp h]
 case conv x=>simp only[bF,dp h]
 case un x=>simp only[bF,dp h]
 case fl x=>simp only[bF,dp h]
 case ix x i=>simp only[bF,dp h.l,dp h.r]
 case lenT x=>simp only[bF,dp h]
 case bld zs ps=>simp only[bF,En h]
 case ext x i=>simp only[bF,dp h]
 case mk f caps=>simp only[bF,mL h]
 case nilC x=>simp only[bF,dp h]
 case ptrE neg x y=>simp only[bF,dp h.l,dp h.r]
theorem ami(hu:eB A A'){m:I}{q:List I×List I}(h:gN A m=some q):gN A' m=some q:=by
 cases m with
 |mref n =>
  simp only[gN] at h ⊢;cases hd:A.o n with
  |none=>simp only[hd] at h;cases h
  |some y=>simp only[hd] at h;simp only[hu n y hd];exact h
 |raw v=>cases v <;>first | (cases h;done) | (rename_i m;cases m <;>first | exact h | cases h)
 |c6 ks vs=>exact h
 |_=>simp only[gN] at h;cases h
theorem L0{op:cd}(hu:eB A A')(h:ep A A' op.df){v:I}(hv:bF A op=some v):bF A' op=some v:=by
 by_cases hc:op.gU=0
 ·rw[yY hc h];exact hv
 cases op <;>try (exact absurd rfl hc)
 all_goals simp only[cd.df] at h
 case ld s x =>
  simp only[bF,dp h] at hv ⊢;cases hd:cC A (ab A x) with
  |none=>rw[hd] at hv;cases hv
  |some y=>rw[hd] at hv;rw[j0 hu hd];exact hv
 case fa f off x =>
  simp only[bF,dp h] at hv ⊢;generalize ab A x=z at *;cases z <;>try (first | exact hv | (rename_i y;cases y <;>exact hv))
  rename_i n p;cases hd:cC A (.ptr n p) with
  |none=>simp only[hd] at hv;cases hv
  |some y=>simp only[hd] at hv;simp only[j0 hu hd];exact hv
 case ia n esz x i =>
  simp only[bF,dp h.l,dp h.r] at hv ⊢;generalize ab A x=z at *;cases z <;>try (first | exact hv | (rename_i y;cases y <;>exact hv))
  rename_i n p;cases hd:cC A (.ptr n p) with
  |none=>simp only[hd] at hv;(repeat' split at hv) <;>cases hv
  |some y=>simp only[hd] at hv;simp only[j0 hu hd];exact hv
 case is esz x i =>
  simp only[bF,dp h.l,dp h.r] at hv ⊢;generalize ab A i=q at *;cases q <;>try (exact hv)
  simp only at hv ⊢;generalize ab A x=z at *;cases z <;>try (first | exact hv | (rename_i y;cases y <;>exact hv))
  ·rename_i n p;cases hd:A.o n with
   |none=>simp only[hd] at hv;cases hv
   |some y=>simp only[hd] at hv;simp only[hu n y hd];exact hv
  ·rename_i n p sz lo k;simp only at hv ⊢;cases hd:cC A (.ptr n p) with
   |none=>simp only[hd] at hv;cases hv
   |some y=>simp only[hd] at hv;simp only[j0 hu hd];exact hv
 case len x =>
  simp only[bF,dp h] at hv ⊢;generalize ab A x=z at *;cases z <;>try (first | exact hv | (rename_i y;cases y <;>exact hv))
  rename_i n p;cases hd:A.o n with
  |none=>simp only[hd] at hv;cases hv
  |some y=>simp only[hd] at hv;simp only[hu n y hd];exact hv
 case cap x =>
  simp only[bF,dp h] at hv ⊢;generalize ab A x=z at *;cases z <;>try (first | exact hv | (rename_i y;cases y <;>exact hv))
  rename_i n p sz lo k;simp only at hv ⊢;cases hd:cC A (.ptr n p) with
  |none=>simp only[hd] at hv;cases hv
  |some y=>simp only[hd] at hv;simp only[j0 hu hd];exact hv
 case bs0 esz=>exact hv
 case sl esz x lo hi mx =>
  simp only[bF,dp h.l,pL h.r.l,pL h.r.r.l,pL h.r.r.r] at hv ⊢;generalize ab A x=z at *;cases z <;>try (first | exact hv | (rename_i y;cases y <;>exact hv))
  rename_i n p sz l0 k;simp only at hv ⊢;cases hd:cC A (.ptr n p) with
  |none=>simp only[hd] at hv;cases hv
  |some y=>simp only[hd] at hv;simp only[j0 hu hd];exact hv
 case va n esz x =>
  simp only[bF,dp h] at hv ⊢;generalize ab A x=z at *;cases z <;>try (first | exact hv | (rename_i y;cases y <;>exact hv))
  rename_i n p;cases hd:cC A (.ptr n p) with
  |none=>simp only[hd] at hv;cases hv
  |some y=>simp only[hd] at hv;simp only[j0 hu hd];exact hv
 case lk ty z ok m k =>
  simp only[bF,dp h.l,dp h.r] at hv ⊢;cases hd:gN A (ab A m) with
  |none=>rw[hd] at hv;cases hv
  |some y=>rw[hd] at hv;rw[ami hu hd];exact hv
 case ent x =>
  simp only[bF,dp h] at hv ⊢;generalize ab A x=z at *;cases z <;>try (exact hv)
  rename_i n;simp only at hv ⊢;cases hd:A.o n with
  |none=>simp only[hd] at hv;cases hv
  |some y=>simp only[hd] at hv;simp only[hu n y hd];exact hv
 case bs esz ps =>
  simp only[bF,mL h] at hv ⊢;cases hd:b7 false A (ps.map (ab A)) with
  |none=>rw[hd] at hv;cases hv
  |some y=>rw[hd] at hv;rw[lU hu hd];exact hv
 all_goals (simp only[bF] at hv;cases hv)
end
def pass(A:ae)(g:aG):Prop:=match g.guard with | none=>True | some (t,b)=>A.t t=.bool b
def gO(A:ae)(g:aG):Prop:=match g.guard with | none=>False | some (t,b)=>A.t t=.bool (!b)∨A.t t=.undef
inductive jV (P:Program) (A:ae):cd→I→Prop where
 |pure {op:cd} {v:I} : bF A op=some v→jV P A op v
 |flat {f:FuncId} {args:List aM} {cargs:List I} {r:I} : b7 true A (args.map (ab A))=some cargs→aw P f cargs r→r.flat=true→jV P A (.call f args) r
 |lead {f:FuncId} {args:List aM} {cargs:List I} {r:I} : b7 false A (args.map (ab A))=some cargs→aw P f cargs r→jV P A (.call f args) r
 |uU {x:aM} {f:FuncId} {caps:List I} {args:List aM} {cargs:List I} {r:I} : ab A x=.func f caps→b7 true A (args.map (ab A)++caps)=some cargs→aw P f cargs r→r.flat=true→jV P A (.eH x args) r
 |uV {x:aM} {f:FuncId} {caps:List I} {args:List aM} {cargs:List I} {r:I} : ab A x=.func f caps→b7 false A (args.map (ab A)++caps)=some cargs→aw P f cargs r→jV P A (.eH x args) r
def sn(A:ae)(op:cd)(x:I):Prop:=op=.alloc x∨∃ y,op=.box y∧(ab A y).cu=true∧x=ab A y
def sq(A:ae)(op:cd)(n:Nat)(z:ah):Prop:=∃ s x v p b old,op=.bA s x v∧ab A x=.ptr n p∧A.o n=some (.box b)∧b.at p=some old∧yM s (ab A v) old∧z=.box (b.dQ p (ab A v))
def Q2(A:ae)(dst:Option Nat)(op:cd)(B:ae):Prop:=op.gU=5∧∀ (rest:List aG) (k:ae→cS),bt A dst op rest k=k B
theorem apG{A:ae}{neg:Bool}{x:aM}{v:I}(h:bF A (.nilS neg x)=some v):kl (ab A x)=false:=by
 simp only[bF] at h;generalize ab A x=q at *;cases q <;>simp only[kl] <;>simp only at h <;>try (cases h;done)
 rename_i sz es;cases es with
 |nil=>simp at h
 |cons=>rfl
inductive fv (P:Program) (g:aG) (A:ae):ae→Prop where
 |skip:gO A g→fv P g A (A.aS g.dst .undef)
 |val {v:I} : pass A g→jV P A g.op v→fv P g A (A.aS g.dst v)
 |jM {d:Nat} {x:I} : pass A g→g.dst=some d→sn A g.op x→A.o d=none→fv P g A ((A.aR d (.box x)).put d (.ptr d []))
 |bA {n:Nat} {z:ah} : pass A g→g.dst=none→sq A g.op n z→fv P g A (A.aR n z)
 |iP {B:ae} : pass A g→Q2 A g.dst g.op B→fv P g A B
theorem vA{b' b:Bool}(h:b'≠b):b' = !b:=by cases b <;>cases b' <;>simp_all
section
variable {P:Program} {Y:Value→List I→List (Nat×ah)→cR→Prop} {K:ae→Prop}
theorem fv.Ln{A:ae}{g:aG}{rest:List aG}(hp:pass A g)(h:br P Y true K (bt A g.dst g.op rest (aC rest))):∃ B,fv P g A B∧br P Y true K (aC rest B):=by
 have pure:br P Y true K (cW (bF A g.op) fun v=>aC rest (A.aS g.dst v))→∃ B,fv P g A B∧br P Y true K (aC rest B):=by
  intro h;cases hv:bF A g.op with
  |none=>rw[hv] at h;cases h
  |some v=>rw[hv] at h;exact ⟨_,.val hp (.pure hv),h⟩
 obtain ⟨dst,op,gd⟩:=g;cases op with
 |alloc z =>
  simp only[bt] at h;split at h
  case h_2=>cases h
  split at h
  case h_2=>cases h
  rename_i hd _ ho;exact ⟨_,.jM hp rfl (.inl rfl) ho,h⟩
 |box x =>
  simp only[bt] at h;split at h
  case h_2=>cases h
  split at h
  case h_2=>cases h
  rename_i hd _ ho;split at h
  case isFalse=>cases h
  rename_i hv;exact ⟨_,.jM hp rfl (.inr ⟨x,rfl,hv,rfl⟩) ho,h⟩
 |bA s x v =>
  simp only[bt] at h;split at h
  case h_2=>cases h
  split at h
  case h_2=>cases h
  rename_i n p hx;split at h
  case h_2=>cases h
  rename_i b hb;split at h
  case h_2=>cases h
  rename_i old hat;split at h
  case isFalse=>cases h
  rename_i hok;exact ⟨_,.bA hp rfl ⟨s,x,v,p,b,old,rfl,hx,hb,hat,hok,rfl⟩,h⟩
 |nilS neg x =>
  simp only[bt] at h;split at h
  ·cases h with | any hdr=>cases hdr
  ·exact pure h
 |cV e esz bytes z s x =>
  simp only[bt] at h;split at h
  ·rename_i n l hs';split at h
   case h_2=>cases h
   rename_i sz ys hx';split at h
   case h_3=>cases h
   case h_2 =>
    rename_i T xs hn;split at h
    case isFalse=>cases h
    rename_i hok;exact ⟨_,.iP hp ⟨rfl,fun rest k=>by simp only[bt,hs',hx',hn,if_pos hok]⟩,h⟩
   rename_i T sz' es hn;split at h
   case isFalse=>cases h
   rename_i hok;exact ⟨_,.iP hp ⟨rfl,fun rest k=>by simp only[bt,hs',hx',hn,if_pos hok]⟩,h⟩
  ·rename_i hno;have hg:∀ (rest:List aG) (k:ae→cS),bt A dst (.cV e esz bytes z s x) rest k=fj A dst esz bytes z (ab A s) (eE A esz (ab A s)) (eE A esz (ab A x)) k:=fun rest k=>by
    simp only[bt]
   simp only[fj] at h hg;split at h
   case h_2=>cases h
   rename_i es ys hse hsx;simp only[hse,hsx] at hg;have grow:¬ br P Y true K (gL A dst esz bytes z es ys (aC rest)):=fun h=>by
    simp only[gL] at h;split at h
    case h_2=>cases h
    split at h
    case h_2=>cases h
    split at h
    case isFalse=>cases h
    cases h with | any hdr=>cases hdr
   split at h
   ·rename_i hne;simp only[if_pos hne] at hg;exact ⟨_,.iP hp ⟨rfl,hg⟩,h⟩
   ·rename_i hne;simp only[if_neg hne] at hg;split at h
    ·exact absurd h grow
    ·exact absurd h grow
    ·rename_i n p sz lo l hsv;split at h
     case h_2=>cases h
     rename_i b hn;split at h
     case h_2=>cases h
     rename_i fs hat;split at h
     ·rename_i hroom;split at h
      case isFalse=>cases h
      rename_i hok;simp only[hsv,hn,hat,if_pos hroom,if_pos hok] at hg;exact ⟨_,.iP hp ⟨rfl,hg⟩,h⟩
     ·exact absurd h grow
    ·cases h
 |kN f args =>
  simp only[bt] at h;cases h with | ext r hdr=>cases hdr
 |lH e esz bytes z s n =>
  exfalso
  simp only[bt] at h;split at h
  case h_2=>cases h
  simp only[vu] at h;split at h
  case h_2=>cases h
  split at h
  case h_2=>cases h
  split at h
  case h_2=>cases h
  split at h
  case h_2=>cases h
  split at h
  case isFalse=>cases h
  simp only[gL] at h;split at h
  case h_2=>cases h
  split at h
  case h_2=>cases h
  split at h
  case isFalse=>cases h
  cases h with | any hdr=>cases hdr
 |kb =>
  simp only[bt] at h;split at h
  case h_2=>cases h
  rename_i d;split at h
  case h_2=>cases h
  rename_i hf;exact ⟨_,.iP hp ⟨rfl,fun rest k=>by simp only[bt,hf]⟩,h⟩
 |kc e bytes z n =>
  simp only[bt] at h;split at h
  case h_2=>cases h
  rename_i d;split at h
  case h_2=>cases h
  rename_i hf;split at h
  case h_2=>cases h
  rename_i k m hn;split at h
  case isFalse=>cases h
  rename_i hc;exact ⟨_,.iP hp ⟨rfl,fun rest k=>by simp only[bt,hf,hn,if_pos hc]⟩,h⟩
 |hU ty m key v =>
  simp only[bt] at h;split at h
  case h_2=>cases h
  split at h
  case h_2=>cases h
  rename_i n hm;split at h
  case h_2=>cases h
  rename_i ks vs hn;split at h
  case h_2=>cases h
  rename_i ks' vs' hl;exact ⟨_,.iP hp ⟨rfl,fun rest k=>by simp only[bt,hm,hn,hl]⟩,h⟩
 |kJ x =>
  simp only[bt] at h;split at h
  case h_2=>cases h
  rename_i d;split at h
  case h_2=>cases h
  rename_i hf;split at h
  case h_2=>cases h
  rename_i ks vs hx;exact ⟨_,.iP hp ⟨rfl,fun rest k=>by simp only[bt,hf,hx]⟩,h⟩
 |jO x =>
  simp only[bt] at h;split at h
  case h_2=>cases h
  rename_i n hx;split at h
  case h_2=>cases h
  rename_i ks vs left cur hn;split at h
  ·rename_i hl;exact ⟨_,.iP hp ⟨rfl,fun rest k=>by simp only[bt,hx,hn,if_pos hl]⟩,h⟩
  ·cases h with | any hdr=>cases hdr
 |iO esz z x =>
  simp only[bt] at h;split at h
  case h_2=>cases h
  have hg:∀ (rest:List aG) (k:ae→cS),bt A none (.iO esz z x) rest k=nz A esz z k (ab A x):=fun rest k=>rfl;simp only[nz] at h hg;split at h
  ·rename_i n p sz lo l hv;split at h
   case h_2=>cases h
   rename_i b hn;split at h
   case h_2=>cases h
   rename_i fs hat;split at h
   case isFalse=>cases h
   rename_i hok;simp only[hv,hn,hat,if_pos hok] at hg;exact ⟨_,.iP hp ⟨rfl,hg⟩,h⟩
  ·rename_i z0 hv;simp only[hv] at hg;exact ⟨_,.iP hp ⟨rfl,hg⟩,h⟩
  ·rename_i z0 hv;simp only[hv] at hg;exact ⟨_,.iP hp ⟨rfl,hg⟩,h⟩
  ·cases h
 |lN esz x y =>
  have hg:∀ (rest:List aG) (k:ae→cS),bt A dst (.lN esz x y) rest k=sO A dst esz k (ab A x) (eE A esz (ab A y)):=fun rest k=>rfl;simp only[bt] at h;simp only[sO] at h hg;split at h
  ·rename_i n p sz lo l ys hv hsx;split at h
   case h_2=>cases h
   rename_i b hn;split at h
   case h_2=>cases h
   rename_i fs hat;split at h
   case isFalse=>cases h
   rename_i hok;simp only[hv,hsx,hn,hat,if_pos hok] at hg;exact ⟨_,.iP hp ⟨rfl,hg⟩,h⟩
  ·cases h
 |call f args =>
  simp only[bt] at h;generalize h1:b7 true A (args.map (ab A))=a1 at h;generalize h2:b7 false A (args.map (ab A))=a2 at h;cases h with
  |flat r hc hf hw=>exact ⟨_,.val hp (.flat h1 hc hf),hw⟩
  |lead r hc hw=>exact ⟨_,.val hp (.lead h2 hc),hw⟩
  |gY ns r hdr=>cases hdr
  |bV aD ρ os cargs post hdr=>cases hdr
 |eH x args =>
  simp only[bt] at h;split at h
  case h_3=>cases h
  case h_2=>cases h with | zV os cargs post hdr=>cases hdr
  rename_i f caps hx;generalize h1:b7 true A (args.map (ab A)++caps)=a1 at h;generalize h2:b7 false A (args.map (ab A)++caps)=a2 at h;cases h with
  |flat r hc hf hw=>exact ⟨_,.val hp (.uU hx h1 hc hf),hw⟩
  |lead r hc hw=>exact ⟨_,.val hp (.uV hx h2 hc),hw⟩
  |gY ns r hdr=>cases hdr
  |bV aD ρ os cargs post hdr=>cases hdr
 |_=>exact pure (by simpa only[bt] using h)
theorem fv.yD{A:ae}{g:aG}{rest:List aG}(h:br P Y true K (aC (g::rest) A)):∃ B,fv P g A B∧br P Y true K (aC rest B):=by
 simp only[aC] at h;split at h
 ·rename_i hg;exact fv.Ln (by simp only[pass,hg]) h
 ·rename_i t b hg;split at h
  ·rename_i b' hb;split at h
   ·rename_i hbb;subst hbb;exact fv.Ln (by simp only[pass,hg];exact hb) h
   ·rename_i hbb;refine ⟨_,.skip (by simp only[gO,hg];exact .inl (by rw[hb,vA hbb])),h⟩
  ·rename_i hb;exact ⟨_,.skip (by simp only[gO,hg];exact .inr hb),h⟩
  ·cases h
theorem oy{A:ae}{g:aG}{rest:List aG}(hp:pass A g):aC (g::rest) A=bt A g.dst g.op rest (aC rest):=by
 simp only[aC];cases hg:g.guard with
 |none=>rfl
 |some tb =>
  obtain ⟨t,b⟩:=tb;simp only[pass,hg] at hp;simp only[hp,if_true]
theorem fv.zT{A B:ae}{g:aG}{rest:List aG}(h:fv P g A B)(hw:br P Y true K (aC rest B)):br P Y true K (aC (g::rest) A):=by
 cases h with
 |skip hn =>
  simp only[aC];cases hg:g.guard with
  |none=>simp only[gO,hg] at hn
  |some tb =>
   obtain ⟨t,b⟩:=tb;simp only[gO,hg] at hn;rcases hn with hn | hn
   ·simp only[hn];rw[if_neg (by cases b <;>simp)];exact hw
   ·simp only[hn];exact hw
 |val hp hv =>
  rw[oy hp];obtain ⟨dst,op,gd⟩:=g;cases hv with
  |pure hv =>
   have hv':bF A op=some _:=hv;cases op <;>try (simp only[bt,hv',cW] <;>first | exact hw | (simp only[bF] at hv';cases hv');done)
   all_goals first
    |(simp only[bF] at hv';cases hv';done)
    |(simp only[bt,apG hv',zz8,if_false,hv',cW];exact hw)
  |flat h1 h2 h3=>simp only[bt,h1];exact .flat _ h2 h3 hw
  |lead h1 h2=>simp only[bt,h1];exact .lead _ h2 hw
  |uU h0 h1 h2 h3=>simp only[bt,h0,h1];exact .flat _ h2 h3 hw
  |uV h0 h1 h2=>simp only[bt,h0,h1];exact .lead _ h2 hw
 |jM hp hd hm ho =>
  rw[oy hp];obtain ⟨dst,op,gd⟩:=g;simp only at hd;subst hd;rcases hm with hm | ⟨y,hm,hv,rfl⟩ <;>simp only at hm <;>subst hm
  ·simp only[bt,ho];exact hw
  ·simp only[bt,ho,hv,if_true];exact hw
 |bA hp hd hm =>
  rw[oy hp];obtain ⟨dst,op,gd⟩:=g;simp only at hd;subst hd;obtain ⟨s,x,v,p,b,old,h1,h2,h3,h4,h5,rfl⟩:=hm;simp only at h1;subst h1;simp only[bt,h2,h3,h4,if_pos h5];exact hw
 |iP hp hm =>
  rw[oy hp,hm.2];exact hw
theorem jV.cQ{A A':ae}{op:cd}{v:I}(h:jV P A op v)(hu:eB A A')(ha:ep A A' op.df):jV P A' op v:=by
 cases h with
 |pure h=>exact .pure (L0 hu ha h)
 |flat h1 h2 h3=>exact .flat (by rw[mL ha];exact lU hu h1) h2 h3
 |lead h1 h2=>exact .lead (by rw[mL ha];exact lU hu h1) h2
 |uU h0 h1 h2 h3=>simp only[cd.df] at ha;exact .uU (by rw[dp ha.l];exact h0) (by rw[mL ha.r];exact lU hu h1) h2 h3
 |uV h0 h1 h2=>simp only[cd.df] at ha;exact .uV (by rw[dp ha.l];exact h0) (by rw[mL ha.r];exact lU hu h1) h2
theorem jV.gY{A A':ae}{op:cd}{v:I}(h:jV P A op v)(hc:op.gU=0)(ha:ep A A' op.df):jV P A' op v:=by
 cases h with
 |pure h=>exact .pure (by rw[yY hc ha];exact h)
 |_=>simp[cd.gU] at hc
theorem oc{A A':ae}{g:aG}(ha:ep A A' g.df)(h:pass A g):pass A' g:=by
 unfold pass at *;cases hg:g.guard with
 |none=>trivial
 |some tb=>simp only[hg] at h ⊢;rw[ha tb.1 (by simp[aG.df,hg])];exact h
theorem qc{A A':ae}{g:aG}(ha:ep A A' g.df)(h:gO A g):gO A' g:=by
 unfold gO at *;cases hg:g.guard with
 |none=>simp only[hg] at h
 |some tb=>simp only[hg] at h ⊢;rw[ha tb.1 (by simp[aG.df,hg])];exact h
theorem aG.kG{A A':ae}{g:aG}(ha:ep A A' g.df):ep A A' g.op.df:=fun k hk=>ha k (List.mem_append_left _ hk)
def lC(P:Program)(g:aG)(A:ae)(v:I):Prop:=(gO A g∧v=.undef)∨(pass A g∧jV P A g.op v)
theorem lC.step{A:ae}{g:aG}{v:I}(h:lC P g A v):fv P g A (A.aS g.dst v):=by
 rcases h with ⟨h,rfl⟩ | ⟨h,k⟩
 ·exact .skip h
 ·exact .val h k
theorem lC.cQ{A A':ae}{g:aG}{v:I}(h:lC P g A v)(hu:eB A A')(ha:ep A A' g.df):lC P g A' v:=by
 rcases h with ⟨h,rfl⟩ | ⟨h,k⟩
 ·exact .inl ⟨qc ha h,rfl⟩
 ·exact .inr ⟨oc ha h,k.cQ hu (aG.kG ha)⟩
theorem lC.gY{A A':ae}{g:aG}{v:I}(h:lC P g A v)(hc:g.op.gU=0)(ha:ep A A' g.df):lC P g A' v:=by
 rcases h with ⟨h,rfl⟩ | ⟨h,k⟩
 ·exact .inl ⟨qc ha h,rfl⟩
 ·exact .inr ⟨oc ha h,k.gY hc (aG.kG ha)⟩
theorem fv.zO{A B:ae}{g:aG}(h:fv P g A B)(hc:g.op.gU≤2):∃ v,lC P g A v∧B=A.aS g.dst v:=by
 cases h with
 |skip h=>exact ⟨_,.inl ⟨h,rfl⟩,rfl⟩
 |val h k=>exact ⟨_,.inr ⟨h,k⟩,rfl⟩
 |jM h1 h2 h3 h4=>rcases h3 with h3 | ⟨y,h3,_⟩ <;>(rw[h3] at hc;simp[cd.gU] at hc)
 |bA h1 h2 h3=>obtain ⟨s,x,v,p,b,old,h4,_⟩:=h3;rw[h4] at hc;simp[cd.gU] at hc
 |iP h1 h3=>rw[h3.1] at hc;omega
theorem qk{A:ae}{a b:Option Nat}{v u:I}(h:∀ d,a=some d→b≠some d):(A.aS a v).aS b u=(A.aS b u).aS a v:=by
 cases a with
 |none=>rfl
 |some d=>cases b with
  |none=>rfl
  |some e =>
   have hne:d≠e:=fun he=>h d rfl (by rw[he]);simp only[ae.aS,ae.put,ae.mk.injEq,and_true]
   funext k
   by_cases h1:k=e <;>by_cases h2:k=d <;>simp_all
theorem iV{A:ae}{d:Option Nat}{v:I} : (A.aS d v).o=A.o:=by cases d <;>rfl
theorem m4{A:ae}{d:Option Nat}{v:I}{l:List Nat}(h:∀ k,d=some k→k∉l):ep A (A.aS d v) l:=by
 cases d with
 |none=>exact fun _ _=>rfl
 |some e =>
  intro k hk;have:k≠e:=fun he=>h e rfl (he▸hk);simp[ae.aS,ae.put,this]
theorem ep.symm{A A':ae}{l:List Nat}(h:ep A A' l):ep A' A l:=fun k hk=>(h k hk).symm
theorem sn.same{A A':ae}{op:cd}{x:I}(h:sn A op x)(ha:ep A A' op.df):sn A' op x:=by
 rcases h with h | ⟨y,h1,h2,h3⟩
 ·exact .inl h
 ·subst h1;have:=dp (x:=y) ha;exact .inr ⟨y,rfl,by rw[this];exact h2,by rw[this];exact h3⟩
theorem sq.same{A A':ae}{op:cd}{n:Nat}{z:ah}(h:sq A op n z)(ho:A'.o=A.o)(ha:ep A A' op.df):sq A' op n z:=by
 obtain ⟨s,x,v,p,b,old,h1,h2,h3,h4,h5,h6⟩:=h;subst h1;simp only[cd.df] at ha;have e1:=dp ha.l;have e2:=dp ha.r;exact ⟨s,x,v,p,b,old,rfl,by rw[e1];exact h2,by rw[ho];exact h3,h4,by rw[e2];exact h5,by rw[e2];exact h6⟩
theorem alx{g h:aG}(hi:nP g h=true):vT g.op.gU h.op.gU=true∧(∀ d,g.dst=some d→d∉h.df)∧(∀ d,g.dst=some d→h.dst≠some d)∧(∀ d,h.dst=some d→d∉g.df):=by
 simp only[nP,zz4] at hi;obtain ⟨⟨h1,h2⟩,h3⟩:=hi;refine ⟨h1,fun d hd =>?_,fun d hd =>?_,fun d hd =>?_⟩
 ·rw[hd] at h2;simp at h2;exact h2.1
 ·rw[hd] at h2;simp at h2;exact h2.2
 ·rw[hd] at h3;simpa using h3
theorem fv.swap{A B C:ae}{g h:aG}(hi:nP g h=true)(h1:fv P g A B)(h2:fv P h B C):∃ B',fv P h A B'∧fv P g B' C:=by
 obtain ⟨hc,i1,i2,i3⟩:=alx hi;simp only[vT,Bool.or_eq_true,zz4,decide_eq_true_eq,beq_iff_eq] at hc;have hg2:g.op.gU≤2:=by rcases hc with hc | hc <;>omega
 obtain ⟨v,hv,rfl⟩:=h1.zO hg2;have ag:ep (A.aS g.dst v) A h.df:=(m4 i1).symm;have cQ:eB (A.aS g.dst v) A:=fun n x hx=>by rwa [iV] at hx
 cases h2 with
 |skip hn =>
  exact ⟨_,.skip (qc ag hn),by
   rw[qk i2];exact (hv.cQ (by intro n x hx;rwa [iV]) (m4 i3)).step⟩
 |val hp hu =>
  exact ⟨_,.val (oc ag hp) (hu.cQ cQ (aG.kG ag)),by
   rw[qk i2];exact (hv.cQ (by intro n x hx;rwa [iV]) (m4 i3)).step⟩
 |jM hp hd hm ho =>
  rename_i d x;rw[iV] at ho;refine ⟨_,.jM (oc ag hp) hd (hm.same (aG.kG ag)) ho,?_⟩;have e:((A.aS g.dst v).aR d (.box x)).put d (.ptr d [])=((A.aR d (.box x)).put d (.ptr d [])).aS g.dst v:=by
   cases hgd:g.dst with
   |none=>rfl
   |some e =>
    have hne:e≠d:=fun he=>i2 e hgd (by rw[hd,he]);simp only[ae.aS,ae.put,ae.aR,ae.mk.injEq,and_true]
    funext k
    by_cases h1:k=e <;>by_cases h2:k=d <;>simp_all
  rw[e];refine (hv.cQ (fun n y hy =>?_) (fun k hk =>?_)).step
  ·have:n≠d:=fun he=>by rw[he,ho] at hy;cases hy
   simp only[ae.put,ae.aR,this,if_false];exact hy
  ·have:k≠d:=fun he=>i3 d hd (he▸hk);simp only[ae.put,ae.aR,this,if_false]
 |bA hp hd hm =>
  rename_i n z;have hc0:g.op.gU=0:=by
   obtain ⟨s,x,v,p,b,old,h4,_⟩:=hm;rcases hc with hc | hc
   ·rw[h4] at hc;exact absurd hc.2 (by simp[cd.gU])
   ·exact hc.1
  refine ⟨_,.bA (oc ag hp) hd (hm.same iV.symm (aG.kG ag)),?_⟩;have e:(A.aS g.dst v).aR n z=(A.aR n z).aS g.dst v:=by cases g.dst <;>rfl
  rw[e];exact (lC.gY (A':=A.aR n z) hv hc0 (fun _ _=>rfl)).step
 |iP hp hm =>
  exfalso
  rw[hm.1] at hc;omega
theorem br.swap{A:ae}{g h:aG}{rest:List aG}(hi:nP g h=true)(hw:br P Y true K (aC (g::h::rest) A)):br P Y true K (aC (h::g::rest) A):=by
 obtain ⟨B,h1,h2⟩:=fv.yD hw;obtain ⟨C,h3,h4⟩:=fv.yD h2;obtain ⟨B',h5,h6⟩:=fv.swap hi h1 h3;exact h5.zT (h6.zT h4)
theorem br.pB{g:aG} : ∀ {l:List aG} {r:List aG} {A:ae},(∀ j∈l,nP j g=true)→br P Y true K (aC (l++g::r) A)→br P Y true K (aC (g::(l++r)) A)
 | [],r,A,_,h=>h
 |j::l,r,A,hi,h=>by
  obtain ⟨B,h1,h2⟩:=fv.yD (g:=j) (rest:=l++g::r) h;have h3:=br.pB (l:=l) (r:=r) (fun k hk=>hi k (by simp[hk])) h2;exact br.swap (hi j (by simp)) (h1.zT h3)
end
def c9(o:Oper):List Nat:=(o.after.toList.filter fun e=>Region.binds .any e).map (·.on)
def oo(cl:List Nat):List Nat→Nat
 | []=>0
 |k::ks=>(2^k ||| cl.getD k 0) ||| oo cl ks
def sQ(on:List (List Nat))(gs:List aG)(cl:List Nat):Bool :=
 (List.range gs.length).all fun i=>(on.getD i []).all (fun k=>decide (k<i))&&Nat.beq (cl.getD i 0) (oo cl (on.getD i [])) &&
  (List.range i).all fun j=>(cl.getD i 0).testBit j||nP (gs.getD j default) (gs.getD i default)
theorem uT{cl:List Nat}{j:Nat} : ∀ {l:List Nat},(oo cl l).testBit j=true→j∈l∨∃ k∈l,(cl.getD k 0).testBit j=true
 | [],h=>by simp[oo] at h
 |k::ks,h=>by
  simp only[oo,Nat.testBit_or,Bool.or_eq_true,Nat.testBit_two_pow,decide_eq_true_eq] at h;rcases h with (h | h) | h
  ·exact .inl (by simp[h])
  ·exact .inr ⟨k,by simp,h⟩
  ·rcases uT h with h | ⟨m,h1,h2⟩
   ·exact .inl (by simp[h])
   ·exact .inr ⟨m,by simp[h1],h2⟩
structure uY (l:List Oper) (gs:List aG):Prop where
 nw:∀ i o,l[i]?=some o→∀ k∈c9 o,k<i
 rj:∀ (S:Nat→Prop),(∀ i o,l[i]?=some o→S i→∀ k∈c9 o,S k)→∀ i o g j,l[i]?=some o→gs[i]?=some g→(∀ k∈c9 o,S k)→j<i→¬ S j→nP (gs.getD j default) g=true
theorem Z7{l:List Oper}{gs:List aG}{cl:List Nat}(hlen:gs.length=l.length)(h:sQ (l.map c9) gs cl=true):uY l gs:=by
 simp only[sQ,zx9,zv2] at h;have cm:∀ i o,l[i]?=some o→∃ g,gs[i]?=some g∧(∀ k∈c9 o,k<i)∧(∀ j,(cl.getD i 0).testBit j=true→j∈c9 o∨∃ k∈c9 o,(cl.getD k 0).testBit j=true)∧∀ j,j<i→(cl.getD i 0).testBit j=true∨nP (gs.getD j default) g=true:=by
  intro i o ho;have hi:i<l.length:=(zy6.1 ho).1;have h1:=h i (by omega);have hon:(l.map c9).getD i []=c9 o:=by simp[zz2,ho]
  have hgi:i<gs.length:=by omega
  have hg:gs[i]?=some gs[i]:=zy1 hgi;have hgd:gs.getD i default=gs[i]:=by simp[zz2,hg]
  rw[hon,hgd] at h1;simp only[zz4,zx9,decide_eq_true_eq,Bool.or_eq_true,zv2] at h1;have hb:=Nat.eq_of_beq_eq_true h1.1.2;exact ⟨_,hg,h1.1.1,fun j hj=>uT (by rw[←hb];exact hj),h1.2⟩
 refine ⟨fun i o ho=>(cm i o ho).choose_spec.2.1,?_⟩;intro S hS i o g j ho hg hon hj hnj;have key:∀ n i o,i≤n→l[i]?=some o→(∀ k∈c9 o,S k)→∀ j,(cl.getD i 0).testBit j=true→S j:=by
  intro n
  induction n with
  |zero =>
   intro i o hi ho hon j hj;obtain ⟨g,_,h1,h2,_⟩:=cm i o ho;rcases h2 j hj with h | ⟨k,hk,_⟩
   ·exact hon j h
   ·have:=h1 k hk;omega
  |succ n ih =>
   intro i o hi ho hon j hj;obtain ⟨g,_,h1,h2,_⟩:=cm i o ho;rcases h2 j hj with h | ⟨k,hk,hjk⟩
   ·exact hon j h
   ·have hki:=h1 k hk;have hkl:k<l.length:=Nat.lt_trans hki (zy6.1 ho).1;obtain ⟨ok,hok⟩:∃ ok,l[k]?=some ok:=⟨l[k],zy1 hkl⟩
    exact ih k ok (by omega) hok (hS k ok hok (hon k hk)) j hjk
 obtain ⟨g',hg',_,_,h3⟩:=cm i o ho;rw[hg,t7] at hg';subst hg';rcases h3 j hj with h | h
 ·exact absurd (key i i o (zz9 _) ho hon j h) hnj
 ·exact h
def jw(listed:Array Bool)(n:Nat):List Nat:=(List.range n).filter fun i => !listed.getD i true
def oU(gs:List aG)(listed:Array Bool)(n:Nat):List aG:=(jw listed n).map fun i=>gs.getD i default
theorem N7{i n:Nat}(h:i<n):List.range n=List.range i++i::(List.range (n-(i+1))).map (i+1 + ·):=by
 conv=>lhs;rw[show n=(i+1)+(n-(i+1)) by omega,List.range_add]
 rw[List.range_succ];simp
theorem aoy{listed:Array Bool}{i n:Nat}(h:i<n)(hs:listed.size=n)(hu:listed.getD i true=false):∃ l1 l2,jw listed n=l1++i::l2∧jw (listed.setIfInBounds i true) n=l1++l2∧∀ j∈l1,j<i∧listed.getD j true=false:=by
 have same:∀ j,j≠i→(listed.setIfInBounds i true).getD j true=listed.getD j true:=fun j hj=>getD_set_ne true (Ne.symm hj);have hit:(listed.setIfInBounds i true).getD i true=true:=by simp[hs,h]
 refine ⟨(List.range i).filter fun j => !listed.getD j true,((List.range (n-(i+1))).map (i+1 + ·)).filter fun j => !listed.getD j true,?_,?_,?_⟩
 ·simp only[jw];rw[N7 h,zu3,zx7];simp only[hu,Bool.not_false,if_true]
 ·simp only[jw];rw[N7 h,zu3,zx7];simp only[hit,zu5,zz8,if_false]
  congr 1
  ·refine List.filter_congr fun j hj =>?_;rw[same j (by have:=zv2.1 hj;omega)]
  ·refine List.filter_congr fun j hj =>?_;obtain ⟨k,_,rfl⟩:=zw5.1 hj;rw[same _ (by omega)]
 ·intro j hj;simp only[zv6,zv2,Bool.not_eq_true'] at hj;exact hj
theorem Od{n:Nat} : jw (Array.replicate n false) n=List.range n:=by
 simp only[jw];refine List.filter_eq_self.2 fun i hi =>?_;have:=zv2.1 hi;simp[this]
theorem amj(gs:List aG):((List.range gs.length).map fun i=>gs.getD i default)=gs:=by
 apply List.ext_getElem
 ·simp
 ·intro i h1 h2;simp[zz2,h2]
section
variable {c:cT}
theorem ku{P:Program}{n:Nat}{bI:Array Oper} : ∀ {l:List Oper} {gs:List aG},kr P n bI l=some gs→gs.length=l.length∧∀ (i:Nat) (o:Oper),l[i]?=some o→∃ g,gs[i]?=some g∧pC P n bI o=some g
 | [],gs,h=>by simp only[kr,t7] at h;subst h;exact ⟨rfl,fun i o ho=>by simp at ho⟩
 |o::l,gs,h=>by
  simp only[kr] at h;split at h
  case h_2=>cases h
  rename_i g gs' hg hgs;simp only[t7] at h;subst h;obtain ⟨h1,h2⟩:=ku (l:=l) hgs;refine ⟨by simp[h1],fun i o' ho =>?_⟩;cases i with
  |zero=>simp only[List.getElem?_cons_zero,t7] at ho;subst ho;exact ⟨g,rfl,hg⟩
  |succ i=>simpa using h2 i o' (by simpa using ho)
theorem akv{K:ae→Prop}{bI:Array Oper}{Q:Exit→Act→World→Prop}{o:Oper}{g:aG}{rest:List aG}{A:ae}{a:Act}{w:World}{Kw:Act→World→Prop}(hg:pC c.P c.n bI o=some g)(hwp:br c.P c.Y true K (aC (g::rest) A))(hs:cv c A a w)
  (hK:∀ B a' w',br c.P c.Y true K (aC rest B)→cv c B a' w'→Kw a' w'):if Region.wanted o (yielded bI a.tmps) then o.wpIn c.bp 9 c.P a w Kw Q else (∀ f,o.about c.P w a.eval=some f→c.bp.fn f)∧Kw (a.put o.dst undef) w:=by
 obtain ⟨h1,h2,h3,h4⟩:=vI hg;have step:br c.P c.Y true K (bt A g.dst g.op rest (aC rest))→o.wpIn c.bp 9 c.P a w Kw Q:=fun h =>
  xM h1 h2.symm (by rw[h2];exact h3) h hs (fun B a' w' hw hs'=>hK B a' w' hw hs')
 simp only[aC] at hwp;rcases h4 with ⟨h5,h6⟩ | ⟨j,b,t,h5,h6,h7⟩
 ·rw[h6] at hwp;have hw:Region.wanted o (yielded bI a.tmps)=true:=by simp[Region.wanted,h5]
  rw[hw,if_pos rfl];exact step hwp
 ·rw[h7] at hwp;simp only at hwp;split at hwp
  ·rename_i b' hb';rw[xT hs h5 h6 hb'];split at hwp
   ·rename_i hbb;subst hbb;simp only[BEq.rfl,if_true];exact step hwp
   ·rename_i hbb;have:(b'==b)=false:=by simpa using hbb
    rw[this];simp only[zz8,if_false];exact ⟨fun f _=>oG c f,hK _ _ _ hwp (by rw[h2];exact hs.qj h3)⟩
  ·rename_i hb';rw[xU hs h5 h6 hb'];simp only[zz8,if_false];exact ⟨fun f _=>oG c f,hK _ _ _ hwp (by rw[h2];exact hs.qj h3)⟩
  ·cases hwp
theorem Rr{K:ae→Prop}{bI:Array Oper}{gs:List aG}{Q:Exit→Act→World→Prop}(hQ:∀ B a w,K B→cv c B a w→Q .normal a w)(hgs:kr c.P c.n bI bI.toList=some gs)(hd:uY bI.toList gs) :
  ∀ (fuel:Nat) (listed:Array Bool) (A:ae) (a:Act) (w:World),listed.size=bI.size→(∀ i o,bI.toList[i]?=some o→listed.getD i false=true→∀ k∈c9 o,listed.getD k false=true)→(jw listed bI.size).length≤fuel →
   br c.P c.Y true K (aC (oU gs listed bI.size) A)→cv c A a w→wpAnyIn c.bp 9 c.P .any bI Q fuel listed a w:=by
 obtain ⟨hlen,hat⟩:=ku hgs;have onOf_mem:∀ (o:Oper) (e:Edge),e∈o.after→Region.binds .any e=true→e.on∈c9 o:=fun o e he hb=>by
  simp only[c9,zw5,zv6];exact ⟨e,⟨by simpa using he,hb⟩,rfl⟩
 have of_onOf:∀ (o:Oper) (k:Nat),k∈c9 o→∃ e∈o.after,Region.binds .any e=true∧e.on=k:=fun o k hk=>by
  simp only[c9,zw5,zv6] at hk;obtain ⟨e,⟨h1,h2⟩,h3⟩:=hk;exact ⟨e,by simpa using h1,h2,h3⟩
 have last:∀ (listed:Array Bool) (A:ae) (a:Act) (w:World),listed.size=bI.size→Region.ready .any bI listed=[]→br c.P c.Y true K (aC (oU gs listed bI.size) A)→cv c A a w→Q .normal a w:=by
  intro listed A a w hsz hr hwp hs;have hnone:jw listed bI.size=[]:=by
   have all:∀ n,∀ i,i<n→i<bI.size→listed.getD i true=true:=by
    intro n
    induction n with
    |zero=>intro i hi;omega
    |succ n ih =>
     intro i hi his;cases hb:listed.getD i true with
     |true=>rfl
     |false =>
      exfalso
      have ho:bI[i]?=some bI[i]:=Array.getElem?_eq_getElem his;have:i∈Region.ready .any bI listed:=mem_ready.2 ⟨hb,bI[i],ho,fun e he hbd=>by
       have hlt:=hd.nw i bI[i] (by simp) e.on (onOf_mem _ e he hbd);have h1:=ih e.on (by omega) (by omega);have h2:e.on<listed.size:=by omega
       simpa[Array.getD_eq_getD_getElem?,h2] using h1⟩
      rw[hr] at this;cases this
   simp only[jw];refine List.filter_eq_nil_iff.2 fun i hi =>?_;have:=all (i+1) i (by omega) (zv2.1 hi);simp only[this,zu5,zz8,not_false_eq_true]
  simp only[oU,hnone,zx2,aC] at hwp;cases hwp with
  |done hk=>exact hQ A a w hk hs
 intro fuel
 induction fuel with
 |zero =>
  intro listed A a w hsz hcl hcnt hwp hs;have hnone:jw listed bI.size=[]:=zv5.1 (by omega);have hr:Region.ready .any bI listed=[]:=by
   refine List.eq_nil_iff_forall_not_mem.2 fun i hi =>?_;obtain ⟨h1,o,ho,_⟩:=mem_ready.1 hi;have:i∈jw listed bI.size:=by
    simp only[jw,zv6,zv2,h1,Bool.not_false,and_true];exact (zx6.1 ho).1
   rw[hnone] at this;cases this
  exact ⟨hr,last listed A a w hsz hr hwp hs⟩
 |succ fuel ih =>
  intro listed A a w hsz hcl hcnt hwp hs;refine ⟨fun hr=>last listed A a w hsz hr hwp hs,fun i hi =>?_⟩;obtain ⟨hun,o,ho,hall⟩:=mem_ready.1 hi;have hin:i<bI.size:=(zx6.1 ho).1;obtain ⟨l1,l2,e1,e2,hl1⟩:=aoy hin hsz hun;have hol:bI.toList[i]?=some o:=by simpa using ho
  obtain ⟨g,hgi,hcg⟩:=hat i o hol;have hon:∀ k∈c9 o,listed.getD k false=true:=fun k hk=>by
   obtain ⟨e,h1,h2,h3⟩:=of_onOf o k hk;exact h3▸hall e h1 h2
  have hgd:gs.getD i default=g:=by simp[zz2,hgi]
  have hwp':br c.P c.Y true K (aC (g::oU gs (listed.setIfInBounds i true) bI.size) A):=by
   simp only[oU,e1,zx4,zy2,hgd] at hwp;simp only[oU,e2,zx4];refine br.pB (fun j hj =>?_) hwp;obtain ⟨k,hk,rfl⟩:=zw5.1 hj;obtain ⟨hk1,hk2⟩:=hl1 k hk;refine hd.rj (fun k=>listed.getD k false=true) hcl i o g k hol hgi hon hk1 ?_;have hks:k<listed.size:=by omega
   simp[Array.getD_eq_getD_getElem?,hks] at hk2 ⊢;exact hk2
  unfold wpOpIn;rw[ho];refine akv hcg hwp' hs fun B a' w' hw hs'=>ih _ B a' w' (by simpa using hsz) ?_ ?_ hw hs'
  ·intro m om hom hm k hk;by_cases hmi:m=i
   ·subst hmi;rw[hol,t7] at hom;subst hom;exact getD_set_true (hon k hk)
   ·rw[getD_set_ne false (Ne.symm hmi)] at hm;exact getD_set_true (hcl m om hom hm k hk)
  ·have:(jw listed bI.size).length=(jw (listed.setIfInBounds i true) bI.size).length+1:=by
    rw[e1,e2];simp;omega
   omega
theorem aox{K:ae→Prop}{bI:Array Oper}{gs:List aG}{Q:Exit→Act→World→Prop}{id:Nat}{A:ae}{a:Act}{w:World}(hm:c.P.follows .mixedOrders=true)(hQ:∀ B a w,K B→cv c B a w→Q .normal a w)(hgs:kr c.P c.n bI bI.toList=some gs)(hd:uY bI.toList gs)
  (hwp:br c.P c.Y true K (aC gs A)) (hs:cv c A a w):(Code.region id bI true).wpIn c.bp 9 c.P Q a w:=by
 refine wpIn_region_any hm (Rr hQ hgs hd bI.size (Array.replicate bI.size false) A a _ (by simp) ?_ ?_ ?_ ?_)
 ·intro i o _ h
  exfalso
  simp only[Array.getD_eq_getD_getElem?,Array.getElem?_replicate] at h;split at h <;>simp at h
 ·rw[Od];simp
 ·have hl:=(ku hgs).1;simp only[zv0] at hl;simp only[oU,Od];rw[←hl,amj];exact hwp
 ·obtain ⟨D,E,hs⟩:=hs;exact ⟨D,E,hs.grow (w' := { w with drawn:=w.drawn+1 }) ⟨rfl,rfl,rfl,zz9 _,fun _ _=>rfl⟩ (fun _ _ h=>h) (fun _ _ h _=>h) (fun b o h=>hs.dm b o h)⟩
end
inductive aN where
 |bT (on:Option (List (List Nat))) (gs:List aG)
 |seq (x y:aN)
 |cond (b:aM) (x y:aN)
 |block (id:Nat) (x:aN)
 |loop (x:aN)
 |exit (id:Nat)
 |ret
 |skip
 |scope (x:aN)
 |label
 |iN
 |lq (f:aM) (ps:List Nat) (x y:aN)
 deriving Inhabited
def fk(P:Program)(n:Nat):Code→Option aN
 | .region _ bI draw=>match kr P n bI bI.toList with
  |some gs=>if (!draw||P.follows .mixedOrders)=true then some (.bT (bif draw then some (bI.toList.map c9) else none) gs) else none
  |none=>some .iN
 | .seq x y=>match fk P n x,fk P n y with
  |some x,some y=>some (.seq x y)
  |_,_=>none
 | .cond b x y=>match bO P 0 b,fk P n x,fk P n y with
  |some b,some x,some y=>some (.cond b x y)
  |_,_,_=>none
 | .block id x=>match fk P n x with
  |some x=>some (.block id x)
  |none=>none
 | .loop x=>match fk P n x with
  |some x=>some (.loop x)
  |none=>none
 | .exit id=>some (.exit id)
 | .ret=>some .ret
 | .skip=>some .skip
 | .scope x=>match fk P n x with
  |some x=>some (.scope x)
  |none=>none
 | .label _=>some .label
 | .rangeFunc f ps x y=>match bO P 0 f,fk P n x,fk P n y with
  |some f,some x,some y=>if (ps.toList.all fun p=>p<n)=true then some (.lq f ps.toList x y) else none
  |_,_,_=>none
 |_=>none
def K3(c:cT)(Q:Exit→ae→Prop):Exit→Act→World→Prop:=fun e a w=>∃ A,Q e A∧cv c A a w
def J(c:cT)(x:aN)(Q:Exit→ae→Prop)(A:ae):Prop :=
 ∀ code,fk c.P c.n code=some x→∀ a w,cv c A a w→code.wpIn c.bp 9 c.P (K3 c Q) a w
def au(k:ae→Prop)(Q:Exit→ae→Prop):Exit→ae→Prop
 | .normal,A=>k A
 |e,A=>Q e A
def bS(id:Nat)(Q:Exit→ae→Prop):Exit→ae→Prop
 | .exit id',A=>if id'=id then Q .normal A else Q (.exit id') A
 |e,A=>Q e A
section
variable {c:cT} {A:ae} {Q:Exit→ae→Prop}
def ZQ(d:Option (List (List Nat)))(gs:List aG)(cl:List Nat):Bool:=match d with
 |none=>true
 |some on=>sQ on gs cl
theorem J.bT{d:Option (List (List Nat))}{gs:List aG}{cl:List Nat}(hd:ZQ d gs cl=true)(h:∀ K:ae→Prop,(∀ B,Q .normal B→K B)→br c.P c.Y d.isSome K (aC gs A)):J c (.bT d gs) Q A:=by
 intro code hc a w hs;cases code <;>simp only[fk] at hc <;>try (first | (cases hc;done) | ((repeat' split at hc) <;>cases hc;done))
 rename_i id bI draw;split at hc
 ·rename_i gs' hgs;split at hc
  case isFalse=>cases hc
  rename_i hok;simp only[t7,aN.bT.injEq] at hc;obtain ⟨rfl,rfl⟩:=hc;cases draw with
  |false=>exact wpIn_region_list (tv (K:=Q .normal) (fun B a w hk hs=>⟨B,hk,hs⟩) bI.toList gs' A a w hgs (h _ fun _ hb=>hb) hs)
  |true =>
   simp only[zu5,Bool.false_or] at hok;exact aox (K:=Q .normal) hok (fun B a w hk hs=>⟨B,hk,hs⟩) hgs (Z7 (ku hgs).1 hd) (h _ fun _ hb=>hb) hs
 ·cases hc
theorem J.seq{x y:aN}(h:J c x (au (fun B=>J c y Q B) Q) A):J c (.seq x y) Q A:=by
 intro code hc a w hs;cases code <;>simp only[fk] at hc <;>try (first | (cases hc;done) | ((repeat' split at hc) <;>cases hc;done))
 rename_i cx cy;split at hc
 ·rename_i x' y' hx hy;simp only[t7,aN.seq.injEq] at hc;obtain ⟨rfl,rfl⟩:=hc;refine wpIn_seq (wpIn_mono (h cx hx a w hs) ?_);rintro e a' w' ⟨B,hq,hs'⟩;cases e <;>simp only[au,Exit.then] at * <;>first | exact hq cy hy a' w' hs' | exact ⟨B,hq,hs'⟩
 ·cases hc
theorem J.cond{b:aM}{x y:aN}{t:Bool}(hb:ab A b=.bool t)(h1:t=true→J c x Q A)(h2:t=false→J c y Q A):J c (.cond b x y) Q A:=by
 intro code hc a w hs;cases code <;>simp only[fk] at hc <;>try (first | (cases hc;done) | ((repeat' split at hc) <;>cases hc;done))
 rename_i cb cx cy;split at hc
 ·rename_i b' x' y' hb' hx hy;simp only[t7,aN.cond.injEq] at hc;obtain ⟨rfl,rfl,rfl⟩:=hc;obtain ⟨D,E,hs'⟩:=hs;have hv:=cg hs' hb';rw[hb] at hv;exact wpIn_cond_split (mq hv) (fun ht=>h1 ht cx hx a w ⟨D,E,hs'⟩) (fun ht=>h2 ht cy hy a w ⟨D,E,hs'⟩)
 ·cases hc
theorem J.block{id:Nat}{x:aN}(h:J c x (bS id Q) A):J c (.block id x) Q A:=by
 intro code hc a w hs;cases code <;>simp only[fk] at hc <;>try (first | (cases hc;done) | ((repeat' split at hc) <;>cases hc;done))
 rename_i id' cx;split at hc
 ·rename_i x' hx;simp only[t7,aN.block.injEq] at hc;obtain ⟨rfl,rfl⟩:=hc;refine wpIn_block (wpIn_mono (h cx hx a w hs) ?_);rintro e a' w' ⟨B,hq,hs'⟩;cases e <;>simp only[bS,Exit.inBlock] at * <;>first
   |exact ⟨B,hq,hs'⟩
   |(split at hq
     ·rename_i he;rw[if_pos he];exact ⟨B,hq,hs'⟩
     ·rename_i he;rw[if_neg he];exact ⟨B,hq,hs'⟩)
 ·cases hc
theorem J.exit{id:Nat}(h:Q (.exit id) A):J c (.exit id) Q A:=by
 intro code hc a w hs;cases code <;>simp only[fk] at hc <;>try (first | (cases hc;done) | ((repeat' split at hc) <;>cases hc;done))
 simp only[t7,aN.exit.injEq] at hc;subst hc;exact wpIn_exit ⟨A,h,hs⟩
theorem J.ret(h:Q .ret A):J c .ret Q A:=by
 intro code hc a w hs;cases code <;>simp only[fk] at hc <;>try (first | (cases hc;done) | ((repeat' split at hc) <;>cases hc;done))
 exact wpIn_ret ⟨A,h,hs⟩
theorem J.skip(h:Q .normal A):J c .skip Q A:=by
 intro code hc a w hs;cases code <;>simp only[fk] at hc <;>try (first | (cases hc;done) | ((repeat' split at hc) <;>cases hc;done))
 exact wpIn_skip ⟨A,h,hs⟩
theorem Eo{p:Nat→Prop}(h:∃ n,p n):∃ n,p n∧∀ m,p m→n≤m:=by
 obtain ⟨n,hn⟩:=h
 induction n using Nat.strongRecOn with
 |_ n ih =>
  by_cases hm:∃ m,m<n∧p m
  ·obtain ⟨m,h1,h2⟩:=hm;exact ih m h1 h2
  ·exact ⟨n,hn,fun m hp=>Nat.le_of_not_lt fun hlt=>hm ⟨m,hlt,hp⟩⟩
open Classical in
noncomputable def least(p:Nat→Prop):Nat:=if h:∃ n,p n then (Eo h).choose else 0
theorem KY{p:Nat→Prop}(h:∃ n,p n):p (least p)∧∀ m,p m→least p≤m:=by
 simp only[least,dif_pos h];exact (Eo h).choose_spec
theorem apO{bp:Fence}{N:Nat}{P:Program}{code:Code}{QQ:Exit→Act→World→Prop}(aj:Nat→Act→World→Prop)(round:∀ n a w,aj n a w→code.wpIn bp N P (Exit.then (fun a' w'=>∃ m,m<n∧aj m a' w') QQ) a w) :
  ∀ n a w,aj n a w→(Code.loop code).wpIn bp N P QQ a w:=by
 intro n a w h;refine wpIn_loop (fun a w=>∃ n,aj n a w) (fun a w=>least fun n=>aj n a w) ⟨n,h⟩ ?_;intro a w hI;have hm:=(KY hI).1;refine wpIn_mono (round _ a w hm) ?_;intro e a' w' hq;cases e <;>simp only[Exit.then] at hq ⊢ <;>try exact hq
 obtain ⟨m,h1,h2⟩:=hq;exact ⟨⟨m,h2⟩,Nat.lt_of_le_of_lt ((KY ⟨m,h2⟩).2 m h2) h1⟩
def az(A B:ae):Prop:=∀ (c:cT) (a:Act) (w:World),cv c A a w→cv c B a w
theorem az.refl(A:ae):az A A:=fun _ _ _ h=>h
theorem az.trans{A B C:ae}(h:az A B)(k:az B C):az A C:=fun c a w hs=>k c a w (h c a w hs)
theorem J.sub{x:aN}{B:ae}(hsub:az A B)(h:J c x Q B):J c x Q A:=fun code hc a w hs=>h code hc a w (hsub c a w hs)
theorem J.mono{x:aN}{Q':Exit→ae→Prop}(h:J c x Q A)(hq:∀ e B,Q e B→Q' e B):J c x Q' A :=
 fun code hc a w hs=>wpIn_mono (h code hc a w hs) fun e a' w' ⟨B,h1,h2⟩=>⟨B,hq e B h1,h2⟩
theorem J.loop{σ:Type}(S:σ→ae)(C:σ→Prop)(m:σ→Nat)(s0:σ){x:aN}(h0:C s0)(hsub:az A (S s0))
  (round:∀ s,C s→J c x (au (fun B=>∃ s',C s'∧m s'<m s∧az B (S s')) Q) (S s)):J c (.loop x) Q A:=by
 intro code hc a w hs;cases code <;>simp only[fk] at hc <;>try (first | (cases hc;done) | ((repeat' split at hc) <;>cases hc;done))
 rename_i cx;split at hc
 ·rename_i x' hx;simp only[t7,aN.loop.injEq] at hc;subst hc;refine apO (fun n a w=>∃ s,C s∧m s=n∧cv c (S s) a w) ?_ (m s0) a w ⟨s0,h0,rfl,hsub c a w hs⟩;rintro n a w ⟨s,hC,rfl,hs⟩;refine wpIn_mono (round s hC cx hx a w hs) ?_;rintro e a' w' ⟨B,hq,hs'⟩;cases e <;>simp only[au,Exit.then] at * <;>first
   |exact ⟨B,hq,hs'⟩
   |(obtain ⟨s',h1,h2,h3⟩:=hq;exact ⟨m s',h2,s',h1,rfl,h3 c a' w' hs'⟩)
 ·cases hc
end
inductive bd where
 |tmp (t:Nat)
 |cell (a:Nat) (s:Option Nat)
def je(P:Program):List ResultVar→Option (List bd)
 | []=>some []
 | .tmp t::l=>(je P l).map (.tmp t :: ·)
 | .cell a t::l=>match gi P t,je P l with
  |some s,some l=>some (.cell a s::l)
  |_,_=>none
def uF(A:ae):bd→Option I
 | .tmp t=>bl true A (A.t t)
 | .cell a s=>match cC A (A.t a) with
  |some x=>if ca s x then bl true A x else none
  |none=>none
def fo(A:ae):List bd→Option (List I)
 | []=>some []
 |r::rs=>match uF A r,fo A rs with
  |some x,some xs=>some (x::xs)
  |_,_=>none
def lh:List I→I
 | [x]=>x
 |xs=>.tuple xs
def pc(args:List I):ae:=⟨fun t=>args.getD t .undef,fun _=>none⟩
def jR(rs:List bd)(r:I):Exit→ae→Prop
 | .ret,A=>∃ xs,fo A rs=some xs∧lh xs=r
 | .normal,A=>∃ xs,fo A rs=some xs∧lh xs=r
 |_,_=>False
def qz(args:List I)(os:List (Nat×ah)):ae:=⟨fun t=>args.getD t .undef,ak os⟩
theorem apt{P:Program}{n:Nat}{w:World}{D:aV}{E:a6}{Y:Value→List I→List (Nat×ah)→cR→Prop}{args:List I}{os:List (Nat×ah)}{vs:List Value}(hD:∀ b o,D b o→b<w.heap.size)(ho:lA (fun _=>True) w D E (ak os))
  (hv:aK w D E args vs) (hn:vs.length≤n) (hos:∀ m,al os m=true→n≤m∧1000000≤m) (hy:po ⟨P,w,D,n,dG E,E,Y,none⟩) :
  aW ⟨P,w,D,n,dG E,E,Y,none⟩ (qz args os) { tmps:=vs.toArray++Array.replicate (n-vs.toArray.size) undef,defers:=[] } w D E:=by
 refine ⟨by simp;omega,⟨[],rfl,.nil,fun _ h=>by simp at h⟩,fun t =>?_,fY.refl _ _,fun _ _ h _=>h,hD,fun m =>?_,ho.c4,fun m e h=>.inr ⟨e,h,.refl e⟩,fun m hm =>?_,fun _ _ h=>h,hy,.refl _ _⟩
 ·have key:∀ (args:List I) (vs:List Value) (t:Nat),aK w D E args vs→aY w D E (args.getD t .undef) (vs.getD t undef):=by
   intro args
   induction args with
   |nil=>intro vs t h;simp only[aK] at h;subst h;simp[aY]
   |cons x xs ih =>
    intro vs t h;simp only[aK] at h;obtain ⟨v,rest,cs,rfl,h1,h2,h3⟩:=h;cases t with
    |zero=>simpa using mW h1 h2
    |succ t=>simpa using ih rest t h3
  have:=key args vs t hv;have e:(vs.toArray++Array.replicate (n-vs.toArray.size) undef).getD t undef=vs.getD t undef:=by
   simp only[Array.getD_eq_getD_getElem?,zz2];rcases Nat.lt_or_ge t vs.length with h | h
   ·rw[Array.getElem?_append_left (by simpa using h)];simp
   ·rw[Array.getElem?_append_right (by simpa using h),List.getElem?_eq_none h];simp only[Array.getElem?_replicate];split <;>rfl
  simp only[qz];rw[e];exact this
 ·have h:=ho.bV m;simp only[qz];cases hx:ak os m with
  |none=>rw[hx] at h;exact h
  |some x =>
   rw[hx] at h;cases x with
   |box x =>
    obtain ⟨b,cs,T,k1,_,k3⟩:=h;exact ⟨b,cs,T,k1,.inr ⟨m,_,k1,rfl⟩,k3⟩
   |b5 T sz es =>
    obtain ⟨aI,k1,k2,k3⟩:=h;refine ⟨aI,k1,k2,?_⟩;cases aI with
    |none=>exact k3
    |some bc =>
     obtain ⟨b,cap⟩:=bc;obtain ⟨cs,pre,rest,_,k4⟩:=k3;exact ⟨cs,pre,rest,.inr ⟨m,_,k1,rfl⟩,k4⟩
   |c5 T xs =>
    obtain ⟨aI,k1,k2,k3⟩:=h;refine ⟨aI,k1,k2,?_⟩;cases aI with
    |none=>exact k3
    |some bc =>
     obtain ⟨b,cap⟩:=bc;obtain ⟨cs,rest,_,k4⟩:=k3;exact ⟨cs,rest,.inr ⟨m,_,k1,rfl⟩,k4⟩
   |dT x =>
    obtain ⟨b,k1,_,k3⟩:=h;exact ⟨b,k1,.inr ⟨m,_,k1,rfl⟩,k3⟩
   |cB ks vs =>
    obtain ⟨b,es,ck,k1,_,k3⟩:=h;exact ⟨b,es,ck,k1,.inr ⟨m,_,k1,rfl⟩,k3⟩
   |it ks vs left cur =>
    obtain ⟨r,b,es,ck,si,se,la,k1,_,k3⟩:=h;exact ⟨r,b,es,ck,si,se,la,k1,.inr ⟨m,_,k1,rfl⟩,k3⟩
 ·have h:=ho.bV m;refine hos m ?_;cases hx:ak os m with
  |none=>rw[hx] at h;exact absurd h hm
  |some x=>simp[al,hx]
def rU(tmps:Array Value):ResultVar→Sem Value
 | .tmp t=>pure (tmps.getD t undef)
 | .cell a t=>do loadVar t (←asAddr (tmps.getD a undef))
theorem aoI(fn:Func)(tmps:Array Value):results fn tmps=(do
  let vs ←fn.results.mapM (rU tmps)
  pure (if h:vs.size=1 then vs[0] else .tuple vs)):=by
 unfold results;rfl
def ux(A:ae):bd→Option I
 | .tmp t=>some (A.t t)
 | .cell a s=>match cC A (A.t a) with
  |some x=>if ca s x then some x else none
  |none=>none
def m7(A A0:ae)(os:List (Nat×ah)):List bd→List I→Prop
 | [],[]=>True
 |r::rs,y::ys=>(∃ x,ux A r=some x∧((y=x∧x.cu=true∧x.only (al os)=true)∨bl true A0 x=some y))∧m7 A A0 os rs ys
 |_,_=>False
def ae.lx(A:ae)(os:List (Nat×ah)):ae:=⟨A.t,fun n=>if al os n then none else A.o n⟩
def lB(rs:List bd)(post:cR)(A:ae):Prop :=
 ∃ (os:List (Nat×ah)) (xs:List I),(∀ n x,ak os n=some x→A.o n=some x∧x.only (al os)=true∧x.eZ=true)∧m7 A (A.lx os) os rs xs∧post (lh xs) os
def oe(rs:List bd)(post:cR):Exit→ae→Prop
 | .ret,A=>lB rs post A
 | .normal,A=>lB rs post A
 |_,_=>False
theorem zi{c:cT}{A:ae}{a:Act}{w:World}{D:aV}{E:a6}(hs:aW c A a w D E){A0:ae}(hu:eB A0 A){os:List (Nat×ah)}{D':aV}{E':a6}(hw:iL true A0 D E D')(aA:∀ n,al os n=true→E' n=E n)(hE':∀ n,al os n=false→E' n=none) :
  ∀ (rs:List ResultVar) (ls:List bd) (xs:List I),je c.P rs=some ls→m7 A A0 os ls xs→∃ vs:List Value,(rs.mapM (rU a.tmps)).run c.P w=.ok vs w∧aK w D' E' xs vs
 | [],ls,xs,hc,hr=>by
  simp only[je,t7] at hc;subst hc;cases xs with
  |nil=>exact ⟨[],by simp,by simp[aK]⟩
  |cons x xs=>simp[m7] at hr
 |r::rs,ls,xs,hc,hr=>by
  have hl:dV w D E' w D' E':=⟨hw.dc,fun _ _ _ _ h=>h,fun _ _ _ h=>h,fun _ aI l h=>⟨aI,l,h,zz9 _,fun _=>rfl⟩,fun _ _ h=>h,fun _ _ h=>h,fun _ _ _ _ h=>h⟩
  have fin1:∀ {x y:I} {v:Value},aY w D E x v→((y=x∧x.cu=true∧x.only (al os)=true)∨bl true A0 x=some y)→∃ cs,bR y v cs∧af w D' E' y cs:=by
   intro x y v hv hf;rcases hf with ⟨rfl,h1,h2⟩ | hf
   ·have h3:=aY.bM hl (aY.dI aA h2 hv);cases y <;>simp only[aY] at h3 <;>first | (simp[I.cu] at h1;done) | exact h3
   ·have h1:aK w D E [x] [v]:=m9 [x] [v] (.cons hv .nil) (by
     intro z hz;simp only[List.mem_singleton] at hz;subst hz;cases z <;>simp_all[bl,I.cu])
    have h2:=mN (E':=E') hs hu hw [x] [y] [v] h1 (by simp[b7,hf]);simp only[aK] at h2;obtain ⟨v',rest,cs,e,k1,k2,_⟩:=h2;simp only[List.cons.injEq] at e;obtain ⟨rfl,_⟩:=e;exact ⟨cs,k1,k2⟩
  cases r with
  |tmp t =>
   simp only[je,zz1] at hc;obtain ⟨ls',hl',rfl⟩:=hc;cases xs with
   |nil=>simp[m7] at hr
   |cons y ys =>
    simp only[m7] at hr;obtain ⟨⟨x,h1,h2⟩,h3⟩:=hr;simp only[ux,t7] at h1;subst h1;obtain ⟨vs,k1,k2⟩:=zi hs hu hw aA hE' rs ls' ys hl' h3;obtain ⟨cs,k3,k4⟩:=fin1 (hs.en t) h2;refine ⟨a.tmps.getD t undef::vs,?_,?_⟩
    ·simp only[List.mapM_cons,Sem.run_bind,rU,Sem.run_pure,Result.andThen_ok,k1]
    ·simp only[aK];exact ⟨_,vs,cs,rfl,k3,k4,k2⟩
  |cell ad t =>
   simp only[je] at hc;split at hc
   ·rename_i s ls' hk hl';simp only[t7] at hc;subst hc;cases xs with
    |nil=>simp[m7] at hr
    |cons y ys =>
     simp only[m7] at hr;obtain ⟨⟨x,h1,h2⟩,h3⟩:=hr;obtain ⟨vs,k1,k2⟩:=zi hs hu hw aA hE' rs ls' ys hl' h3;simp only[ux] at h1;split at h1
     ·rename_i z hz;split at h1
      ·rename_i hok;simp only[t7] at h1;subst h1;obtain ⟨b,off,cs,q1,q2,q3⟩:=hs.AV (hs.en ad) hz;obtain ⟨v,q4,q5⟩:=Oz hk hok q2 q3;obtain ⟨cs',k3,k4⟩:=fin1 q5 h2;refine ⟨v::vs,?_,?_⟩
       ·have e:(rU a.tmps (.cell ad t)).run c.P w=.ok v w:=by
         simp only[rU,Sem.run_bind,q1,asAddr,Sem.run_pure,Result.andThen_ok,q4]
        simp only[List.mapM_cons,Sem.run_bind,Sem.run_pure,Result.andThen_ok,k1,e]
       ·simp only[aK];exact ⟨_,vs,cs',rfl,k3,k4,k2⟩
      ·cases h1
     ·cases h1
   ·cases hc
theorem aW.Wt{c:cT}{A:ae}{a:Act}{w:World}{D:aV}{E:a6}(h:aW c A a w D E){B:Nat}{ds:List Deferred}(hd:a.defers = { target:=.collected B,args := #[] } :: ds) :
  w.heap[B]?=some (.deferred (some []))∧aW c A { a with defers:=ds } (w.putObj B (.deferred none)) D E:=by
 obtain ⟨Bs,h1,h2,h3⟩:=h.eW;rw[hd] at h1;cases Bs with
 |nil=>cases h1
 |cons B' Bs =>
  simp only[zy2,List.cons.injEq,Deferred.mk.injEq,Target.collected.injEq,and_true] at h1;obtain ⟨rfl,rfl⟩:=h1;have hB:=h3 B (by simp);have hlt:B<w.heap.size:=(zx6.1 hB.2).1;have hl:dV w D E (w.putObj B (.deferred none)) D E :=
   ⟨fun _ _ h=>h,fun b o v _ hv=>vQ hB.2 rfl hv,fun _ _ _ h=>h,fun _ aI l h=>⟨aI,l,h,zz9 _,fun _=>rfl⟩,fun _ _ h=>h,fun _ _ h=>h,fun b es ck _ hm=>(World.putObj_heap_other (fun e=>by rw[e,hB.2] at hm;cases hm)).trans hm⟩
  have hne:∀ {b:Nat} {cs:Array Value} {T:TypeId},w.heap[b]?=some (.cells cs T (0,0))→(w.putObj B (.deferred none)).heap[b]?=w.heap[b]?:=fun {b cs T} hb =>
   World.putObj_heap_other (fun e=>by rw[e,hB.2] at hb;cases hb)
  refine ⟨hB.2,h.sz,⟨Bs,rfl,(List.nodup_cons.1 h2).2,fun B2 hB2=>⟨(h3 B2 (by simp[hB2])).1,?_⟩⟩,fun t=>aY.bM hl (h.en t),h.dW.trans ⟨rfl,rfl,rfl,by simp,fun k hk =>?_⟩,h.dc,fun b o hd=>by have:=h.dm b o hd;simpa using this,fun n =>?_,h.c4,h.dZ,h.ff,h.cQ,h.fh,h.ly hl⟩
  ·rw[World.putObj_heap_other (fun e=>(List.nodup_cons.1 h2).1 (by rw[←e];exact hB2))];exact (h3 B2 (by simp[hB2])).2
  ·exact World.putObj_heap_other (fun e=>hk (e▸.inl hB.1))
  ·refine (h.bV n).bM hl rfl fun e b he hb=>⟨?_,fun _ h=>h⟩
   have hob:=h.bV n;unfold de at hob;split at hob
   ·rw[hob] at he;cases he
   ·obtain ⟨b',cs,T,k1,_,k3,_⟩:=hob;rw[k1,t7] at he;subst he;simp only[bZ.aI,t7] at hb;subst hb;exact hne k3
   ·obtain ⟨aI,k1,_,k3⟩:=hob;rw[k1,t7] at he;subst he;split at k3
    ·simp[bZ.aI] at hb
    ·obtain ⟨cs,pre,rest,_,k5,_⟩:=k3;simp only[bZ.aI,t7] at hb;subst hb;exact hne k5
   ·obtain ⟨b',k1,_,k3,k4,_⟩:=hob;rw[k1,t7] at he;subst he;simp only[bZ.aI,t7] at hb;subst hb;exact World.putObj_heap_other (fun e=>by rw[e,hB.2] at k3;cases k3;cases k4)
   ·obtain ⟨b',es,ck,k1,_,k3,_⟩:=hob;rw[k1,t7] at he;subst he;cases hb;exact World.putObj_heap_other (fun e=>by rw[e,hB.2] at k3;cases k3)
   ·obtain ⟨r,b',es,ck,si,se,la,k1,_,k3,_⟩:=hob;rw[k1,t7] at he;subst he;cases hb;exact World.putObj_heap_other (fun e=>by rw[e,hB.2] at k3;cases k3)
   ·obtain ⟨aI,k1,_,k3⟩:=hob;rw[k1,t7] at he;subst he;split at k3
    ·simp[bZ.aI] at hb
    ·obtain ⟨cs,m,_,k5,_⟩:=k3;simp only[bZ.aI,t7] at hb;subst hb;exact hne k5
def vj(w:World)(D:aV)(E:a6)(post:cR)(v:Value)(w':World):Prop :=
 ∃ D' E' r os',post r os'∧aY w' D' E' r v∧lA (fun b=>w.heap.size≤b∨dG E b) w' D' E' (ak os') ∧
  fY (fun b=>w.heap.size≤b∨dG E b) w w'∧(∀ b o,D b o→D' b o)∧(∀ b o,D' b o→b<w'.heap.size)∧(∀ b o,D' b o→b<w.heap.size→¬ dG E b→D b o) ∧
  (∀ n e,E n=some e→al os' n=true→∃ e',E' n=some e'∧e.le e')∧iK w D w'
theorem aW.KZ{P:Program}{n:Nat}{w:World}{D:aV}{E:a6}{Y:Value→List I→List (Nat×ah)→cR→Prop}{kI:Option Nat}{A:ae}{a:Act}{w':World}{D':aV}{E':a6}
  (hs:aW ⟨P,w,D,n,dG E,E,Y,kI⟩ A a w' D' E') {os:List (Nat×ah)} (h1:∀ n x,ak os n=some x→A.o n=some x∧x.only (al os)=true∧x.eZ=true) :
  ∃ D2 E2,iL true (A.lx os) D' E' D2∧(∀ n,al os n=true→E2 n=E' n)∧(∀ n,al os n=false→E2 n=none)∧lA (fun b=>w.heap.size≤b∨dG E b) w' D2 E2 (ak os) ∧
   fY (fun b=>w.heap.size≤b∨dG E b) w w'∧(∀ b o,D b o→D2 b o)∧(∀ b o,D2 b o→b<w'.heap.size)∧(∀ b o,D2 b o→b<w.heap.size→¬ dG E b→D b o) ∧
   (∀ n e,E n=some e→al os n=true→∃ e',E2 n=some e'∧e.le e')∧iK w D w':=by
 obtain ⟨c,hc⟩:∃ c:cT,c=⟨P,w,D,n,dG E,E,Y,kI⟩:=⟨_,rfl⟩
 rw[←hc] at hs;have hM:c.ft=fun b=>w.heap.size≤b∨dG E b:=by rw[hc];rfl
 obtain ⟨E2,hE2⟩:∃ E2:a6,E2=fun n=>if al os n then E' n else none:=⟨_,rfl⟩
 obtain ⟨D2,hD2⟩:∃ D2:aV,D2=fun b o=>b<w'.heap.size∧(D' b o∨(¬ dG E2 b∧c.ft b)):=⟨_,rfl⟩
 have e2:∀ n,al os n=true→E2 n=E' n:=fun n hn=>by rw[hE2];simp only[hn,if_true]
 have cut:∀ n e,E2 n=some e→al os n=true∧E' n=some e:=fun n e he=>by
  rw[hE2] at he;simp only at he;split at he
  ·exact ⟨by assumption,he⟩
  ·cases he
 have up2:∀ b o,D' b o→D2 b o:=fun b o hd=>by
  rw[hD2];exact ⟨hs.dm b o hd,.inl hd⟩
 have down:∀ b o,D2 b o→dG E2 b→D' b o:=fun b o hd hb=>by
  rw[hD2] at hd;rcases hd.2 with h | h
  ·exact h
  ·exact absurd hb h.1
 have hu:eB (A.lx os) A:=fun n x hx=>by
  simp only[ae.lx] at hx;split at hx
  ·cases hx
  ·exact hx
 have notOwn:∀ n e b,(A.lx os).o n≠none→E' n=some e→e.aI=some b→¬ dG E2 b:=fun n e b hn he hb ho=>by
  obtain ⟨m,e',k1,k3⟩:=ho;obtain ⟨k1,k2⟩:=cut m e' k1;have:=hs.c4 n m e _ b he k2 hb k3;subst this;simp[ae.lx,k1] at hn
 have hw:iL true (A.lx os) D' E' D2:=by
  refine ⟨up2,fun n T sz es b cap hn aA o _ =>?_,fun _ n x b aU hn aA o _ =>?_,fun _ n ks vs b hn aA =>?_⟩
  ·rw[hD2];refine ⟨hs.gp aA rfl,.inr ⟨notOwn n _ b (by rw[hn];simp) aA rfl,?_⟩⟩;obtain ⟨aI,k1,k2,k3⟩:=hs.b5 (hu n _ hn);rw[aA] at k1;simp only[t7,bZ.rw.injEq,and_true] at k1;subst k1;obtain ⟨_,_,_,k4,_⟩:=k3;exact k4
  ·rw[hD2];refine ⟨hs.gp aA rfl,.inr ⟨notOwn n _ b (by rw[hn];simp) aA rfl,?_⟩⟩;obtain ⟨b',cs,T,k1,k2,_⟩:=hs.box (hu n _ hn);rw[k1] at aA;simp only[t7,bZ.aD.injEq] at aA;obtain ⟨rfl,_⟩:=aA;exact k2
  ·rw[hD2];refine ⟨hs.gp aA rfl,.inr ⟨notOwn n _ b (by rw[hn];simp) aA rfl,?_⟩⟩;obtain ⟨b',es,ck,k1,k2,_⟩:=hs.map (hu n _ hn);rw[k1] at aA;cases aA;exact k2
 have hst:iK w D w':=by
  have:=hs.fO;rw[hc] at this;exact this
 refine ⟨D2,E2,hw,e2,fun n hn=>by rw[hE2];simp[hn],⟨fun m =>?_,fun m m' e e' b g1 g2 g3 g4 =>?_⟩,?_,fun b o hd=>up2 b o (hs.cQ b o (by rw[hc];exact hd)),fun b o hd=>by rw[hD2] at hd;exact hd.1,fun b o hd hlt hno =>?_,fun m e hm hin =>?_,hst⟩
 ·cases hx:ak os m with
  |none=>simp only[de];rw[hE2];simp[al,hx]
  |some x =>
   have hm:al os m=true:=by simp[al,hx]
   obtain ⟨k1,k2,k3⟩:=h1 m x hx;have ho:=hs.bV m;rw[k1] at ho;have hl2:dV w' D' E2 w' D2 E2:=⟨up2,fun _ _ _ _ h=>h,fun _ _ _ h=>h,fun _ aI l h=>⟨aI,l,h,zz9 _,fun _=>rfl⟩,fun _ _ h=>h,fun _ _ h=>h,fun _ _ _ _ h=>h⟩
   have nD:∀ e b,E' m=some e→e.aI=some b→∀ o,D2 b o→D' b o:=fun e b he hb o hd=>down b o hd ⟨m,e,(e2 m hm).trans he,hb⟩;cases x with
   |b5 T sz es =>
    obtain ⟨aI,q1,q2,q3⟩:=ho;refine ⟨aI,(e2 m hm).trans q1,q2,?_⟩;cases aI with
    |none=>exact q3
    |some bc =>
     obtain ⟨b,cap⟩:=bc;obtain ⟨cs,pre,rest,g1,g2,g3,g4,g5,g6,g7,g8⟩:=q3;exact ⟨cs,pre,rest,by rw[←hM];exact g1,g2,g3,aL.bM hl2 _ _ (aL.dI e2 _ _ (by simpa[ah.only] using k2) g4),g5,g6,g7,fun o hd=>g8 o (nD _ b q1 rfl o hd)⟩
   |box y =>
    obtain ⟨b',cs,T,q1,q2,q3,q4,q5⟩:=ho;exact ⟨b',cs,T,(e2 m hm).trans q1,by rw[←hM];exact q2,q3,af.bM hl2 _ _ (af.dI e2 _ _ (by simpa[ah.only] using k2) q4),fun o hd=>q5 o (nD _ b' q1 rfl o hd)⟩
   |dT o =>
    obtain ⟨b',q1,q2,q3,q4,q5⟩:=ho;exact ⟨b',(e2 m hm).trans q1,by rw[←hM];exact q2,q3,q4,fun o hd=>q5 o (nD _ b' q1 rfl o hd)⟩
   |cB ks vs =>
    obtain ⟨b',es,ck,q1,q2,q3,q4,q5,q6,q7⟩:=ho;simp only[ah.only,zz4] at k2;exact ⟨b',es,ck,(e2 m hm).trans q1,by rw[←hM];exact q2,q3,q4,aK.bM hl2 _ _ (aK.dI e2 _ _ k2.1 q5),aK.bM hl2 _ _ (aK.dI e2 _ _ k2.2 q6),fun o hd=>q7 o (nD _ b' q1 rfl o hd)⟩
   |it ks vs left cur=>cases k3
   |c5 T xs =>
    obtain ⟨aI,q1,q2,q3⟩:=ho;refine ⟨aI,(e2 m hm).trans q1,q2,?_⟩;cases aI with
    |none=>exact q3
    |some bc =>
     obtain ⟨b,cap⟩:=bc;obtain ⟨cs,r,g1,g2,g3,g4,g5,g6,g7⟩:=q3;exact ⟨cs,r,by rw[←hM];exact g1,g2,g3,g4,g5,g6,fun o hd=>g7 o (nD _ b q1 rfl o hd)⟩
 ·exact hs.c4 m m' e e' b (cut m e g1).2 (cut m' e' g2).2 g3 g4
 ·rw[←hM];have:=hs.dW;rw[hc] at this ⊢;exact this
 ·rw[hD2] at hd;have hnm:¬ c.ft b:=by
    rw[hM];rintro (h | h);· omega
    ·exact hno h
  rcases hd.2 with h | h
  ·have:=hs.dc b o h hnm;rw[hc] at this;exact this
  ·exact absurd h.2 hnm
 ·rw[e2 m hin];have ho:A.o m≠none:=by
   cases hx:ak os m with
   |none=>simp[al,hx] at hin
   |some x=>rw[(h1 m x hx).1];simp
  rcases hs.dZ m e (by rw[hc];exact hm) with h | h
  ·have hob:=hs.bV m;cases hx:A.o m with
   |none=>exact absurd hx ho
   |some x=>rw[hx] at hob;exact absurd h (ua hob)
  ·exact h
theorem aW.al4{P:Program}{n:Nat}{w:World}{D:aV}{E:a6}{Y:Value→List I→List (Nat×ah)→cR→Prop}{rs:List bd}{post:cR}{fn:Func}{A:ae}{a:Act}{w':World}{D':aV}{E':a6}
  (hs:aW ⟨P,w,D,n,dG E,E,Y,none⟩ A a w' D' E') (hrs:je P fn.results.toList=some rs) (h:lB rs post A):∃ v,(results fn a.tmps).run P w'=.ok v w'∧vj w D E post v w':=by
 obtain ⟨os,xs,h1,h2,h3⟩:=h;obtain ⟨D2,E2,hw,e2,e2n,q1,q2,q3,q4,q5,q6⟩:=hs.KZ h1;have hu:eB (A.lx os) A:=fun n x hx=>by
  simp only[ae.lx] at hx;split at hx
  ·cases hx
  ·exact hx
 obtain ⟨vs,k1,k2⟩:=zi hs hu (os:=os) (E':=E2) hw e2 e2n fn.results.toList rs xs hrs h2;have hres:(results fn a.tmps).run P w'=.ok (if h:vs.toArray.size=1 then vs.toArray[0] else .tuple vs.toArray) w':=by
  rw[aoI,Sem.run_bind,Array.mapM_eq_mapM_toList,Sem.run_map,k1];rfl
 refine ⟨_,hres,D2,E2,lh xs,os,h3,?_,q1,q2,q3,q4,q5,q6⟩
 match xs,vs,k2 with
 | [x],vs,k2 =>
  simp only[aK] at k2;obtain ⟨v,rest,cs,rfl,q1,q2,rfl⟩:=k2;simpa[lh] using mW q1 q2
 | [],vs,k2 =>
  simp only[aK] at k2;subst k2;simp[lh,aY,aK]
 |x::y::xs,vs,k2 =>
  have hl:vs.length≠1:=by
   simp only[aK] at k2;obtain ⟨v,rest,cs,rfl,_,_,v2,rest2,cs2,rfl,_⟩:=k2;simp
  simp only[lh,aY];exact ⟨vs,by simp[hl],k2⟩
theorem K0{P:Program}{n:Nat}{w:World}{D:aV}{E:a6}{Y:Value→List I→List (Nat×ah)→cR→Prop}{rs:List bd}{post:cR}{fn:Func}{A:ae}{D':aV}{E':a6}(hrs:je P fn.results.toList=some rs)(h:lB rs post A) :
  ∀ (ds:List Deferred) (a:Act) (w':World),a.defers=ds→aW ⟨P,w,D,n,dG E,E,Y,none⟩ A a w' D' E'→LeavesInM Fence.wide 9 P fn a.tmps (fun e w'=>∃ v,e=.returned v∧vj w D E post v w') ds .returning w'
 | [],a,w',_,hs=>by
  obtain ⟨v,h1,h2⟩:=hs.al4 hrs h;exact ⟨v,h1,v,rfl,h2⟩
 |d::ds,a,w',hd,hs=>by
  obtain ⟨Bs,h1,_⟩:=hs.eW;rw[hd] at h1;cases Bs with
  |nil=>cases h1
  |cons B Bs =>
   simp only[zy2,List.cons.injEq] at h1;obtain ⟨rfl,rfl⟩:=h1;obtain ⟨k1,k2⟩:=hs.Wt hd;exact ⟨by simp,.inl ⟨B,_,rfl,run_takeDeferred k1,K0 hrs h _ { a with defers:=Bs.map _ } _ rfl k2⟩⟩
theorem zx{w:World}{D:aV}{E:a6} : ∀ {args:List I} {vs:List Value},aK w D E args vs→vs.length=args.length
 | [],vs,h=>by simp only[aK] at h;subst h;rfl
 |x::xs,vs,h=>by
  simp only[aK] at h;obtain ⟨v,rest,cs,rfl,_,_,h3⟩:=h;simp[zx h3]
def kQ(P:Program)(f:FuncId)(Y:Value→List I→List (Nat×ah)→cR→Prop)(args:List I)(os:List (Nat×ah))(post:cR):Prop :=
 il P f=true∧∀ (w:World) (D:aV) (E:a6) (vs:List Value),(∀ n,po ⟨P,w,D,n,dG E,E,Y,none⟩)→(∀ b o,D b o→b<w.heap.size)→lA (fun _=>True) w D E (ak os)→aK w D E args vs →
  Calls P f vs.toArray w fun e w'=>∃ v,e=.returned v∧vj w D E post v w'
theorem kQ.ub{P:Program}{f:FuncId}{fn:Func}{body:Code}{x:aN}{rs:List bd}{Y:Value→List I→List (Nat×ah)→cR→Prop}{args:List I}{os:List (Nat×ah)}{post:cR}(hf:P.funcs[f]?=some fn)(hb:fn.body=some body)(hcall:il P f=true)(hc:fk P fn.ntmps body=some x)
  (hrs:je P fn.results.toList=some rs) (hn:args.length≤fn.ntmps) (hos:∀ m,al os m=true→fn.ntmps≤m∧1000000≤m) (h:∀ (w:World) (D:aV) (E:a6),J ⟨P,w,D,fn.ntmps,dG E,E,Y,none⟩ x (oe rs post) (qz args os)):kQ P f Y args os post:=by
 refine ⟨hcall,fun w D E vs hy hD ho hv =>?_⟩;have hlen:=zx hv;have hsim:=apt (P:=P) (n:=fn.ntmps) (Y:=Y) hD ho hv (by omega) hos (hy fn.ntmps);refine (callsIn_wide (n:=9)).1 (callsIn_of_wp_marks hf hb trivial ?_);refine wpIn_mono (h w D E body hc _ w ⟨D,E,hsim⟩) ?_;rintro e a w' ⟨A,hq,D',E',hs⟩;cases e <;>simp only[oe] at hq <;>first
  |exact K0 hrs hq a.defers a w' rfl hs
  |cases hq
theorem apS{P:Program}{w:World}{D:aV}{E:a6}{n:Nat} : po ⟨P,w,D,n,dG E,E,iR,none⟩:=fun _ _ _ _ h=>h.elim
theorem cG.Lm{P:Program}{f:FuncId}{args:List I}{os:List (Nat×ah)}{post:cR}(h:kQ P f iR args os post):cG P f args os post :=
 ⟨h.1,fun w D E vs _ hD ho hv=>(h.2 w D E vs (fun _=>apS) hD ho hv).mono fun e w' ⟨v,he,D',E',r,os',k⟩=>⟨v,D',E',r,os',he,k⟩⟩
theorem aw.ant{P:Program}{f:FuncId}{args:List I}{r:I}(h:cG P f args [] (fun r' os'=>r'=r∧os'=[])):aw P f args r:=by
 refine ⟨h.1,fun w D vs hD hv =>?_⟩;have hh:lA (fun _=>True) w D dB (ak []):=⟨fun n=>rfl,fun n m e e' b h=>by simp[dB] at h⟩
 refine (h.2 w D dB vs trivial hD hh hv).mono fun e w' hq =>?_;obtain ⟨v,D',E',r',os',he,⟨h1,h2⟩,k1,k2,k3,k4,k5,k6,_⟩:=hq;subst h1 h2;refine ⟨v,D',he,?_,?_,k5,fun b o hd hlt=>k6 b o hd hlt fun ⟨n,e,h,_⟩=>by simp[dB] at h⟩
 ·have:E'=dB:=by funext n;exact k2.bV n
  rw[←this];exact k1
 ·exact k3.RM fun k hk hm=>by
   rcases hm with hm | ⟨n,e,h,_⟩
   ·omega
   ·simp[dB] at h
theorem aoY(A:ae):A.lx []=A:=rfl
theorem Om{A:ae} : ∀ {rs:List bd} {xs:List I},fo A rs=some xs→m7 A (A.lx []) [] rs xs
 | [],xs,h=>by simp only[fo,t7] at h;subst h;trivial
 |r::rs,xs,h=>by
  simp only[fo] at h;split at h
  ·rename_i x xs' h1 h2;simp only[t7] at h;subst h;refine ⟨?_,Om h2⟩;rw[aoY];cases r with
   |tmp t=>exact ⟨_,rfl,.inr h1⟩
   |cell a s =>
    simp only[uF,ux] at h1 ⊢;split at h1
    ·rename_i y hy;split at h1
     ·rename_i hok;exact ⟨y,by simp[hok],.inr h1⟩
     ·cases h1
    ·cases h1
  ·cases h
theorem aoJ{rs:List bd}{r:I}{e:Exit}{A:ae}(h:jR rs r e A):oe rs (fun r' os'=>r'=r∧os'=[]) e A:=by
 cases e <;>simp only[jR] at h <;>first
  |exact h.elim
  |(obtain ⟨xs,h1,h2⟩:=h
    exact ⟨[],xs,fun n x hx=>by simp[ak] at hx,Om h1,h2,rfl⟩)
theorem aw.ub{P:Program}{f:FuncId}{fn:Func}{body:Code}{x:aN}{rs:List bd}{args:List I}{r:I}(hf:P.funcs[f]?=some fn)(hb:fn.body=some body)(hcall:il P f=true)(hc:fk P fn.ntmps body=some x)
  (hrs:je P fn.results.toList=some rs) (hn:args.length≤fn.ntmps) (h:∀ (w:World) (D:aV) (E:a6),J ⟨P,w,D,fn.ntmps,dG E,E,iR,none⟩ x (jR rs r) (pc args)):aw P f args r:=by
 refine aw.ant (cG.Lm (kQ.ub hf hb hcall hc hrs hn (fun m hm=>by simp[al,ak] at hm) fun w D E =>?_));exact (h w D E).mono fun e B hq=>aoJ hq
end Go.Abs
namespace Go.Abs
open Go Go.RowKit
def aO(ts:List (Nat×I)):List (Nat×I)→Prop
 | []=>True
 |(k,v)::r=>bQ ts k=v∧aO ts r
def bC(os:List (Nat×ah)):List (Nat×ah)→Prop
 | []=>True
 |(k,v)::r=>ak os k=some v∧bC os r
def bx(p:Nat→Bool):List (Nat×I)→Prop
 | []=>True
 |(_,v)::r=>v.only p=true∧bx p r
theorem zM{ts:List (Nat×I)} : ∀ {ts':List (Nat×I)},aO ts ts'→∀ k,bQ ts' k=.dg∨bQ ts' k=bQ ts k
 | [],_,k=>.inl rfl
 |(j,v)::r,h,k=>by
  simp only[aO] at h;simp only[bQ];split
  ·rename_i hk;subst hk;exact .inr h.1.symm
  ·exact zM h.2 k
theorem O4{os:List (Nat×ah)} : ∀ {os':List (Nat×ah)},bC os os'→∀ k,ak os' k=none∨ak os' k=ak os k
 | [],_,k=>.inl rfl
 |(j,v)::r,h,k=>by
  simp only[bC] at h;simp only[ak];split
  ·rename_i hk;subst hk;exact .inr h.1.symm
  ·exact O4 h.2 k
theorem LB{p:Nat→Bool} : ∀ {ts:List (Nat×I)},bx p ts→∀ k,(bQ ts k).only p=true
 | [],_,k=>by simp[bQ,I.only]
 |(j,v)::r,h,k=>by
  simp only[bx] at h;simp only[bQ];split
  ·exact h.1
  ·exact LB h.2 k
theorem LA{p:Nat→Bool} : ∀ {os:List (Nat×ah)},aZ p os→∀ k x,ak os k=some x→x.only p=true
 | [],_,k,x,hx=>by simp[ak] at hx
 |(j,v)::r,h,k,x,hx=>by
  simp only[aZ] at h;simp only[ak] at hx;split at hx
  ·simp only[t7] at hx;subst hx;exact h.1
  ·exact LA h.2 k x hx
theorem az.bL{ts ts':List (Nat×I)}{os os':List (Nat×ah)}(h1:aO ts ts')(h2:bC os os')(h3:bx (al os') ts')(h4:aZ (al os') os'):az (ar ts os) (ar ts' os'):=by
 rintro c a w ⟨D,E,hs⟩;have hp:∀ n,al os' n=true→(if al os' n then E n else none)=E n:=fun n hn=>by simp[hn]
 refine ⟨D,fun n=>if al os' n then E n else none,hs.sz,hs.eW,fun t =>?_,hs.dW,hs.dc,hs.dm,fun n =>?_,fun n m e e' b h1 h2 h3 h4 =>?_,fun n e hn =>?_,hs.ff,hs.cQ,hs.fh,hs.fO⟩
 ·have:=zM h1 t;rcases this with h | h
  ·simp only[ar];rw[h];simp[aY]
  ·refine aY.dI (p:=al os') hp (LB h3 t) ?_;have:=hs.en t;simp only[ar] at *;rw[h];exact this
 ·have ho:=hs.bV n;simp only[ar] at *;rcases O4 h2 n with h | h
  ·rw[h];simp[de,al,h]
  ·rw[h];by_cases hin:ak os n=none
   ·rw[hin];simp[de,al,h,hin]
   ·have aA:(if al os' n then E n else none)=E n:=hp n (by simp[al,h];cases hh:ak os n <;>simp_all);cases hx:ak os n with
    |none=>exact absurd hx hin
    |some x =>
     have hon:=LA h4 n x (h.trans hx);rw[hx] at ho;cases x with
     |box x =>
      obtain ⟨b,cs,T,k1,k2,k3,k4,k5⟩:=ho;exact ⟨b,cs,T,aA.trans k1,k2,k3,af.dI hp _ _ (by simpa[ah.only] using hon) k4,k5⟩
     |b5 T sz es =>
      obtain ⟨aI,k1,k2,k3⟩:=ho;refine ⟨aI,aA.trans k1,k2,?_⟩;cases aI with
      |none=>exact k3
      |some bc =>
       obtain ⟨b,cap⟩:=bc;obtain ⟨cs,pre,rest,q1,q2,q3,q4,q5⟩:=k3;exact ⟨cs,pre,rest,q1,q2,q3,aL.dI hp _ _ (by simpa[ah.only] using hon) q4,q5⟩
     |c5 T xs =>
      obtain ⟨aI,k1,k2,k3⟩:=ho;exact ⟨aI,aA.trans k1,k2,k3⟩
     |dT x =>
      obtain ⟨b,k1,k2⟩:=ho;exact ⟨b,aA.trans k1,k2⟩
     |cB ks vs =>
      obtain ⟨b,es,ck,k1,k2,k3,k4,k5,k6,k7⟩:=ho;simp only[ah.only,zz4] at hon;exact ⟨b,es,ck,aA.trans k1,k2,k3,k4,aK.dI hp _ _ hon.1 k5,aK.dI hp _ _ hon.2 k6,k7⟩
     |it ks vs left cur =>
      obtain ⟨r,b,es,ck,si,se,la,k1,k2,k3,k4,k5,k6,k7⟩:=ho;simp only[ah.only,zz4] at hon;exact ⟨r,b,es,ck,si,se,la,aA.trans k1,k2,k3,k4,aK.dI hp _ _ hon.1 k5,aK.dI hp _ _ hon.2 k6,k7⟩
 ·refine hs.c4 n m e e' b ?_ ?_ h3 h4
  ·split at h1
   ·exact h1
   ·cases h1
  ·split at h2
   ·exact h2
   ·cases h2
 ·by_cases hi:al os' n=true
  ·simp only[hi,if_true];exact hs.dZ n e hn
  ·simp only[hi];exact .inl rfl
def bg:Nat→List I→List (Nat×I)
 |_,[]=>[]
 |k,a::as=>(k,a)::bg (k+1) as
theorem K8:∀ (as:List I) (k t:Nat),bQ (bg k as) t=if t<k then .dg else (as[t-k]?).getD .dg
 | [],k,t=>by simp[bg,bQ]
 |a::as,k,t=>by
  simp only[bg,bQ,K8 as (k+1) t];by_cases h:t=k
  ·subst h;simp
  ·rw[if_neg h];by_cases h2:t<k
   ·rw[if_pos (by omega),if_pos h2]
   ·rw[if_neg (by omega),if_neg h2,show t-k=(t-(k+1))+1 from by omega];simp
theorem O3(args:List I)(os:List (Nat×ah)):az (qz args os) (ar (bg 0 args) os):=by
 rintro c a w ⟨D,E,hs⟩;refine ⟨D,E,hs.sz,hs.eW,fun t =>?_,hs.dW,hs.dc,hs.dm,hs.bV,hs.c4,hs.dZ,hs.ff,hs.cQ,hs.fh,hs.fO⟩;have:=hs.en t;simp only[ar,K8,qz,Nat.not_lt_zero,if_false,Nat.sub_zero] at *;cases h:args[t]? with
 |none=>simp[aY]
 |some x=>simpa[zz2,h] using this
theorem aps(args:List I):az (pc args) (ar (bg 0 args) []):=O3 args []
theorem tQ(ts:List (Nat×I))(os:List (Nat×ah))(d:Nat)(v:I):(ar ts os).put d v=ar ((d,v)::ts) os:=rfl
theorem tR(ts:List (Nat×I))(os:List (Nat×ah))(d:Nat)(v:I):(ar ts os).aS (some d) v=ar ((d,v)::ts) os:=rfl
theorem amo(A:ae)(v:I):A.aS none v=A:=rfl
theorem l8(ts:List (Nat×I))(os:List (Nat×ah))(d:Nat)(x:ah):(ar ts os).aR d x=ar ts ((d,x)::os):=rfl
theorem amp(ts:List (Nat×I))(os:List (Nat×ah))(k:Nat):(ar ts os).t k=bQ ts k:=rfl
theorem amn(ts:List (Nat×I))(os:List (Nat×ah))(k:Nat):(ar ts os).o k=ak os k:=rfl
theorem aP(j:Nat)(v:I)(r:List (Nat×I))(k:Nat):bQ ((j,v)::r) k=if k=j then v else bQ r k:=rfl
theorem b8(j:Nat)(v:ah)(r:List (Nat×ah))(k:Nat):ak ((j,v)::r) k=if k=j then some v else ak r k:=rfl
theorem tK(k:Nat):ak [] k=none:=rfl
theorem aau(A:ae)(k:Nat):ab A (.t k)=A.t k:=rfl
theorem aas(A:ae)(x:I):ab A (.c x)=x:=rfl
noncomputable def dj(d:Option Nat)(rest:List aG)(A:ae)(v:I):cS:=aC rest (A.aS d v)
theorem alO(d:Option Nat)(rest:List aG)(A:ae)(v:I):dj d rest A v=aC rest (A.aS d v):=rfl
theorem R6(v:I)(k:I→cS):cW (some v) k=k v:=rfl
theorem Ru(A:ae):aC [] A=.done A:=rfl
noncomputable def bU(A:ae)(d:Option Nat)(op:cd)(rest:List aG):cS:=bt A d op rest (aC rest)
noncomputable def iq(x:I)(b:Bool)(d:Option Nat)(op:cd)(rest:List aG)(A:ae):cS :=
 match x with
 | .bool b'=>if b'=b then bU A d op rest else aC rest (A.aS d .undef)
 | .undef=>aC rest (A.aS d .undef)
 |_=>.fail
theorem br.guard{P:Program}{Y:Value→List I→List (Nat×ah)→cR→Prop}{dr:Bool}{K:ae→Prop}{x b:Bool}{d:Option Nat}{op:cd}{rest:List aG}{A:ae}(h1:x=b→br P Y dr K (bU A d op rest))(h2:x = !b→br P Y dr K (aC rest (A.aS d .undef))):br P Y dr K (iq (.bool x) b d op rest A):=by
 unfold iq;by_cases h:x=b
 ·simp only[if_pos h];exact h1 h
 ·simp only[if_neg h];exact h2 (by cases x <;>cases b <;>simp_all)
def I.du:I→Option (List I)
 | .agg fs=>some fs
 |_=>none
def oA(p:List Nat):Option I→Option I
 |some f=>f.at p
 |none=>none
def jG(i:Nat)(p:List Nat):Option (List I)→Option I
 |some fs=>oA p fs[i]?
 |none=>none
theorem nv(c:I):c.at []=some c:=by cases c <;>rfl
theorem RK(c:I)(i:Nat)(p:List Nat):c.at (i::p)=jG i p c.du:=by
 cases c <;>first | rfl | (rename_i fs;simp only[I.at,jG,I.du,oA])
def zA(fs:List I)(i:Nat)(p:List Nat)(v:I):Option I→I
 |some f=>.agg (fs.set i (f.dQ p v))
 |none=>.agg fs
def uL(c:I)(i:Nat)(p:List Nat)(v:I):Option (List I)→I
 |some fs=>zA fs i p v fs[i]?
 |none=>c
theorem iw(c v:I):c.dQ [] v=v:=by cases c <;>rfl
theorem aoZ(c:I)(i:Nat)(p:List Nat)(v:I):c.dQ (i::p) v=uL c i p v c.du:=by
 cases c <;>first | rfl | (rename_i fs;simp only[I.dQ,uL,I.du];cases fs[i]? <;>rfl)
def eY(p:List Nat):Option ah→Option I
 |some (.box c)=>c.at p
 |_=>none
def gW(A:ae):I→Option I
 | .ref x=>some x
 | .ptr n p=>eY p (A.o n)
 |_=>none
theorem lO(A:ae)(x:I):cC A x=gW A x:=by
 cases x <;>first | rfl | (rename_i n p;simp only[cC,gW];cases A.o n with | none=>rfl | some y=>cases y <;>rfl)
def dF(s:Option Nat)(x:I):Option I:=if ca s x=true then some x else none
def ic(s:Option Nat):Option I→Option I
 |some x=>dF s x
 |none=>none
open Classical in
noncomputable def dM(fs:List I)(f off:Nat)(y:I):Option I:=if f<fs.length∧I.sizes (fs.take f)=off then some y else none
noncomputable def qV(n:Nat)(p:List Nat)(f off:Nat):Option (List I)→Option I
 |some fs=>dM fs f off (.ptr n (p++[f]))
 |none=>none
noncomputable def pM(fs:List I)(f off:Nat):Option I→Option I
 |some v=>dM fs f off (.ref v)
 |none=>none
noncomputable def qW(f off:Nat):Option (List I)→Option I
 |some fs=>pM fs f off fs[f]?
 |none=>none
def fA:Option I→Option (List I)
 |some x=>x.du
 |none=>none
noncomputable def lT(A:ae)(f off:Nat):I→Option I
 | .ref c=>qW f off c.du
 | .ptr n p=>qV n p f off (fA (eY p (A.o n)))
 |_=>none
theorem aoh(A:ae)(f off:Nat)(x:aM):bF A (.fa f off x)=lT A f off (ab A x):=by
 simp only[bF];generalize ab A x=y;cases y with
 |ref c =>
  cases c <;>simp only[lT,I.du,qW]
  rename_i fs;cases h:fs[f]? with
  |none=>simp[pM]
  |some v =>
   have hl:f<fs.length:=(zy6.1 h).1;simp only[pM,dM,hl,true_and]

 |ptr n p =>
  simp only[lT,lO,gW];cases eY p (A.o n) with
  |none=>simp[fA,qV]
  |some c =>
   cases c <;>simp only[fA,I.du,qV]
   simp only[dM]

 |_=>simp only[lT]
noncomputable def ta(f off:Nat)(s:Option Nat):Option (List I)→Option I
 |some fs=>match fs[f]? with
  |some v=>(dM fs f off v).bind (dF s)
  |none=>none
 |none=>none
theorem aoi(A:ae)(f off:Nat)(s:Option Nat)(x:aM):bF A (.fl f off s x)=ta f off s (ab A x).du:=by
 simp only[bF];generalize ab A x=y;cases y <;>simp only[ta,I.du]
 rename_i fs;cases h:fs[f]? with
 |none=>rfl
 |some v =>
  have hl:f<fs.length:=(zy6.1 h).1;simp only[dM,hl,true_and];by_cases h1:I.sizes (fs.take f)=off <;>by_cases h2:ca s v=true <;>simp[h1,h2,dF]
open Classical in
noncomputable def jk(k:Int)(n:Nat)(y:Option I):Option I:=if 0≤k∧k<n then y else none
noncomputable def jj(n esz:Nat)(fs:List I)(y:Option I):Option I:=if iQ n esz fs=true then y else none
noncomputable def ri(n esz:Nat)(k:Int):Option (List I)→Option I
 |some fs=>jj n esz fs ((fs[k.toNat]?).map .ref)
 |none=>none
noncomputable def rh(n esz m:Nat)(p:List Nat)(k:Int):Option (List I)→Option I
 |some fs=>jj n esz fs (some (.ptr m (p++[k.toNat])))
 |none=>none
noncomputable def oJ(A:ae)(n esz:Nat)(k:Int):I→Option I
 | .ref c=>jk k n (ri n esz k c.du)
 | .ptr m p=>jk k n (rh n esz m p k (fA (eY p (A.o m))))
 |_=>none
noncomputable def rf(A:ae)(n esz:Nat)(x:I):I→Option I
 | .int _ k=>oJ A n esz k x
 |_=>none
theorem aoj(A:ae)(n esz:Nat)(x i:aM):bF A (.ia n esz x i)=rf A n esz (ab A x) (ab A i):=by
 simp only[bF];generalize ab A x=y;generalize ab A i=z;cases z <;>simp only[rf]
 rename_i kk k;cases y with
 |ref c =>
  simp only[oJ,jk];split
  ·cases c <;>simp only[I.du,ri,jj]
  ·rfl
 |ptr m p =>
  simp only[oJ,jk,lO,gW];split
  ·cases eY p (A.o m) with
   |none=>simp[fA,rh]
   |some c=>cases c <;>simp only[fA,I.du,rh,jj]
  ·rfl
 |_=>simp only[oJ];split <;>rfl
open Classical in
noncomputable def jn(m:Nat)(p:List Nat)(sz lo l esz:Nat)(k:Int):Option (List I)→Option I
 |some _=>if sz=esz∧0≤k∧k<l then some (.ptr m (p++[lo+k.toNat])) else none
 |none=>none
open Classical in
noncomputable def jl(A:ae)(esz:Nat)(k:Int):I→Option I
 | .slice sz es=>if sz=esz∧0≤k∧k<es.length then (es[k.toNat]?).map .ref else none
 | .own m l=>match A.o m with
  |some (.b5 _ sz es)=>if l=es.length∧sz=esz∧0≤k∧k<es.length then (es[k.toNat]?).map .ref else none
  |_=>none
 | .view m p sz lo l=>jn m p sz lo l esz k (fA (eY p (A.o m)))
 |_=>none
noncomputable def lX(A:ae)(esz:Nat)(x:I):I→Option I
 | .int _ k=>jl A esz k x
 |_=>none
theorem aok(A:ae)(esz:Nat)(x i:aM):bF A (.is esz x i)=lX A esz (ab A x) (ab A i):=by
 simp only[bF];generalize ab A x=y;generalize ab A i=z;cases z <;>simp only[lX]
 cases y <;>simp only[jl]
 ·split <;>simp_all
 ·rename_i m p sz lo l;simp only[lO,gW];cases eY p (A.o m) with
  |none=>rfl
  |some c=>cases c <;>simp only[fA,I.du,jn]
noncomputable def rn(n esz:Nat)(s:Option Nat)(k:Int):Option (List I)→Option I
 |some fs=>jk k n (jj n esz fs (ic s fs[k.toNat]?))
 |none=>none
noncomputable def rp(n esz:Nat)(s:Option Nat)(x:I):I→Option I
 | .int _ k=>rn n esz s k x.du
 |_=>none
theorem aol(A:ae)(n esz:Nat)(s:Option Nat)(x i:aM):bF A (.ix n esz s x i)=rp n esz s (ab A x) (ab A i):=by
 simp only[bF];generalize ab A x=y;generalize ab A i=z;cases z <;>simp only[rp]
 rename_i kk k;cases y <;>simp only[I.du,rn]
 case agg fs =>
  simp only[jk,jj];split
  ·split
   ·cases fs[k.toNat]? <;>rfl
   ·rfl
  ·rfl
 all_goals (split <;>rfl)
def kD(A:ae):I→Option I
 | .slice _ es=>some (.int .i64 es.length)
 | .nils _=>some (.int .i64 0)
 | .c0 _=>some (.int .i64 0)
 | .own m l=>match A.o m with | some (.b5 _ _ es)=>if l=es.length then some (.int .i64 es.length) else none | _=>none
 | .view _ _ _ _ k=>some (.int .i64 k)
 |_=>none
theorem aon(A:ae)(x:aM):bF A (.len x)=kD A (ab A x):=by
 simp only[bF];generalize ab A x=y;cases y <;>rfl
open Classical in
noncomputable def pf(n esz:Nat)(fs:List I)(y:I):Option I:=if iQ n esz fs=true∧n≤maxLen∧n≠0 then some y else none
noncomputable def r4(n esz m:Nat)(p:List Nat):Option (List I)→Option I
 |some fs=>pf n esz fs (.view m p esz 0 n)
 |none=>none
noncomputable def Pe(n esz:Nat):Option (List I)→Option I
 |some fs=>pf n esz fs (.slice esz fs)
 |none=>none
noncomputable def pd(A:ae)(n esz:Nat):I→Option I
 | .ptr m p=>r4 n esz m p (fA (eY p (A.o m)))
 | .ref c=>Pe n esz c.du
 |_=>none
theorem aop(A:ae)(n esz:Nat)(x:aM):bF A (.va n esz x)=pd A n esz (ab A x):=by
 simp only[bF];generalize ab A x=y;cases y with
 |ptr m p =>
  simp only[pd,lO,gW];cases eY p (A.o m) with
  |none=>simp[fA,r4]
  |some c=>cases c <;>simp only[fA,I.du,r4,pf] <;>(split <;>simp_all)
 |ref c=>cases c <;>simp only[pd,I.du,Pe,pf] <;>(split <;>simp_all)
 |_=>simp only[pd]
theorem aom(A:ae)(s:Option Nat)(x:aM):bF A (.ld s x)=ic s (gW A (ab A x)):=by
 simp only[bF,lO];cases gW A (ab A x) <;>simp only[ic,dF]
noncomputable def rK(A:ae)(d:Option Nat)(a b:aM)(rest:List aG):I→cS
 | .bool t=>aC rest (A.aS d (if t then ab A a else ab A b))
 |_=>.fail
noncomputable def r3(op:UnOp)(x:I):Option I:=match op,x with
  | .not,.bool b=>some (.bool !b)
  | .neg,.int k n=>some (.int k (k.wrap (0-n)))
  | .xor,.int k n=>some (.int k (pH k n))
  |_,_=>none
def wv(i:Nat):I→Option I
 | .tuple fs=>fs[i]?
 |_=>none
def vV(k:IntKind):I→Option I
 | .int _ n=>some (.int k (k.wrap n))
 |_=>none
noncomputable def vm(A:ae)(d:Nat)(z:I)(rest:List aG):Option ah→cS
 |none=>aC rest ((A.aR d (.box z)).put d (.ptr d []))
 |some _=>.fail
noncomputable def sJ(A:ae)(d:Nat)(z:I)(rest:List aG)(v:Bool):cS:=if v=true then aC rest ((A.aR d (.box z)).put d (.ptr d [])) else .fail
noncomputable def sI(A:ae)(d:Nat)(z:I)(rest:List aG):Option ah→cS
 |none=>sJ A d z rest z.cu
 |some _=>.fail
open Classical in
noncomputable def dx(A:ae)(s:Option Nat)(n:Nat)(p:List Nat)(b v:I)(rest:List aG):Option I→cS
 |some old=>if yM s v old then aC rest (A.aR n (.box (b.dQ p v))) else .fail
 |none=>.fail
noncomputable def uP(A:ae)(s:Option Nat)(n:Nat)(p:List Nat)(v:I)(rest:List aG):Option ah→cS
 |some (.box b)=>dx A s n p b v rest (b.at p)
 |_=>.fail
noncomputable def uO(A:ae)(s:Option Nat)(v:I)(rest:List aG):I→cS
 | .ptr n p=>uP A s n p v rest (A.o n)
 |_=>.fail
noncomputable def sM(A:ae)(d:Option Nat)(args:List I)(rest:List aG):I→cS
 | .func f caps=>.call f (args++caps) (b7 true A (args++caps)) (b7 false A (args++caps)) d rest A
 | .raw v=>.pE v args d rest A
 |_=>.fail
section
variable (d:Option Nat) (rest:List aG) (A:ae)
theorem Ra(op:cd):aC (⟨d,op,none⟩::rest) A=bU A d op rest:=rfl
theorem Rb(op:cd)(t:Nat)(b:Bool):aC (⟨d,op,some (t,b)⟩::rest) A=iq (A.t t) b d op rest A:=rfl
theorem akP(op:cd):iq (.bool true) true d op rest A=bU A d op rest:=by simp[iq]
theorem akM(op:cd):iq (.bool false) false d op rest A=bU A d op rest:=by simp[iq]
theorem akO(op:cd):iq (.bool true) false d op rest A=aC rest (A.aS d .undef):=by simp[iq]
theorem akN(op:cd):iq (.bool false) true d op rest A=aC rest (A.aS d .undef):=by simp[iq]
theorem akQ(op:cd)(b:Bool):iq .undef b d op rest A=aC rest (A.aS d .undef):=rfl
theorem ang(x:aM):bU A d (.mv x) rest=aC rest (A.aS d (ab A x)):=rfl
theorem ank(c a b:aM):bU A d (.pick c a b) rest=rK A d a b rest (ab A c):=by
 simp only[bU,bt,bF];cases ab A c <;>simp only[cW,rK]
theorem amQ(op:BinOp)(x y:aM):bU A d (.bin op x y) rest=cW (cO op (ab A x) (ab A y)) (dj d rest A):=rfl
theorem am0(ty:cU)(neg:Bool)(x y:aM):bU A d (.eqv ty neg x y) rest=cW ((cn ty (ab A x) (ab A y)).map fun b=>.bool (if neg then !b else b)) (dj d rest A):=rfl
theorem anp(op:UnOp)(x:aM):bU A d (.un op x) rest=cW (r3 op (ab A x)) (dj d rest A):=rfl
theorem amY(k:IntKind)(x:aM):bU A d (.conv k x) rest=cW (vV k (ab A x)) (dj d rest A):=by
 simp only[bU,bt,bF];cases ab A x <;>rfl
theorem am7(s:Option Nat)(x:aM):bU A d (.ld s x) rest=cW (ic s (gW A (ab A x))) (dj d rest A):=by rw[←aom];rfl
theorem am2(f off:Nat)(x:aM):bU A d (.fa f off x) rest=cW (lT A f off (ab A x)) (dj d rest A):=by rw[←aoh];rfl
theorem am3(f off:Nat)(s:Option Nat)(x:aM):bU A d (.fl f off s x) rest=cW (ta f off s (ab A x).du) (dj d rest A):=by rw[←aoi];rfl
theorem am4(n esz:Nat)(x i:aM):bU A d (.ia n esz x i) rest=cW (rf A n esz (ab A x) (ab A i)) (dj d rest A):=by rw[←aoj];rfl
theorem am5(esz:Nat)(x i:aM):bU A d (.is esz x i) rest=cW (lX A esz (ab A x) (ab A i)) (dj d rest A):=by rw[←aok];rfl
theorem am6(n esz:Nat)(s:Option Nat)(x i:aM):bU A d (.ix n esz s x i) rest=cW (rp n esz s (ab A x) (ab A i)) (dj d rest A):=by rw[←aol];rfl
theorem am8(x:aM):bU A d (.len x) rest=cW (kD A (ab A x)) (dj d rest A):=by rw[←aon];rfl
theorem anq(n esz:Nat)(x:aM):bU A d (.va n esz x) rest=cW (pd A n esz (ab A x)) (dj d rest A):=by rw[←aop];rfl
theorem amR(zs:List I)(ps:List (Nat×aM)):bU A d (.bld zs ps) rest=cW ((eP zs (ps.map fun p=>(p.1,ab A p.2))).map .agg) (dj d rest A):=rfl
theorem am1(x:aM)(i:Nat):bU A d (.ext x i) rest=cW (wv i (ab A x)) (dj d rest A):=by
 simp only[bU,bt,bF];cases ab A x <;>rfl
theorem anb(f:FuncId)(caps:List aM):bU A d (.mk f caps) rest=cW (if ((caps.map (ab A)).all fun y=>y.cu)=true then some (.func f (caps.map (ab A))) else none) (dj d rest A):=rfl
theorem amO(d:Nat)(z:I):bU A (some d) (.alloc z) rest=vm A d z rest (A.o d):=by
 simp only[bU,bt];cases A.o d <;>rfl
theorem amS(d:Nat)(x:aM):bU A (some d) (.box x) rest=sI A d (ab A x) rest (A.o d):=by
 simp only[bU,bt];cases A.o d <;>simp only[sI,sJ]
theorem ano(s:Option Nat)(x v:aM):bU A none (.bA s x v) rest=uO A s (ab A v) rest (ab A x):=by
 simp only[bU,bt];cases ab A x <;>simp only[uO]
 rename_i n p;cases A.o n with
 |none=>rfl
 |some y =>
  cases y <;>simp only[uP]
  rename_i b;cases b.at p <;>simp only[dx]
theorem amU(f:FuncId)(args:List aM):bU A d (.call f args) rest=.call f (args.map (ab A)) (b7 true A (args.map (ab A))) (b7 false A (args.map (ab A))) d rest A:=rfl
theorem amV(x:aM)(args:List aM):bU A d (.eH x args) rest=sM A d (args.map (ab A)) rest (ab A x):=by
 simp only[bU,bt];cases ab A x <;>rfl
end
end Go.Abs
namespace Go.Abs
open Go Go.RowKit
mutual
/-- Closed,and as a result is told: no nil slice but as the empty one. -/
def I.done:I→Bool
 | .agg fs=>I.eI fs
 | .slice _ es=>I.b6 es
 | .ref x=>x.bu
 | .func _ caps=>I.eI caps
 | .iface _ v=>v.bu
 | .c6 ks vs=>I.b6 ks&&I.b6 vs
 | .bool _ | .int _ _ | .c8 _ | .nilp | .dv | .ea | .raw _=>true
 |_=>false
def I.eI:List I→Bool
 | []=>true
 |x::xs=>x.done&&I.eI xs
end
mutual
theorem vZ:∀ x:I,x.done=true→x.bu=true
 | .agg fs,h=>by simp only[I.done,I.bu] at *;exact kv fs h
 | .slice _ es,h=>by simpa only[I.done,I.bu] using h
 | .ref x,h=>by simpa only[I.done,I.bu] using h
 | .func _ caps,h=>by simp only[I.done,I.bu] at *;exact kv caps h
 | .iface _ v,h=>by simpa only[I.done,I.bu] using h
 | .bool _,_ | .int _ _,_ | .c8 _,_ | .nilp,_ | .dv,_ | .ea,_ | .raw _,_=>by simp[I.bu]
 | .c6 _ _,h=>by simpa only[I.done,I.bu] using h
 | .nils _,h | .c0 _,h | .ptr _ _,h | .own _ _,h | .view _ _ _ _ _,h | .mref _,h | .dE _,h | .undef,h | .dg,h | .tuple _,h=>by simp[I.done] at h
theorem kv:∀ xs:List I,I.eI xs=true→I.b6 xs=true
 | [],_=>rfl
 |x::xs,h=>by
  simp only[I.eI,I.b6,zz4] at *;exact ⟨vZ x h.1,kv xs h.2⟩
end
mutual
theorem EA(aD:Bool)(A:ae):∀ x:I,x.done=true→bl aD A x=some x
 | .agg fs,h=>by simp only[I.done,bl] at *;rw[j7 aD A fs h];rfl
 | .slice _ es,h=>by simp only[I.done] at h;simp[bl,h]
 | .ref x,h=>by simp only[I.done] at h;simp[bl,h]
 | .func _ caps,h=>by simp only[I.done,bl] at *;rw[j7 aD A caps h];rfl
 | .iface _ v,h=>by simp only[I.done] at h;simp[bl,h]
 | .bool _,_ | .int _ _,_ | .c8 _,_ | .nilp,_ | .dv,_ | .ea,_ | .raw _,_=>by simp[bl]
 | .c6 _ _,h=>by simp only[I.done] at h;simp[bl,h]
 | .nils _,h | .c0 _,h | .ptr _ _,h | .own _ _,h | .view _ _ _ _ _,h | .mref _,h | .dE _,h | .undef,h | .dg,h | .tuple _,h=>by simp[I.done] at h
theorem j7(aD:Bool)(A:ae):∀ xs:List I,I.eI xs=true→b7 aD A xs=some xs
 | [],_=>by simp[b7]
 |x::xs,h=>by
  simp only[I.eI,zz4] at h;simp only[b7,EA aD A x h.1,j7 aD A xs h.2]
end
theorem Z5{x:I}(h:x.done=true):x.cu=true:=by cases x <;>simp_all[I.done,I.cu]
class Enc (α:Type) where
 enc:α→I
 sz:Nat
 aU:cY
 gb:Bool
 done:∀ x,(enc x).done=true
 size:∀ x,(enc x).size=sz
 jT:∀ x,(enc x).aU=aU
 agg:∀ x,(enc x).isAgg=gb
open Enc (enc)
instance:Enc Int where
 enc n:=.int .i64 n
 sz:=1
 aU:=.one
 gb:=false
 done _:=rfl
 size _:=by simp[I.size]
 jT _:=by simp[I.aU]
 agg _:=rfl
instance:Enc Bool where
 enc b:=.bool b
 sz:=1
 aU:=.one
 gb:=false
 done _:=rfl
 size _:=by simp[I.size]
 jT _:=by simp[I.aU]
 agg _:=rfl
theorem jZ{α:Type}[Enc α](l:List α):I.b6 (l.map enc)=true:=by
 induction l with
 |nil=>rfl
 |cons x l ih=>simp only[zy2,I.b6,vZ _ (Enc.done x),ih,zw4]
theorem Z6{α:Type}[Enc α](l:List α):I.eI (l.map enc)=true:=by
 induction l with
 |nil=>rfl
 |cons x l ih=>simp only[zy2,I.eI,Enc.done x,ih,zw4]
theorem ao3{α:Type}[Enc α](l:List α):I.sizes (l.map enc)=l.length*Enc.sz α:=by
 rw[I.iY (sz:=Enc.sz α) _ (by simp only[zw5];rintro x ⟨y,_,rfl⟩;exact Enc.size y)];simp
theorem rV{α:Type}[Enc α](l:List α):I.cX (l.map enc)=List.replicate l.length (Enc.aU α):=by
 induction l with
 |nil=>rfl
 |cons x l ih=>simp only[zy2,I.cX,Enc.jT x,ih,List.length_cons,List.replicate_succ]
instance {α:Type} [Enc α]:Enc (List α) where
 enc l:=.slice (Enc.sz α) (l.map enc)
 sz:=1
 aU:=.one
 gb:=false
 done l:=by simp only[I.done];exact jZ l
 size _:=by simp[I.size]
 jT _:=by simp[I.aU]
 agg _:=rfl
structure bG (n:Nat) (α:Type) where
 l:List α
 h:l.length=n
instance {n:Nat} {α:Type} [Enc α]:Enc (bG n α) where
 enc x:=.agg (x.l.map enc)
 sz:=n*Enc.sz α
 aU:=.ej (List.replicate n (Enc.aU α))
 gb:=true
 done x:=by simp only[I.done];exact Z6 x.l
 size x:=by simp only[I.size,ao3,x.h]
 jT x:=by simp only[I.aU,rV,x.h]
 agg _:=rfl
section
variable {α:Type} [Enc α]
theorem ev(aD:Bool)(A:ae)(x:α):bl aD A (enc x)=some (enc x):=EA aD A _ (Enc.done x)
theorem dL(x:α):(enc x).bu=true:=vZ _ (Enc.done x)
theorem bh(p:Nat→Bool)(x:α):(enc x).only p=true:=kd p _ (dL x)
theorem dO(x:α):(enc x).cu=true:=Z5 (Enc.done x)
theorem kW(x:α):ca none (enc x) = !(Enc.gb α):=by simp[ca,Enc.agg]
theorem gq(n:Nat)(x:α):ca (some n) (enc x)=(Enc.gb α&&Enc.sz α==n):=by simp[ca,Enc.agg,Enc.size]
theorem iD(x:α):(enc x).size=Enc.sz α:=Enc.size x
theorem eL(x:α):(enc x).aU=Enc.aU α:=Enc.jT x
theorem ga(n:Int):(enc n:I)=.int .i64 n:=rfl
theorem we(n:Bool):(enc n:I)=.bool n:=rfl
theorem gB(l:List α):(enc l:I)=.slice (Enc.sz α) (l.map enc):=rfl
theorem mK:Enc.sz Int=1:=rfl
theorem mJ(n:Nat):Enc.sz (bG n α)=n*Enc.sz α:=rfl
theorem qS:Enc.sz (List α)=1:=rfl
theorem wh(n:Nat):Enc.gb (bG n α)=true:=rfl
theorem nF:Enc.gb (List α)=false:=rfl
theorem wj:Enc.aU Int=.one:=rfl
theorem Ed:Enc.aU (List α)=.one:=rfl
theorem wi(n:Nat):Enc.aU (bG n α)=.ej (List.replicate n (Enc.aU α)):=rfl
theorem wu(n esz:Nat)(l:List α)(h:l.length=n)(h2:Enc.sz α=esz):iQ n esz (l.map enc)=true:=by
 simp only[iQ,zy3,h,BEq.rfl,Bool.true_and,zx9,zw5];rintro x ⟨y,_,rfl⟩;simp[Enc.size,h2]
theorem Rq(l:List α):∀ x∈l.map (enc (α:=α)),x.size=Enc.sz α:=by
 simp only[zw5];rintro x ⟨y,_,rfl⟩;exact Enc.size y
end
theorem cL(n:Int)(h1:-9223372036854775808≤n)(h2:n≤9223372036854775807):IntKind.i64.wrap n=n:=IntWalk.i64_in n ⟨h1,h2⟩
theorem aw.mk{P:Program}{f:FuncId}{fn:Func}{x:aN}{rs:List bd}{args:List I}{r:I}(hf:P.funcs[f]?=some fn)(hcall:il P f=true)(hc:(fn.body.bind (fk P fn.ntmps))=some x)
  (hrs:je P fn.results.toList=some rs) (hn:args.length≤fn.ntmps) (h:∀ (w:World) (D:aV) (E:a6),J ⟨P,w,D,fn.ntmps,dG E,E,iR,none⟩ x (jR rs r) (ar (bg 0 args) [])):aw P f args r:=by
 obtain ⟨body,hb,hc'⟩:=Option.bind_eq_some_iff.1 hc;exact aw.ub hf hb hcall hc' hrs hn (fun w D E=>(h w D E).sub (aps args))
end Go.Abs
namespace Go.Abs
open Go Go.RowKit
open Enc (enc)
def ai(x:I)(p q:Prop):Prop:=match x with
 | .bool t=>(t=true→p)∧(t=false→q)
 |_=>False
theorem J.bP{c:cT}{A:ae}{Q:Exit→ae→Prop}{b:aM}{x y:aN}(h:ai (ab A b) (J c x Q A) (J c y Q A)):J c (.cond b x y) Q A:=by
 generalize hb:ab A b=v at h;unfold ai at h;split at h
 ·exact J.cond hb h.1 h.2
 ·exact h.elim
def og(r:I):Option (List I)→Prop
 |some xs=>lh xs=r
 |none=>False
theorem aoL(rs:List bd)(r:I)(A:ae):jR rs r .ret A=og r (fo A rs):=by
 simp only[jR,og];cases fo A rs <;>simp
theorem aoK(rs:List bd)(r:I)(A:ae):jR rs r .normal A=og r (fo A rs):=by
 simp only[jR,og];cases fo A rs <;>simp
def rT(s:Option Nat)(A:ae):Option I→Option I
 |some x=>if ca s x=true then bl true A x else none
 |none=>none
def lM:Option I→Option (List I)→Option (List I)
 |some x,some xs=>some (x::xs)
 |_,_=>none
theorem aoE(A:ae):fo A []=some []:=rfl
theorem aoF(A:ae)(t:Nat)(rs:List bd):fo A (.tmp t::rs)=lM (bl true A (A.t t)) (fo A rs):=by
 simp only[fo,uF];cases bl true A (A.t t) <;>cases fo A rs <;>rfl
theorem aoD(A:ae)(a:Nat)(s:Option Nat)(rs:List bd):fo A (.cell a s::rs)=lM (rT s A (gW A (A.t a))) (fo A rs):=by
 simp only[fo,uF,lO];cases gW A (A.t a) with
 |none=>cases fo A rs <;>rfl
 |some x =>
  by_cases h:ca s x=true
  ·simp only[rT,if_pos h];cases bl true A x <;>cases fo A rs <;>rfl
  ·simp only[rT,if_neg h];cases fo A rs <;>rfl
def sX(aD:Bool)(A:ae):Option I→Option I
 |some x=>if x.bu=true then some (.ref x) else (dD A 9 x).map .ref
 |none=>none
theorem aaU(A:ae)(n:Nat)(p:List Nat):bl true A (.ptr n p)=sX true A (eY p (A.o n)):=by
 simp only[bl,lO,gW,if_true,sX];cases eY p (A.o n) <;>rfl
open Classical in
noncomputable def j6(sz lo k:Nat):Option (List I)→Option I
 |some fs=>if I.b6 ((fs.drop lo).take k)=true then some (.slice sz ((fs.drop lo).take k)) else none
 |none=>none
theorem EE(A:ae)(n:Nat)(p:List Nat)(sz lo k:Nat):bl true A (.view n p sz lo k)=j6 sz lo k (fA (eY p (A.o n))):=by
 simp only[bl,lO,gW,if_true];cases eY p (A.o n) with
 |none=>rfl
 |some c=>cases c <;>simp only[fA,I.du,j6] <;>(split <;>simp_all)
open Classical in
noncomputable def oF(k:Nat):Option ah→Option I
 |some (.b5 _ sz es)=>if k=es.length∧I.b6 es=true then some (.slice sz es) else none
 |_=>none
theorem aaT(aD:Bool)(A:ae)(n k:Nat):bl aD A (.own n k)=oF k (A.o n):=by
 simp only[bl];cases A.o n with
 |none=>rfl
 |some y=>cases y <;>simp only[oF] <;>(split <;>simp_all)
theorem aaM(aD:Bool)(A:ae)(fs:List I):bl aD A (.agg fs)=(b7 aD A fs).map .agg:=by simp only[bl]
theorem aaO(aD:Bool)(A:ae)(f:FuncId)(fs:List I):bl aD A (.func f fs)=(b7 aD A fs).map (.func f):=by simp only[bl]
theorem aaP(aD:Bool)(A:ae)(k:IntKind)(n:Int):bl aD A (.int k n)=some (.int k n):=by simp only[bl]
theorem aaN(aD:Bool)(A:ae)(n:Bool):bl aD A (.bool n)=some (.bool n):=by simp only[bl]
theorem aaX(aD:Bool)(A:ae)(n:ByteArray):bl aD A (.c8 n)=some (.c8 n):=by simp only[bl]
theorem aaS(aD:Bool)(A:ae)(n:Nat):bl aD A (.nils n)=some (.slice n []):=by simp only[bl]
theorem aaW(aD:Bool)(A:ae)(n:Nat)(es:List I):bl aD A (.slice n es)=if I.b6 es=true then some (.slice n es) else none:=by simp only[bl]
theorem aaV(aD:Bool)(A:ae)(x:I):bl aD A (.ref x)=if x.bu=true then some (.ref x) else none:=by simp only[bl]
theorem aa0(aD:Bool)(A:ae):b7 aD A []=some []:=by simp only[b7]
theorem aaZ(aD:Bool)(A:ae)(x:I)(xs:List I):b7 aD A (x::xs)=lM (bl aD A x) (b7 aD A xs):=by
 simp only[b7];cases bl aD A x <;>cases b7 aD A xs <;>rfl
theorem Wu(fs:List I):(I.agg fs).bu=I.b6 fs:=by simp only[I.bu]
theorem WA(n:Nat)(fs:List I):(I.slice n fs).bu=I.b6 fs:=by simp only[I.bu]
theorem Wz(x:I):(I.ref x).bu=x.bu:=by simp only[I.bu]
theorem Wy(k:IntKind)(n:Int):(I.int k n).bu=true:=by simp only[I.bu]
theorem Wv(n:Bool):(I.bool n).bu=true:=by simp only[I.bu]
theorem WB(n:ByteArray):(I.c8 n).bu=true:=by simp only[I.bu]
theorem Ww(f:FuncId)(fs:List I):(I.func f fs).bu=I.b6 fs:=by simp only[I.bu]
theorem WE:I.b6 []=true:=by simp only[I.b6]
theorem WC(x:I)(xs:List I):I.b6 (x::xs)=(x.bu&&I.b6 xs):=by simp only[I.b6]
theorem RO(k:IntKind)(a b:Int):cO .add (.int k a) (.int k b)=some (.int k (k.wrap (a+b))):=by simp[cO]
theorem R4(k:IntKind)(a b:Int):cO .sub (.int k a) (.int k b)=some (.int k (k.wrap (a-b))):=by simp[cO]
theorem RW(k:IntKind)(a b:Int):cO .mul (.int k a) (.int k b)=some (.int k (k.wrap (a*b))):=by simp[cO]
theorem R0(k:IntKind)(a b:Int):cO .quo (.int k a) (.int k b)=if b=0 then none else some (.int k (k.wrap (a.tdiv b))):=by simp[cO]
theorem R1(k:IntKind)(a b:Int):cO .rem (.int k a) (.int k b)=if b=0 then none else some (.int k (a.tmod b)):=by simp[cO]
theorem RP(k:IntKind)(a b:Int):cO .and (.int k a) (.int k b)=some (.int k (k.wrap ((BitVec.ofInt k.bits a &&& BitVec.ofInt k.bits b).toNat:Int))):=by simp[cO]
theorem RZ(k:IntKind)(a b:Int):cO .or (.int k a) (.int k b)=some (.int k (k.wrap ((BitVec.ofInt k.bits a ||| BitVec.ofInt k.bits b).toNat:Int))):=by simp[cO]
theorem R5(k:IntKind)(a b:Int):cO .xor (.int k a) (.int k b)=some (.int k (k.wrap ((BitVec.ofInt k.bits a ^^^ BitVec.ofInt k.bits b).toNat:Int))):=by simp[cO]
theorem RQ(k:IntKind)(a b:Int):cO .andNot (.int k a) (.int k b)=some (.int k (k.wrap ((BitVec.ofInt k.bits a &&& ~~~ BitVec.ofInt k.bits b).toNat:Int))):=by simp[cO]
theorem R2(k k':IntKind)(a b:Int):cO .shl (.int k a) (.int k' b)=if 0≤b then some (.int k (k.wrap (a*2^(min b.toNat k.bits)))) else none:=by simp[cO]
theorem R3(k k':IntKind)(a b:Int):cO .shr (.int k a) (.int k' b)=if 0≤b then some (.int k (a.fdiv (2^(min b.toNat k.bits)))) else none:=by simp[cO]
theorem RR(k:IntKind)(a b:Int):cO .eql (.int k a) (.int k b)=some (.bool (a==b)):=by simp[cO]
theorem RX(k:IntKind)(a b:Int):cO .neq (.int k a) (.int k b)=some (.bool (a != b)):=by simp[cO]
theorem RV(k:IntKind)(a b:Int):cO .lss (.int k a) (.int k b)=some (.bool (decide (a<b))):=by simp[cO]
theorem RU(k:IntKind)(a b:Int):cO .leq (.int k a) (.int k b)=some (.bool (decide (a≤b))):=by simp[cO]
theorem RT(k:IntKind)(a b:Int):cO .gtr (.int k a) (.int k b)=some (.bool (decide (b<a))):=by simp[cO]
theorem RS(k:IntKind)(a b:Int):cO .geq (.int k a) (.int k b)=some (.bool (decide (b≤a))):=by simp[cO]
theorem pq :
  (∀ ts os d v,(ar ts os).put d v=ar ((d,v)::ts) os)∧(∀ ts os d v,(ar ts os).aS (some d) v=ar ((d,v)::ts) os)∧(∀ (A:ae) v,A.aS none v=A) ∧
  (∀ ts os d x,(ar ts os).aR d x=ar ts ((d,x)::os))∧(∀ ts os k,(ar ts os).t k=bQ ts k)∧(∀ ts os k,(ar ts os).o k=ak os k) ∧
  (∀ j v r k,bQ ((j,v)::r) k=if k=j then v else bQ r k)∧(∀ j v r k,ak ((j,v)::r) k=if k=j then some v else ak r k)∧(∀ k,ak [] k=none) ∧
  (∀ A k,ab A (.t k)=A.t k)∧(∀ A x,ab A (.c x)=x)∧(∀ d rest A v,dj d rest A v=aC rest (A.aS d v))∧(∀ v k,cW (some v) k=k v)∧(∀ A,aC [] A=.done A) :=
 ⟨tQ,tR,amo,l8,amp,amn,aP,b8,tK,aau,aas,alO,R6,Ru⟩
theorem LJ :
  (∀ d rest A op,aC (⟨d,op,none⟩::rest) A=bU A d op rest)∧(∀ d rest A op t b,aC (⟨d,op,some (t,b)⟩::rest) A=iq (A.t t) b d op rest A) ∧
  (∀ d rest A op,iq (.bool true) true d op rest A=bU A d op rest)∧(∀ d rest A op,iq (.bool false) false d op rest A=bU A d op rest) ∧
  (∀ d rest A op,iq (.bool true) false d op rest A=aC rest (A.aS d .undef))∧(∀ d rest A op,iq (.bool false) true d op rest A=aC rest (A.aS d .undef))∧(∀ d rest A op b,iq .undef b d op rest A=aC rest (A.aS d .undef)) ∧
  (∀ d rest A x,bU A d (.mv x) rest=aC rest (A.aS d (ab A x)))∧(∀ d rest A c a b,bU A d (.pick c a b) rest=rK A d a b rest (ab A c)) ∧
  (∀ A d a b rest,rK A d a b rest (.bool true)=aC rest (A.aS d (ab A a)))∧(∀ A d a b rest,rK A d a b rest (.bool false)=aC rest (A.aS d (ab A b))) ∧
  (∀ d rest A op x y,bU A d (.bin op x y) rest=cW (cO op (ab A x) (ab A y)) (dj d rest A)) ∧
  (∀ d rest A ty neg x y,bU A d (.eqv ty neg x y) rest=cW ((cn ty (ab A x) (ab A y)).map fun b=>.bool (if neg then !b else b)) (dj d rest A)) ∧
  (∀ d rest A op x,bU A d (.un op x) rest=cW (r3 op (ab A x)) (dj d rest A))∧(∀ b,r3 .not (.bool b)=some (.bool !b))∧(∀ k n,r3 .neg (.int k n)=some (.int k (k.wrap (0-n))))∧(∀ k n,r3 .xor (.int k n)=some (.int k (pH k n))) ∧
  (∀ d rest A k x,bU A d (.conv k x) rest=cW (vV k (ab A x)) (dj d rest A))∧(∀ k k' n,vV k (.int k' n)=some (.int k (k.wrap n))) ∧
  (∀ d rest A s x,bU A d (.ld s x) rest=cW (ic s (gW A (ab A x))) (dj d rest A))∧(∀ d rest A f off x,bU A d (.fa f off x) rest=cW (lT A f off (ab A x)) (dj d rest A)) ∧
  (∀ d rest A f off s x,bU A d (.fl f off s x) rest=cW (ta f off s (ab A x).du) (dj d rest A))∧(∀ d rest A n esz x i,bU A d (.ia n esz x i) rest=cW (rf A n esz (ab A x) (ab A i)) (dj d rest A)) ∧
  (∀ d rest A esz x i,bU A d (.is esz x i) rest=cW (lX A esz (ab A x) (ab A i)) (dj d rest A))∧(∀ d rest A n esz s x i,bU A d (.ix n esz s x i) rest=cW (rp n esz s (ab A x) (ab A i)) (dj d rest A)) ∧
  (∀ d rest A x,bU A d (.len x) rest=cW (kD A (ab A x)) (dj d rest A))∧(∀ d rest A n esz x,bU A d (.va n esz x) rest=cW (pd A n esz (ab A x)) (dj d rest A)) ∧
  (∀ d rest A zs ps,bU A d (.bld zs ps) rest=cW ((eP zs (ps.map fun p=>(p.1,ab A p.2))).map .agg) (dj d rest A))∧(∀ d rest A x i,bU A d (.ext x i) rest=cW (wv i (ab A x)) (dj d rest A))∧(∀ i fs,wv i (.tuple fs)=fs[i]?) ∧
  (∀ d rest A f caps,bU A d (.mk f caps) rest=cW (if ((caps.map (ab A)).all fun y=>y.cu)=true then some (.func f (caps.map (ab A))) else none) (dj d rest A)) ∧
  (∀ rest A d z,bU A (some d) (.alloc z) rest=vm A d z rest (A.o d))∧(∀ A d z rest,vm A d z rest none=aC rest ((A.aR d (.box z)).put d (.ptr d []))) ∧
  (∀ rest A d x,bU A (some d) (.box x) rest=sI A d (ab A x) rest (A.o d))∧(∀ A d z rest,sI A d z rest none=sJ A d z rest z.cu)∧(∀ A d z rest,sJ A d z rest true=aC rest ((A.aR d (.box z)).put d (.ptr d []))) ∧
  (∀ rest A s x v,bU A none (.bA s x v) rest=uO A s (ab A v) rest (ab A x))∧(∀ A s v rest n p,uO A s v rest (.ptr n p)=uP A s n p v rest (A.o n))∧(∀ A s n p v rest b,uP A s n p v rest (some (.box b))=dx A s n p b v rest (b.at p)) ∧
  (∀ d rest A f args,bU A d (.call f args) rest=.call f (args.map (ab A)) (b7 true A (args.map (ab A))) (b7 false A (args.map (ab A))) d rest A) ∧
  (∀ d rest A x args,bU A d (.eH x args) rest=sM A d (args.map (ab A)) rest (ab A x))∧(∀ A d args rest f caps,sM A d args rest (.func f caps)=.call f (args++caps) (b7 true A (args++caps)) (b7 false A (args++caps)) d rest A) :=
 ⟨Ra,Rb,akP,akM,akO,akN,akQ,ang,ank,fun _ _ _ _ _=>rfl,fun _ _ _ _ _=>rfl,amQ,am0,anp,fun _=>rfl,fun _ _=>rfl,fun _ _=>rfl,amY,fun _ _ _=>rfl,am7,am2,am3,am4,am5,am6,am8,anq,amR,am1,fun _ _=>rfl,anb,
  amO,fun _ _ _ _=>rfl,amS,fun _ _ _ _=>rfl,fun _ _ _ _=>rfl,ano,fun _ _ _ _ _ _=>rfl,fun _ _ _ _ _ _ _=>rfl,amU,amV,fun _ _ _ _ _ _=>rfl⟩
theorem eF{A:ae}{s:Option Nat}{n:Nat}{p:List Nat}{b v old:I}{rest:List aG}(h1:v.cu=true)(h2:ca s v=true)(h3:v.aU=old.aU):dx A s n p b v rest (some old)=aC rest (A.aR n (.box (b.dQ p v))):=by
 simp only[dx];rw[if_pos ⟨h1,h2,h3⟩]
theorem Pf :
  (∀ A x,gW A (.ref x)=some x)∧(∀ A n p,gW A (.ptr n p)=eY p (A.o n))∧(∀ p c,eY p (some (.box c))=c.at p)∧(∀ c:I,c.at []=some c)∧(∀ (c:I) i p,c.at (i::p)=jG i p c.du) ∧
  (∀ i p fs,jG i p (some fs)=oA p fs[i]?)∧(∀ p f,oA p (some f)=f.at p)∧(∀ c v:I,c.dQ [] v=v)∧(∀ (c:I) i p v,c.dQ (i::p) v=uL c i p v c.du)∧(∀ c i p v fs,uL c i p v (some fs)=zA fs i p v fs[i]?) ∧
  (∀ fs i p v f,zA fs i p v (some f)=.agg (fs.set i (f.dQ p v)))∧(∀ fs,(I.agg fs).du=some fs)∧(∀ x:I,fA (some x)=x.du) ∧
  (∀ s x,ic s (some x)=if ca s x=true then some x else none) ∧
  (∀ A f off c,lT A f off (.ref c)=qW f off c.du)∧(∀ A f off n p,lT A f off (.ptr n p)=qV n p f off (fA (eY p (A.o n))))∧(∀ f off fs,qW f off (some fs)=pM fs f off fs[f]?)∧(∀ fs f off v,pM fs f off (some v)=dM fs f off (.ref v)) ∧
  (∀ n p f off fs,qV n p f off (some fs)=dM fs f off (.ptr n (p++[f])))∧(∀ A n esz x kk k,rf A n esz x (.int kk k)=oJ A n esz k x)∧(∀ A n esz k c,oJ A n esz k (.ref c)=jk k n (ri n esz k c.du)) ∧
  (∀ A n esz k m p,oJ A n esz k (.ptr m p)=jk k n (rh n esz m p k (fA (eY p (A.o m)))))∧(∀ n esz k fs,ri n esz k (some fs)=jj n esz fs ((fs[k.toNat]?).map .ref))∧(∀ n esz m p k fs,rh n esz m p k (some fs)=jj n esz fs (some (.ptr m (p++[k.toNat])))) ∧
  (∀ A esz x kk k,lX A esz x (.int kk k)=jl A esz k x)∧(∀ n esz s x kk k,rp n esz s x (.int kk k)=rn n esz s k x.du)∧(∀ n esz s k fs,rn n esz s k (some fs)=jk k n (jj n esz fs (ic s fs[k.toNat]?))) ∧
  (∀ A n esz m p,pd A n esz (.ptr m p)=r4 n esz m p (fA (eY p (A.o m))))∧(∀ n esz m p fs,r4 n esz m p (some fs)=pf n esz fs (.view m p esz 0 n)) ∧
  (∀ A sz es,kD A (.slice sz es)=some (.int .i64 es.length))∧(∀ A n,kD A (.nils n)=some (.int .i64 0))∧(∀ A n,kD A (.c0 n)=some (.int .i64 0)) :=
 ⟨fun _ _=>rfl,fun _ _ _=>rfl,fun _ _=>rfl,nv,RK,fun _ _ _=>rfl,fun _ _=>rfl,iw,aoZ,fun _ _ _ _ _=>rfl,fun _ _ _ _ _=>rfl,fun _=>rfl,fun _=>rfl,fun _ _=>rfl,fun _ _ _ _=>rfl,fun _ _ _ _ _=>rfl,fun _ _ _=>rfl,fun _ _ _ _=>rfl,
  fun _ _ _ _ _=>rfl,fun _ _ _ _ _ _=>rfl,fun _ _ _ _ _=>rfl,fun _ _ _ _ _ _=>rfl,fun _ _ _ _=>rfl,fun _ _ _ _ _ _=>rfl,fun _ _ _ _ _=>rfl,fun _ _ _ _ _ _=>rfl,fun _ _ _ _ _=>rfl,fun _ _ _ _ _=>rfl,fun _ _ _ _ _=>rfl,fun _ _ _=>rfl,fun _ _=>rfl,fun _ _=>rfl⟩
theorem Ey :
  (∀ A n p,bl true A (.ptr n p)=sX true A (eY p (A.o n)))∧(∀ A x,sX true A (some x)=if x.bu=true then some (.ref x) else (dD A 9 x).map .ref)∧(∀ A n p sz lo k,bl true A (.view n p sz lo k)=j6 sz lo k (fA (eY p (A.o n)))) ∧
  (∀ A n p,bl false A (.ptr n p)=none)∧(∀ A n p sz lo k,bl false A (.view n p sz lo k)=none)∧(∀ x,lM none x=none)∧(∀ x,lM x none=none) ∧
  (∀ aD A n k,bl aD A (.own n k)=oF k (A.o n))∧(∀ aD A fs,bl aD A (.agg fs)=(b7 aD A fs).map .agg)∧(∀ aD A f fs,bl aD A (.func f fs)=(b7 aD A fs).map (.func f))∧(∀ aD A k n,bl aD A (.int k n)=some (.int k n))∧(∀ aD A b,bl aD A (.bool b)=some (.bool b)) ∧
  (∀ aD A s,bl aD A (.c8 s)=some (.c8 s))∧(∀ aD A n,bl aD A (.nils n)=some (.slice n []))∧(∀ aD A n es,bl aD A (.slice n es)=if I.b6 es=true then some (.slice n es) else none)∧(∀ aD A x,bl aD A (.ref x)=if x.bu=true then some (.ref x) else none) ∧
  (∀ aD A,b7 aD A []=some [])∧(∀ aD A x xs,b7 aD A (x::xs)=lM (bl aD A x) (b7 aD A xs))∧(∀ x xs,lM (some x) (some xs)=some (x::xs)) ∧
  (∀ fs,(I.agg fs).bu=I.b6 fs)∧(∀ n fs,(I.slice n fs).bu=I.b6 fs)∧(∀ x,(I.ref x).bu=x.bu)∧(∀ k n,(I.int k n).bu=true)∧(∀ n,(I.bool n).bu=true)∧(∀ n,(I.c8 n).bu=true)∧(∀ f fs,(I.func f fs).bu=I.b6 fs) ∧
  I.b6 []=true∧(∀ x xs,I.b6 (x::xs)=(x.bu&&I.b6 xs)) ∧
  (∀ rs r A,jR rs r .ret A=og r (fo A rs))∧(∀ rs r A,jR rs r .normal A=og r (fo A rs))∧(∀ r xs,og r (some xs)=(lh xs=r))∧(∀ A,fo A []=some [])∧(∀ A t rs,fo A (.tmp t::rs)=lM (bl true A (A.t t)) (fo A rs)) ∧
  (∀ A a s rs,fo A (.cell a s::rs)=lM (rT s A (gW A (A.t a))) (fo A rs))∧(∀ s A x,rT s A (some x)=if ca s x=true then bl true A x else none)∧(∀ x,lh [x]=x)∧(∀ x y xs,lh (x::y::xs)=.tuple (x::y::xs)) :=
 ⟨aaU,fun _ _=>rfl,EE,fun _ _ _=>rfl,fun _ _ _ _ _ _=>rfl,fun _=>rfl,fun x=>by cases x <;>rfl,aaT,aaM,aaO,aaP,aaN,aaX,aaS,aaW,aaV,aa0,aaZ,fun _ _=>rfl,Wu,WA,Wz,Wy,Wv,WB,Ww,WE,WC,
  aoL,aoK,fun _ _=>rfl,aoE,aoF,aoD,fun _ _ _=>rfl,fun _=>rfl,fun _ _ _=>rfl⟩
theorem AW :
  (∀ k a b,cO .add (.int k a) (.int k b)=some (.int k (k.wrap (a+b))))∧(∀ k a b,cO .sub (.int k a) (.int k b)=some (.int k (k.wrap (a-b))))∧(∀ k a b,cO .mul (.int k a) (.int k b)=some (.int k (k.wrap (a*b)))) ∧
  (∀ k a b,cO .quo (.int k a) (.int k b)=if b=0 then none else some (.int k (k.wrap (a.tdiv b))))∧(∀ k a b,cO .rem (.int k a) (.int k b)=if b=0 then none else some (.int k (a.tmod b))) ∧
  (∀ k a b,cO .and (.int k a) (.int k b)=some (.int k (k.wrap ((BitVec.ofInt k.bits a &&& BitVec.ofInt k.bits b).toNat:Int))))∧(∀ k a b,cO .or (.int k a) (.int k b)=some (.int k (k.wrap ((BitVec.ofInt k.bits a ||| BitVec.ofInt k.bits b).toNat:Int)))) ∧
  (∀ k a b,cO .xor (.int k a) (.int k b)=some (.int k (k.wrap ((BitVec.ofInt k.bits a ^^^ BitVec.ofInt k.bits b).toNat:Int))))∧(∀ k a b,cO .andNot (.int k a) (.int k b)=some (.int k (k.wrap ((BitVec.ofInt k.bits a &&& ~~~ BitVec.ofInt k.bits b).toNat:Int)))) ∧
  (∀ k k' a b,cO .shl (.int k a) (.int k' b)=if 0≤b then some (.int k (k.wrap (a*2^(min b.toNat k.bits)))) else none)∧(∀ k k' a b,cO .shr (.int k a) (.int k' b)=if 0≤b then some (.int k (a.fdiv (2^(min b.toNat k.bits)))) else none) ∧
  (∀ k a b,cO .eql (.int k a) (.int k b)=some (.bool (a==b)))∧(∀ k a b,cO .neq (.int k a) (.int k b)=some (.bool (a != b)))∧(∀ k a b,cO .lss (.int k a) (.int k b)=some (.bool (decide (a<b))))∧(∀ k a b,cO .leq (.int k a) (.int k b)=some (.bool (decide (a≤b)))) ∧
  (∀ k a b,cO .gtr (.int k a) (.int k b)=some (.bool (decide (b<a))))∧(∀ k a b,cO .geq (.int k a) (.int k b)=some (.bool (decide (b≤a)))) :=
 ⟨RO,R4,RW,R0,R1,RP,RZ,R5,RQ,R2,R3,RR,RX,RV,RU,RT,RS⟩
end Go.Abs
namespace Go.Abs
open Go Go.RowKit
open Enc (enc)
section
variable {α:Type} [Enc α]
theorem al6(A:ae)(l:List α):kD A (enc l)=some (.int .i64 l.length):=by simp[gB,kD]
theorem alE{A:ae}(esz:Nat){k:Int}{l:List α}(h:0≤k∧k.toNat<l.length)(hs:Enc.sz α=esz):jl A esz k (enc l)=some (.ref (enc l[k.toNat])):=by
 simp only[gB,jl,hs,zy3,true_and];rw[if_pos ⟨h.1,by omega⟩];simp[h.2]
theorem eh{A:ae}(esz:Nat){k:Nat}{l:List α}(h:k<l.length)(hs:Enc.sz α=esz):jl A esz k (enc l)=some (.ref (enc l[k])):=by
 have:=alE (A:=A) esz (k:=(k:Int)) (l:=l) ⟨by omega,by simpa using h⟩ hs;simpa using this
theorem bG.lt{α:Type}{n:Nat}(x:bG n α){k:Nat}(h:k<n):k<x.l.length:=by rw[x.h];exact h
theorem kZ{n:Nat}(esz:Nat){k:Nat}(x:bG n α){y:Option I}(h:k<n)(hs:Enc.sz α=esz):jk (k:Int) n (jj n esz (x.l.map enc) y)=y:=by
 simp only[jk,jj,wu n esz x.l x.h hs,if_true];rw[if_pos ⟨by omega,by omega⟩]
theorem pS{n:Nat}(esz:Nat){k:Int}(x:bG n α){y:Option I}(h:0≤k∧k<n)(hs:Enc.sz α=esz):jk k n (jj n esz (x.l.map enc) y)=y:=by
 simp only[jk,jj,wu n esz x.l x.h hs,if_true];rw[if_pos h]
theorem akU{n k:Nat}(x:bG n α)(h:k<n):(x.l.map enc)[k]?=some (enc (x.l[k]'(x.lt h))):=by
 simp[x.lt h]
theorem RJ{n k:Nat}{p:List Nat}{x:bG n α}(h:k<n):jG k p (some (x.l.map enc))=(enc (x.l[k]'(x.lt h))).at p:=by
 have hl:=x.lt h;simp[jG,oA,hl]
theorem anB(k:IntKind)(n:Int):ic none (some (.int k n))=some (.int k n):=by simp[ic,dF,ca,I.isAgg]
theorem anz(b:Bool):ic none (some (.bool b))=some (.bool b):=by simp[ic,dF,ca,I.isAgg]
theorem anC(z:Nat)(es:List I):ic none (some (.slice z es))=some (.slice z es):=by simp[ic,dF,ca,I.isAgg]
theorem anA(f:FuncId)(es:List I):ic none (some (.func f es))=some (.func f es):=by simp[ic,dF,ca,I.isAgg]
end
mutual
/-- What every value in memory keeps to: whole numbers within their kind,slices no longer than a slice can be. -/
def I.wf:I→Prop
 | .agg fs=>I.iA fs
 | .int k n=>k.min≤n∧n≤k.max
 | .c8 s=>s.size≤maxLen
 | .slice _ es=>es.length≤maxLen∧I.iA es
 | .ref c=>c.wf
 | .func _ caps=>I.iA caps
 | .iface _ v=>v.wf
 |_=>True
def I.iA:List I→Prop
 | []=>True
 |x::xs=>x.wf∧I.iA xs
end
mutual
theorem uz{w:World}{D:aV}{E:a6} : ∀ (x:I) (cs:List Value),af w D E x cs→x.wf
 | .agg fs,cs,h=>by simp only[af,I.wf] at *;exact ze fs cs h
 | .int k n,cs,h=>by simp only[af,I.wf] at *;exact h.2
 | .c8 s,cs,h=>by simp only[af,I.wf] at *;exact h.2
 | .slice sz es,cs,h=>by
  simp only[af,I.wf] at *;obtain ⟨a,cap,_,h1,h2,h3,_⟩:=h;refine ⟨by omega,?_⟩;rcases h3 with rfl | ⟨b,off,cs',_,_,h4⟩
  ·simp[I.iA]
  ·exact ze es cs' h4
 | .ref c,cs,h=>by simp only[af,I.wf] at *;obtain ⟨b,off,cs',_,_,h⟩:=h;exact uz c cs' h
 | .func f caps,cs,h=>by simp only[af,I.wf] at *;obtain ⟨vs,_,h⟩:=h;exact uK caps vs h
 | .iface t v,cs,h=>by simp only[af,I.wf] at *;obtain ⟨u,cs',_,_,h⟩:=h;exact uz v cs' h
 | .bool _,_,_ | .nilp,_,_ | .dv,_,_ | .ea,_,_ | .raw _,_,_ | .nils _,_,_ | .c0 _,_,_ | .ptr _ _,_,_ | .own _ _,_,_ | .view _ _ _ _ _,_,_ | .mref _,_,_ | .dE _,_,_ | .c6 _ _,_,_ | .undef,_,_ | .dg,_,_ | .tuple _,_,_=>by simp[I.wf]
theorem ze{w:World}{D:aV}{E:a6} : ∀ (xs:List I) (cs:List Value),aL w D E xs cs→I.iA xs
 | [],_,_=>by simp[I.iA]
 |x::xs,cs,h=>by
  simp only[aL,I.iA] at *;obtain ⟨c1,c2,_,h1,h2⟩:=h;exact ⟨uz x c1 h1,ze xs c2 h2⟩
theorem uK{w:World}{D:aV}{E:a6} : ∀ (xs:List I) (vs:List Value),aK w D E xs vs→I.iA xs
 | [],_,_=>by simp[I.iA]
 |x::xs,vs,h=>by
  simp only[aK,I.iA] at *;obtain ⟨v,rest,cs,_,_,h1,h2⟩:=h;exact ⟨uz x cs h1,uK xs rest h2⟩
end
theorem apN{α:Type}[Enc α](l:List α):I.iA (l.map enc)↔∀ x∈l,(enc x:I).wf:=by
 induction l with
 |nil=>simp[I.iA]
 |cons x l ih=>simp[I.iA,ih]
theorem kL{α:Type}[Enc α](l:List α):(enc l:I).wf↔l.length≤maxLen∧∀ x∈l,(enc x:I).wf:=by
 simp only[gB,I.wf,zy3,apN]
theorem aw.wf{P:Program}{f:FuncId}{args:List I}{r:I}(hc:il P f=true)(h:I.iA args→aw P f args r):aw P f args r :=
 ⟨hc,fun w D vs h1 h2=>(h (uK _ _ h2)).2 w D vs h1 h2⟩
theorem aw.bj{P:Program}{f:FuncId}{fn:Func}{x:aN}{rs:List bd}{args:List I}{r:I}(hf:P.funcs[f]?=some fn)(hcall:il P f=true)(hc:(fn.body.bind (fk P fn.ntmps))=some x)
  (hrs:je P fn.results.toList=some rs) (hn:args.length≤fn.ntmps) (h:I.iA args→∀ (w:World) (D:aV) (E:a6),J ⟨P,w,D,fn.ntmps,dG E,E,iR,none⟩ x (jR rs r) (ar (bg 0 args) [])):aw P f args r :=
 aw.wf hcall fun hw=>aw.mk hf hcall hc hrs hn (h hw)
theorem aX{α:Type}[Enc α] :
  (∀ A (l:List α),kD A (enc l)=some (.int .i64 l.length))∧(∀ n (x:bG n α),(enc x).du=some (x.l.map enc)) :=
 ⟨al6,fun _ _=>rfl⟩
theorem mb:(∀ k n,ic none (some (.int k n))=some (.int k n))∧(∀ b,ic none (some (.bool b))=some (.bool b))∧(∀ z es,ic none (some (.slice z es))=some (.slice z es))∧(∀ f es,ic none (some (.func f es))=some (.func f es)) :=
 ⟨anB,anz,anC,anA⟩
end Go.Abs
namespace Go.Abs
open Go Go.RowKit
open Enc (enc)
def p9(neg:Bool):I→Option I
 | .nils _=>some (.bool (!neg))
 | .slice _ es=>if es.isEmpty then none else some (.bool neg)
 | .view _ _ _ _ _=>some (.bool neg)
 |_=>none
def K2:I→Option I
 | .c8 s=>some (.int .i64 s.size)
 |_=>none
open Classical in
noncomputable def o7(n:Nat)(p:List Nat)(sz l0 k esz:Nat)(lo hi mx:Option I):Option (List I)→Option I
 |some fs=>if sz=esz then iy n p sz l0 k fs.length lo hi mx else none
 |none=>none
noncomputable def nh(A:ae)(esz:Nat)(lo hi mx:Option I):I→Option I
 | .slice sz es=>if sz=esz then jU sz es lo hi mx else none
 | .nils sz=>if sz=esz then jU sz [] lo hi mx else none
 | .c0 sz=>if sz=esz then jU sz [] lo hi mx else none
 | .view n p sz l0 k=>o7 n p sz l0 k esz lo hi mx (fA (eY p (A.o n)))
 |_=>none
open Classical in
noncomputable def iC(esz:Nat):Option (List I)→Option I
 |some es=>if (es.all fun e=>e.size==esz)=true∧I.b6 es=true then some (.slice esz es) else none
 |none=>none
open Classical in
noncomputable def qL(A:ae)(d:Option Nat)(e esz bytes n l T sz':Nat)(es:List I)(rest:List aG):I→cS
 | .slice sz ys=>if yF e esz bytes l sz ys T sz' es then aC rest ((A.aR n (.b5 e esz (es++ys))).aS d (.own n (es.length+ys.length))) else .fail
 |_=>.fail
open Classical in
noncomputable def pw(A:ae)(d:Option Nat)(e esz bytes:Nat)(z:I)(n l T:Nat)(xs:List Int)(rest:List aG):I→cS
 | .slice _ ys=>if yG e esz bytes l ys T xs z then aC rest ((A.aR n (.c5 e (xs++rl ys))).aS d (.own n (xs.length+ys.length))) else .fail
 |_=>.fail
noncomputable def qK(A:ae)(d:Option Nat)(e esz bytes:Nat)(z:I)(n l:Nat)(x:I)(rest:List aG):Option ah→cS
 |some (.b5 T sz' es)=>qL A d e esz bytes n l T sz' es rest x
 |some (.c5 T xs)=>pw A d e esz bytes z n l T xs rest x
 |_=>.fail
noncomputable def fR(A:ae)(d:Option Nat)(e esz bytes:Nat)(z x:I)(rest:List aG):I→cS
 | .own n l=>qK A d e esz bytes z n l x rest (A.o n)
 |s=>fj A d esz bytes z s (eE A esz s) (eE A esz x) (aC rest)
section
variable (d:Option Nat) (rest:List aG) (A:ae)
noncomputable def qb(neg:Bool)(x:I):Bool→cS
 |true=>.any (fun m=>m<2) (fun m=>aC rest (A.aS d (.bool (m==0))))
 |false=>cW (p9 neg x) (dj d rest A)
theorem ani(neg:Bool)(x:aM):bU A d (.nilS neg x) rest=qb d rest A neg (ab A x) (kl (ab A x)):=by
 simp only[bU,bt,bF];cases kl (ab A x)
 ·simp only[zz8,if_false,qb,p9];cases ab A x <;>rfl
 ·rfl
theorem am9(x:aM):bU A d (.lenT x) rest=cW (K2 (ab A x)) (dj d rest A):=by
 simp only[bU,bt,bF];cases ab A x <;>rfl
theorem ann(esz:Nat)(x:aM)(lo hi mx:Option aM):bU A d (.sl esz x lo hi mx) rest=cW (nh A esz (lo.map (ab A)) (hi.map (ab A)) (mx.map (ab A)) (ab A x)) (dj d rest A):=by
 simp only[bU,bt,bF];cases ab A x <;>try rfl
 rename_i n p sz l0 k;simp only[nh,lO,gW];cases eY p (A.o n) with
 |none=>rfl
 |some c=>cases c <;>simp only[fA,I.du,o7] <;>(first | rfl | (split <;>rfl))
theorem amT(T esz:Nat)(ps:List aM):bU A d (.bs T esz ps) rest=cW (iC esz (b7 false A (ps.map (ab A)))) (dj d rest A):=by
 simp only[bU,bt,bF];cases b7 false A (ps.map (ab A)) <;>simp only[iC] <;>rfl
theorem amP(e esz bytes:Nat)(z:I)(s x:aM):bU A d (.cV e esz bytes z s x) rest=fR A d e esz bytes z (ab A x) rest (ab A s):=by
 simp only[bU,bt];generalize ab A s=s';generalize ab A x=x';cases s' <;>simp only[fR]
 rename_i n l;cases x' <;>simp only <;>generalize A.o n=z <;>(cases z with
  |none=>rfl
  |some y=>cases y <;>simp only[qK,qL,pw])
end
theorem LK :
  (∀ d rest A neg x,bU A d (.nilS neg x) rest=qb d rest A neg (ab A x) (kl (ab A x)))∧(∀ d rest A neg x,qb d rest A neg x false=cW (p9 neg x) (dj d rest A))∧(∀ z,kl (.nils z)=false)∧(∀ n p sz lo k,kl (.view n p sz lo k)=false)∧(∀ d rest A x,bU A d (.lenT x) rest=cW (K2 (ab A x)) (dj d rest A)) ∧
  (∀ d rest A esz x lo hi mx,bU A d (.sl esz x lo hi mx) rest=cW (nh A esz (lo.map (ab A)) (hi.map (ab A)) (mx.map (ab A)) (ab A x)) (dj d rest A)) ∧
  (∀ d rest A T esz ps,bU A d (.bs T esz ps) rest=cW (iC esz (b7 false A (ps.map (ab A)))) (dj d rest A))∧(∀ d rest A e esz bytes z s x,bU A d (.cV e esz bytes z s x) rest=fR A d e esz bytes z (ab A x) rest (ab A s)) ∧
  (∀ A d e esz bytes z x rest n l,fR A d e esz bytes z x rest (.own n l)=qK A d e esz bytes z n l x rest (A.o n))∧(∀ A d e esz bytes z n l x rest T sz es,qK A d e esz bytes z n l x rest (some (.b5 T sz es))=qL A d e esz bytes n l T sz es rest x)∧(∀ A d e esz bytes z n l x rest T xs,qK A d e esz bytes z n l x rest (some (.c5 T xs))=pw A d e esz bytes z n l T xs rest x) ∧
  (∀ neg z,p9 neg (.nils z)=some (.bool (!neg))) :=
 ⟨ani,fun _ _ _ _ _=>rfl,fun _=>rfl,fun _ _ _ _ _=>rfl,am9,ann,amT,amP,fun _ _ _ _ _ _ _ _ _ _=>rfl,fun _ _ _ _ _ _ _ _ _ _ _ _ _=>rfl,fun _ _ _ _ _ _ _ _ _ _ _ _=>rfl,fun _ _=>rfl⟩
theorem gm(p:Nat→Bool)(xs ys:List I):I.bW p (xs++ys)=(I.bW p xs&&I.bW p ys):=by
 induction xs with
 |nil=>simp[I.bW]
 |cons x xs ih=>simp[I.bW,ih,Bool.and_assoc]
section
variable {α:Type} [Enc α]
theorem jE{A:ae}{d:Option Nat}(e:Nat)(esz bytes n:Nat){l:Nat}{es ys:List α}{rest:List aG}(hl:l=es.length)(hs:Enc.sz α=esz)(hy:ys≠[])(h1:es.length+ys.length≤maxLen)(h2:(es.length+ys.length)*bytes≤140737488355328) :
  qL A d e esz bytes n l e esz (es.map enc) rest (enc ys)=aC rest ((A.aR n (.b5 e esz ((es++ys).map enc))).aS d (.own n (es++ys).length)):=by
 simp only[gB,qL];rw[if_pos ⟨by simpa using hl,hs,rfl,rfl,by simpa using hy,by simpa using h1,by simpa using h2⟩];simp
theorem mF(esz:Nat){ys:List α}(hs:Enc.sz α=esz):iC esz (some (ys.map enc))=some (enc ys):=by
 have h1:((ys.map enc).all fun e:I=>e.size==esz)=true:=by
  simp only[zx9,zw5];rintro x ⟨y,_,rfl⟩;simp[Enc.size,hs]
 simp only[iC,gB];rw[if_pos ⟨h1,jZ ys⟩,hs]
theorem oC(esz:Nat)(y:α)(hs:Enc.sz α=esz):iC esz (some [enc y])=some (enc [y]):=mF (ys:=[y]) esz hs
theorem nH(sz:Nat){T k:Nat}{es:List α}(hk:k=es.length)(hs:Enc.sz α=sz):oF k (some (.b5 T sz (es.map enc)))=some (enc es):=by
 simp only[oF,zy3];rw[if_pos ⟨hk,jZ es⟩,gB,hs]
theorem dn(p:Nat→Bool)(l:List α):I.bW p (l.map enc)=true:=by
 induction l with
 |nil=>rfl
 |cons x l ih=>simp only[zy2,I.bW,bh,ih,zw4]
end
theorem KL :
  (∀ n:Int,iC 1 (some [.int .i64 n])=some (enc [n]))∧(∀ (T:Nat) (es:List Int),oF es.length (some (.b5 T 1 (es.map enc)))=some (enc es)) :=
 ⟨fun n=>oC 1 n rfl,fun _ _=>nH 1 rfl rfl⟩
theorem az.Ri{A:ae}{d n T sz z:Nat}(hd:A.t d=.nils z)(hn:A.o n=none)(hlt:n<1000000):az A ((A.aR n (.b5 T sz [])).put d (.own n 0)):=by
 rintro c a w ⟨D,E,h⟩;have aA:E n=none:=by have:=h.bV n;rw[hn] at this;exact this
 have hl:dV w D E w D (fun m=>if m=n then some (.rw none 0) else E m):=by
  have eD:∀ {m:Nat} {e:bZ},E m=some e→(if m=n then some (.rw none 0) else E m)=some e:=fun {m e} he=>by
   have:m≠n:=fun e=>by rw[e,aA] at he;cases he
   rw[if_neg this];exact he
  refine ⟨fun _ _ h=>h,fun _ _ _ _ h=>h,fun m b aU he=>eD he,fun m aI l he =>?_,fun m b he=>eD he,fun m b he=>eD he,fun _ _ _ _ h=>h⟩
  ·have:m≠n:=fun e=>by rw[e,aA] at he;cases he
   exact ⟨aI,l,by simp only[if_neg this];exact he,zz9 _,fun _=>rfl⟩
 refine ⟨D,fun m=>if m=n then some (.rw none 0) else E m,h.sz,h.eW,fun t =>?_,h.dW,h.dc,h.dm,fun m =>?_,fun m m' e e' b h1 h2 h3 h4 =>?_,fun m e hm =>?_,h.ff,h.cQ,h.fh,h.fO⟩
 ·simp only[ae.put,ae.aR];by_cases ht:t=d
  ·subst ht;simp only[if_true];have hv:=h.en t;rw[hd] at hv;obtain ⟨cs,q1,q2⟩:=hv;simp only[af] at q2;subst q2;refine ⟨[.slice none 0 0],by simpa[bR,I.isAgg] using q1,?_⟩;simp only[af,if_true];exact ⟨none,0,rfl,zz9 _,⟨_,_,_,rfl⟩,fun _=>trivial⟩
  ·simp only[if_neg ht];exact aY.bM hl (h.en t)
 ·simp only[ae.put,ae.aR];by_cases hm:m=n
  ·subst hm;simp only[if_true,de];exact ⟨none,by simp,by simp,trivial⟩
  ·simp only[if_neg hm];exact (h.bV m).bM hl (by simp only[if_neg hm]) fun _ _ _ _=>⟨rfl,fun _ ho=>ho⟩
 ·by_cases hm:m=n <;>by_cases hm':m'=n
  ·rw[hm,hm']
  ·simp only[if_pos hm,t7] at h1;subst h1;simp[bZ.aI] at h3
  ·simp only[if_pos hm',t7] at h2;subst h2;simp[bZ.aI] at h4
  ·simp only[if_neg hm] at h1;simp only[if_neg hm'] at h2;exact h.c4 m m' e e' b h1 h2 h3 h4
 ·have hmn:m≠n:=fun e=>by rw[e,h.kz (.inr hlt)] at hm;cases hm
  simp only[if_neg hmn];exact h.dZ m e hm
theorem az.lD{ts:List (Nat×I)}{os:List (Nat×ah)}(d n T sz z:Nat)(hd:bQ ts d=.nils z)(hn:ak os n=none){B:ae}(h:az (ar ((d,.own n 0)::ts) ((n,.b5 T sz [])::os)) B)(hlt:n<1000000:=by decide):az (ar ts os) B :=
 ((az.Ri (A:=ar ts os) (T:=T) (sz:=sz) hd hn hlt).trans (by rw[l8,tQ];exact az.refl _)).trans h
def bG.g{n:Nat}(x:bG n Int)(k:Nat):Int:=x.l.getD k 0
theorem bG.tn{n k:Nat}(x:bG n Int)(h:k<n):x.l[k]'(x.lt h)=x.g k:=by simp[bG.g,x.lt h]
theorem jY{n k:Nat}{p:List Nat}(x:bG n Int)(h:k<n):jG k p (some (x.l.map enc))=(I.int .i64 (x.g k)).at p:=by
 rw[RJ h,x.tn h];rfl
theorem tt{n k:Nat}(x:bG n Int)(h:k<n):(x.l.map (enc (α:=Int)))[k]?=some (I.int .i64 (x.g k)):=by
 rw[akU x h,x.tn h];rfl
theorem Lx:(∀ k n,ca none (.int k n)=true)∧(∀ b,ca none (.bool b)=true)∧(∀ z es,ca none (.slice z es)=true)∧(∀ f es,ca none (.func f es)=true)∧(∀ z,ca none (.nils z)=true)∧(∀ n k,ca none (.own n k)=true) :=
 ⟨fun _ _=>rfl,fun _=>rfl,fun _ _=>rfl,fun _ _=>rfl,fun _=>rfl,fun _ _=>rfl⟩
theorem lF{p:Nat→Bool}{n:Nat}(h:∀ k,k<n→p k=true):(List.range n).all p=true:=by
 simp only[zx9,zv2];exact h
theorem kp{p:Nat→Bool}{n:Nat}(i:Nat)(hi:i<n)(h:p i=false):(List.range n).all p=false:=by
 simp only[List.all_eq_false,zv2];exact ⟨i,hi,by simp[h]⟩
theorem U:(type_of% @pq)∧(type_of% @LJ)∧(type_of% @LK)∧(type_of% @KL)∧(type_of% @Lx)∧(type_of% @Pf)∧(type_of% @Ey)∧(type_of% @AW)∧(∀ n:Int,(enc n:I)=.int .i64 n)∧(∀ n:Bool,(enc n:I)=.bool n) ∧
  (∀ {α β:Type} (f:α→β) (x:α) (xs:List α),List.map f (x::xs)=f x::List.map f xs)∧(∀ {α β:Type} (f:α→β),List.map f []=[])∧(∀ {α:Type} (xs:List α),[]++xs=xs)∧(∀ n:Nat,(n:Int).toNat=n)∧(∀ {α β:Type} (f:α→β) (x:α),Option.map f (some x)=some (f x)) ∧
  (∀ n:Nat,0≤(n:Int))∧((!true)=false)∧((!false)=true)∧((false=true)=False)∧((true=false)=False) :=
 ⟨@pq,@LJ,@LK,@KL,@Lx,@Pf,@Ey,@AW,ga,we,fun _ _ _=>rfl,fun _=>rfl,fun _=>rfl,fun _=>rfl,fun _ _=>rfl,fun n=>Int.natCast_nonneg n,rfl,rfl,by simp,by simp⟩
end Go.Abs
namespace Go.Abs
open Go Go.RowKit
open Enc (enc)
theorem kQ.bj{P:Program}{f:FuncId}{fn:Func}{x:aN}{rs:List bd}{Y:Value→List I→List (Nat×ah)→cR→Prop}{args:List I}{os:List (Nat×ah)}{post:cR}(hf:P.funcs[f]?=some fn)(hcall:il P f=true)(hc:(fn.body.bind (fk P fn.ntmps))=some x)
  (hrs:je P fn.results.toList=some rs) (hn:args.length≤fn.ntmps) (hn2:fn.ntmps≤1000000) (hos:∀ m,al os m=true→1000000≤m) (h:I.iA args→∀ (w:World) (D:aV) (E:a6),J ⟨P,w,D,fn.ntmps,dG E,E,Y,none⟩ x (oe rs post) (ar (bg 0 args) os)):kQ P f Y args os post:=by
 obtain ⟨body,hb,hc'⟩:=Option.bind_eq_some_iff.1 hc;refine ⟨hcall,fun w D E vs hy hD ho hv =>?_⟩;exact (kQ.ub hf hb hcall hc' hrs hn (fun m hm=>⟨zu1 hn2 (hos m hm),hos m hm⟩) (fun w D E=>(h (uK _ _ hv) w D E).sub (O3 args os))).2 w D E vs hy hD ho hv
theorem cG.bj{P:Program}{f:FuncId}{fn:Func}{x:aN}{rs:List bd}{args:List I}{os:List (Nat×ah)}{post:cR}(hf:P.funcs[f]?=some fn)(hcall:il P f=true)(hc:(fn.body.bind (fk P fn.ntmps))=some x)
  (hrs:je P fn.results.toList=some rs) (hn:args.length≤fn.ntmps) (hn2:fn.ntmps≤1000000) (hos:∀ m,al os m=true→1000000≤m) (h:I.iA args→∀ (w:World) (D:aV) (E:a6),J ⟨P,w,D,fn.ntmps,dG E,E,iR,none⟩ x (oe rs post) (ar (bg 0 args) os)):cG P f args os post :=
 cG.Lm (kQ.bj hf hcall hc hrs hn hn2 hos h)
theorem pQ{A:ae} : ∀ n x,ak [] n=some x→A.o n=some x∧x.only (al [])=true∧x.eZ=true:=fun n x h=>by simp[ak] at h
theorem jK{A:ae}{k:Nat}{c:I}(h1:A.o k=some (.box c))(h2:∀ p,c.only p=true):∀ n x,ak [(k,.box c)] n=some x→A.o n=some x∧x.only (al [(k,.box c)])=true∧x.eZ=true:=fun n x h=>by
 simp only[ak] at h;split at h
 ·rename_i hn;subst hn;simp only[t7] at h;subst h;exact ⟨h1,h2 _,rfl⟩
 ·cases h
theorem ee.nil{aD:Bool}{ρ:List (Nat×Nat)}{os0:List (Nat×ah)}{r:I}(h1:∀ p,r.only p=true)(h2:aD=true→r.c7=true):ee aD ρ [] os0 r [] :=
 ⟨fun m x h=>by simp[ak] at h,fun m m' h=>by simp[al,ak] at h,fun m h=>by simp[al,ak] at h,fun m h=>by simp[al,ak] at h,h1 _,h2⟩
theorem cH{k:Nat}{x:ah}{m:Nat} : al [(k,x)] m=true↔m=k:=by
 simp only[al,ak];split <;>simp_all
theorem ee.p8{aD:Bool}{k d:Nat}{os0:List (Nat×ah)}{r c:I}(h1:∀ p,c.only p=true)(h2:aD=true→c.c7=true)(h3:r.only (al [(k,.box c)])=true)(h4:aD=true→r.c7=true)(h5:ak os0 d=none)(h6:d<1000000):ee aD [(k,d)] [] os0 r [(k,.box c)]:=by
 refine ⟨fun m x h =>?_,fun m m' h h' _ =>?_,fun m h=>by simp[al,ak] at h,fun m h _ =>?_,h3,h4⟩
 ·simp only[ak] at h;split at h
  ·simp only[t7] at h;subst h;exact ⟨h1 _,rfl,h2⟩
  ·cases h
 ·rw[cH.1 h,cH.1 h']
 ·rw[cH.1 h];simp[bJ,h5,h6]
theorem ee.one{aD:Bool}{k d:Nat}{x:ah}{os0:List (Nat×ah)}{r c:I}(h1:∀ p,c.only p=true)(h2:aD=true→c.c7=true)(h3:r.only (al [(k,.box c)])=true)(h4:aD=true→r.c7=true):ee aD [(k,d)] [(k,x)] os0 r [(k,.box c)]:=by
 refine ⟨fun m x h =>?_,fun m m' h h' _ =>?_,fun m h =>?_,fun m h h' =>?_,h3,h4⟩
 ·simp only[ak] at h;split at h
  ·simp only[t7] at h;subst h;exact ⟨h1 _,rfl,h2⟩
  ·cases h
 ·rw[cH.1 h,cH.1 h']
 ·rw[cH.1 h];exact cH.2 rfl
 ·rw[cH.1 h] at h';have:al [(k,x)] k=true:=cH.2 rfl;rw[this] at h';cases h'
theorem fX.nil{ρ:List (Nat×Nat)}{os0:List (Nat×ah)} : fX ρ [] os0:=⟨fun m x h=>by simp[ak] at h,fun m m' h=>by simp[al,ak] at h⟩
mutual
theorem rQ(ρ:Nat→Nat):∀ x:I,x.bu=true→x.aQ ρ=x
 | .agg fs,h=>by simp only[I.aQ,I.bu] at *;rw[oV ρ fs h]
 | .slice _ es,h=>by simp only[I.aQ,I.bu] at *;rw[oV ρ es h]
 | .ref x,h=>by simp only[I.aQ,I.bu] at *;rw[rQ ρ x h]
 | .func _ caps,h=>by simp only[I.aQ,I.bu] at *;rw[oV ρ caps h]
 | .iface _ v,h=>by simp only[I.aQ,I.bu] at *;rw[rQ ρ v h]
 | .bool _,_ | .int _ _,_ | .c8 _,_ | .nilp,_ | .dv,_ | .ea,_ | .raw _,_ | .nils _,_ | .c0 _,_=>by simp only[I.aQ]
 | .c6 ks vs,h=>by simp only[I.aQ,I.bu,zz4] at *;rw[oV ρ ks h.1,oV ρ vs h.2]
 | .ptr _ _,h | .own _ _,h | .view _ _ _ _ _,h | .mref _,h | .dE _,h | .undef,h | .dg,h | .tuple _,h=>by simp[I.bu] at h
theorem oV(ρ:Nat→Nat):∀ xs:List I,I.b6 xs=true→I.cZ ρ xs=xs
 | [],_=>rfl
 |x::xs,h=>by
  simp only[I.b6,zz4] at h;simp only[I.cZ,rQ ρ x h.1,oV ρ xs h.2]
end
theorem gP :
  (∀ (k:IntKind) n (ρ:Nat→Nat),(I.int k n).aQ ρ=.int k n)∧(∀ (b:Bool) (ρ:Nat→Nat),(I.bool b).aQ ρ=.bool b)∧(∀ n p (ρ:Nat→Nat),(I.ptr n p).aQ ρ=.ptr (ρ n) p) ∧
  (∀ n p sz lo k (ρ:Nat→Nat),(I.view n p sz lo k).aQ ρ=.view (ρ n) p sz lo k)∧(∀ fs (ρ:Nat→Nat),(I.agg fs).aQ ρ=.agg (I.cZ ρ fs))∧(∀ fs (ρ:Nat→Nat),(I.tuple fs).aQ ρ=.tuple (I.cZ ρ fs))∧(∀ f fs (ρ:Nat→Nat),(I.func f fs).aQ ρ=.func f (I.cZ ρ fs)) ∧
  (∀ ρ:Nat→Nat,I.cZ ρ []=[])∧(∀ (ρ:Nat→Nat) x xs,I.cZ ρ (x::xs)=x.aQ ρ::I.cZ ρ xs)∧(∀ (ρ:Nat→Nat) (x:I),(ah.box x).aQ ρ=.box (x.aQ ρ)) ∧
  (∀ (z:Nat) (ρ:Nat→Nat),(I.nils z).aQ ρ=.nils z)∧(∀ (z:Nat) (ρ:Nat→Nat),(I.c0 z).aQ ρ=.c0 z) ∧
  (∀ n,bJ [] n=n)∧(∀ a b r n,bJ ((a,b)::r) n=if n=a then b else bJ r n)∧(∀ ρ,dN ρ []=[])∧(∀ ρ k x os,dN ρ ((k,x)::os)=(bJ ρ k,x.aQ (bJ ρ))::dN ρ os) :=
 ⟨fun _ _ _=>by simp only[I.aQ],fun _ _=>by simp only[I.aQ],fun _ _ _=>by simp only[I.aQ],fun _ _ _ _ _ _=>by simp only[I.aQ],fun _ _=>by simp only[I.aQ],fun _ _=>by simp only[I.aQ],fun _ _ _=>by simp only[I.aQ],
  fun _=>rfl,fun _ _ _=>by simp only[I.cZ],fun _ _=>rfl,fun _ _=>by simp only[I.aQ],fun _ _=>by simp only[I.aQ],fun _=>rfl,fun _ _ _ _=>rfl,fun _=>rfl,fun _ _ _ _=>rfl⟩
section
variable {α:Type} [Enc α]
theorem j5(ρ:Nat→Nat)(x:α):(enc x).aQ ρ=enc x:=rQ ρ _ (dL x)
theorem fM(ρ:Nat→Nat)(l:List α):I.cZ ρ (l.map enc)=l.map enc:=oV ρ _ (jZ l)
class ox (α:Type) [Enc α]:Prop where
 c7:∀ x:α,(enc x).c7=true
theorem Ec[ox α](x:α):(enc x).c7=true:=ox.c7 x
theorem tF[ox α](l:List α):I.jq (l.map enc)=true:=by
 induction l with
 |nil=>rfl
 |cons x l ih=>simp only[zy2,I.jq,Ec,ih,zw4]
instance:ox Int:=⟨fun _=>rfl⟩
instance {n:Nat} [ox α]:ox (bG n α):=⟨fun x=>by simp only[enc,I.c7];exact tF x.l⟩
theorem qu(A:ae)(esz:Nat)(l:List α)(hs:Enc.sz α=esz):eE A esz (enc l)=some (l.map enc):=by
 simp only[gB,eE,hs,if_true]
theorem uS(l:List α):kl (enc l)=l.isEmpty:=by
 simp only[gB,kl];cases l <;>rfl
theorem Lh(neg:Bool)(l:List α)(h:l≠[]):p9 neg (enc l)=some (.bool neg):=by
 simp only[gB,p9];cases l with
 |nil=>exact absurd rfl h
 |cons=>rfl
section
variable {P:Program} {Y:Value→List I→List (Nat×ah)→cR→Prop} {K:ae→Prop} {A:ae} {rest:List aG} {d:Nat} {e esz bytes:Nat} {q:Nat}
theorem br.oz(z:α){l:List α}(hs:Enc.sz α=esz)(hl:l≠[])(hf:A.o d=none)(hb:l.length*bytes≤140737488355328)(hml:l.length≤maxLen)
  (h:∀ m,br P Y false K (aC rest ((A.aR d (.box (.agg ((l++List.replicate m z).map enc)))).aS (some d) (.view d [] esz 0 l.length)))):br P Y false K (fR A (some d) e esz bytes (enc z) (enc l) rest (.c0 q)):=by
 have hne:l.map (enc (α:=α))≠[]:=by simpa using hl
 have h1:eE A esz (.c0 q)=some []:=rfl;simp only[fR,h1,qu A esz l hs,fj,if_neg hne,gL,hf,zv7,zz3,zy3,if_pos (u8 hb hml),zy5];refine .any rfl fun m _ =>?_;have:=h m;simp only[zx4,List.map_replicate] at this;exact this
theorem AL(z:I)(hs:Enc.sz α=esz):fR A (some d) e esz bytes z (enc ([]:List α)) rest (.c0 q)=aC rest (A.aS (some d) (.c0 q)):=by
 have h1:eE A esz (.c0 q)=some []:=rfl;simp only[fR,h1,qu A esz ([]:List α) hs,fj,zx2,if_true]
theorem amX(esz:Nat)(z:I)(x:aM)(rest:List aG)(A:ae):bU A none (.iO esz z x) rest=nz A esz z (aC rest) (ab A x):=rfl
theorem ao2(z:α)(k:Nat):I.cX (List.replicate k (enc z))=List.replicate k (Enc.aU α):=by
 have:List.replicate k (enc z)=(List.replicate k z).map (enc (α:=α)):=by simp
 rw[this,rV];simp
theorem qO(z:α){n lo k:Nat}{xs:List α}(ho:A.o n=some (.box (.agg (xs.map enc))))(hk:lo+k≤xs.length) :
  nz A esz (enc z) (aC rest) (.view n [] esz lo k)=aC rest (A.aR n (.box (.agg ((xs.take lo++(List.replicate k z++xs.drop (lo+k))).map enc)))):=by
 have h1:I.cX (List.replicate k (enc z))=I.cX (((xs.map (enc (α:=α))).drop lo).take k):=by
  rw[ao2,←List.map_drop,←List.map_take,rV,zy4,zy9]
  congr 1;omega
 have h2:(I.agg (xs.map (enc (α:=α)))).at []=some (.agg (xs.map enc)):=rfl;simp only[nz,ho,h2];rw[if_pos ⟨rfl,h1⟩];simp only[iX,iw,zx4,List.map_take,List.map_drop,List.map_replicate,zv3]
theorem rW{n:Nat}{p:List Nat}{sz k total i:Nat}(h:i≤total)(h0:0<total):iy n p sz 0 k total none (some (.int .i64 i)) none=some (.view n p sz 0 i):=by
 simp only[iy,iB];rw[if_pos ⟨by omega,by omega,by omega⟩,if_neg (by omega)];simp
theorem qt{n:Nat}{p:List Nat}{sz k total i:Nat}(h:i≤k)(hk:k≤total)(h0:i<total):iy n p sz 0 k total (some (.int .i64 i)) none none=some (.view n p sz i (k-i)):=by
 simp only[iy,iB];rw[if_pos ⟨by omega,by omega,by omega⟩,if_neg (by omega)];simp
theorem yb{m:Nat}{p:List Nat}{sz lo l j:Nat}{fs:List I}(h:j<l):jn m p sz lo l sz (j:Int) (some fs)=some (.ptr m (p++[lo+j])):=by
 simp only[jn,true_and];rw[if_pos ⟨by omega,by omega⟩];simp
theorem qY{sz k:Nat}{xs:List α}(hs:Enc.sz α=sz):j6 sz 0 k (some (xs.map enc))=some (enc (xs.take k)):=by
 have h:((xs.map (enc (α:=α))).drop 0).take k=(xs.take k).map enc:=by rw[List.drop_zero,List.map_take]
 simp only[j6,h];rw[if_pos (jZ _),gB,hs]
end
end
theorem alF(A:ae)(esz m:Nat)(p:List Nat)(sz lo l:Nat)(k:Int):jl A esz k (.view m p sz lo l)=jn m p sz lo l esz k (fA (eY p (A.o m))):=rfl
theorem al7(A:ae)(m:Nat)(p:List Nat)(sz lo l:Nat):kD A (.view m p sz lo l)=some (.int .i64 l):=rfl
theorem ao5(A:ae)(esz:Nat)(lo hi mx:Option I)(n:Nat)(p:List Nat)(l0 k:Nat):nh A esz lo hi mx (.view n p esz l0 k)=o7 n p esz l0 k esz lo hi mx (fA (eY p (A.o n))):=rfl
theorem ao6(n:Nat)(p:List Nat)(sz l0 k:Nat)(lo hi mx:Option I)(fs:List I):o7 n p sz l0 k sz lo hi mx (some fs)=iy n p sz l0 k fs.length lo hi mx:=by simp[o7]
theorem cK :
  (∀ A esz m p sz lo l k,jl A esz k (.view m p sz lo l)=jn m p sz lo l esz k (fA (eY p (A.o m))))∧(∀ A m p sz lo l,kD A (.view m p sz lo l)=some (.int .i64 l)) ∧
  (∀ A esz lo hi mx n p l0 k,nh A esz lo hi mx (.view n p esz l0 k)=o7 n p esz l0 k esz lo hi mx (fA (eY p (A.o n))))∧(∀ n p sz l0 k lo hi mx fs,o7 n p sz l0 k sz lo hi mx (some fs)=iy n p sz l0 k fs.length lo hi mx) ∧
  (∀ esz z x rest A,bU A none (.iO esz z x) rest=nz A esz z (aC rest) (ab A x))∧(∀ rest A d esz,bU A d (.bs0 esz) rest=aC rest (A.aS d (.c0 esz))) :=
 ⟨alF,al7,ao5,ao6,amX,fun _ _ _ _=>rfl⟩
theorem eX(rs:List bd)(post:cR)(A:ae):oe rs post .ret A=lB rs post A:=rfl
theorem mi(rs:List bd)(post:cR)(A:ae):oe rs post .normal A=lB rs post A:=rfl
theorem az.gY{ts:List (Nat×I)}{os0:List (Nat×ah)}(ns:List Nat)(d:Nat){x y:I}(hd:bQ ts d=x)(h:bl true (ar ts (gh ns os0)) x=some y)(ho:aZ (fun n => !ns.contains n) (cJ ns os0)) :
  az (ar ts os0) (ar ((d,y)::fK ns ts) (cJ ns os0)):=by
 rintro c a w ⟨D,E,hs⟩;obtain ⟨D1,E1,hs1,hw⟩:=hs.EO ns ho;have hu:eB (ar ts (gh ns os0)) (ar ts os0):=fun n z hz=>by
  simp only[ar,l7] at hz ⊢;split at hz
  ·exact hz
  ·cases hz
 have hx:x.cu=true:=by cases x <;>first | rfl | simp[bl] at h
 have hv:=hs.en d;simp only[ar] at hv;rw[hd] at hv;have h1:aK w D E [x] [a.tmps.getD d undef]:=m9 [x] _ (.cons hv .nil) (by intro z hz;simp only[List.mem_singleton] at hz;subst hz;exact hx);have h2:=mN (E':=E1) hs hu hw [x] [y] _ h1 (by simp only[b7,h]);have h3:aY w D1 E1 y (a.tmps.getD d undef):=by
  simp only[aK] at h2;obtain ⟨v',rest,cs,e,k1,k2,_⟩:=h2;simp only[List.cons.injEq] at e;obtain ⟨e1,_⟩:=e;rw[e1];exact mW k1 k2
 refine ⟨D1,E1,hs1.sz,hs1.eW,fun t =>?_,hs1.dW,hs1.dc,hs1.dm,hs1.bV,hs1.c4,hs1.dZ,hs1.ff,hs1.cQ,hs1.fh,hs1.fO⟩;simp only[ar,bQ];split
 ·rename_i ht;subst ht;exact h3
 ·exact hs1.en t
theorem az.oH{ts ts':List (Nat×I)}{os0 os':List (Nat×ah)}(ns:List Nat)(d:Nat){x y:I}(hd:bQ ts d=x)(h:bl true (ar ts (gh ns os0)) x=some y)(ho:aZ (fun n => !ns.contains n) (cJ ns os0))
  (h1:aO ((d,y)::fK ns ts) ts') (h2:bC (cJ ns os0) os') (h3:bx (al os') ts') (h4:aZ (al os') os'):az (ar ts os0) (ar ts' os') :=
 (az.gY ns d hd h ho).trans (az.bL h1 h2 h3 h4)
theorem J.oq{c:cT}{Q:Exit→ae→Prop}{A:ae}{x:aN}(T:ae)(h1:J c x (au (fun B=>az B T) fun _ _=>False) A)(h2:∀ B,az B T→Q .normal B):J c x Q A :=
 h1.mono fun e B hq=>by
  cases e <;>simp only[au] at hq <;>first
   |exact h2 B hq
   |exact hq.elim
theorem zd{w:World}{D:aV}{E:a6}{p:List Nat}{c x y:I}{cs:List Value}(hr:af w D E c cs)(h:c.at p=some x)(hxy:∀ ds,af w D E x ds→af w D E y ds)(hs:y.aU=x.aU):af w D E (c.dQ p y) cs∧(c.dQ p y).aU=c.aU:=by
 obtain ⟨off,c1,c2,c3,h1,rfl,h2,h3⟩:=zc p c x cs hr h;obtain ⟨off',k1,k2,k3,k4⟩:=uy p c x y _ c2 hr h (hxy c2 h3) hs;rw[h1,t7] at k1;subst k1;refine ⟨?_,k4⟩;have e:(c1++c2++c3).take off++c2++(c1++c2++c3).drop (off+c2.length)=c1++c2++c3:=by
  rw[zz6 c1 c2 c3,←h2,List.take_left,List.drop_length_add_append,List.drop_left,zz6]
 rw[←e];exact k3
theorem az.Rj{A:ae}{m n T sz z:Nat}{p:List Nat}{b:I}(hm:A.o m=some (.box b))(hp:b.at p=some (.nils z))(hn:A.o n=none)(hlt:n<1000000):az A ((A.aR n (.b5 T sz [])).aR m (.box (b.dQ p (.own n 0)))):=by
 rintro c a w ⟨D,E,h⟩;have aA:E n=none:=by have:=h.bV n;rw[hn] at this;exact this
 have hmn:m≠n:=fun e=>by rw[e,hn] at hm;cases hm
 have hl:dV w D E w D (fun m=>if m=n then some (.rw none 0) else E m):=by
  have eD:∀ {m:Nat} {e:bZ},E m=some e→(if m=n then some (.rw none 0) else E m)=some e:=fun {m e} he=>by
   have:m≠n:=fun e=>by rw[e,aA] at he;cases he
   rw[if_neg this];exact he
  refine ⟨fun _ _ h=>h,fun _ _ _ _ h=>h,fun m b aU he=>eD he,fun m aI l he =>?_,fun m b he=>eD he,fun m b he=>eD he,fun _ _ _ _ h=>h⟩
  ·have:m≠n:=fun e=>by rw[e,aA] at he;cases he
   exact ⟨aI,l,by simp only[if_neg this];exact he,zz9 _,fun _=>rfl⟩
 refine ⟨D,fun m=>if m=n then some (.rw none 0) else E m,h.sz,h.eW,fun t=>aY.bM hl (h.en t),h.dW,h.dc,h.dm,fun k =>?_,fun m m' e e' b h1 h2 h3 h4 =>?_,fun m e hm =>?_,h.ff,h.cQ,h.fh,h.fO⟩
 ·simp only[ae.aR];by_cases hk:k=m
  ·subst hk;have ho:=h.bV k;rw[hm] at ho;obtain ⟨b',cs,T',h1,h2,h3,h4,h5⟩:=ho;obtain ⟨q1,q2⟩:=zd (y:=.own n 0) (af.bM hl _ _ h4) hp (fun ds hd=>by
    simp only[af] at hd;subst hd;simp only[af,if_true];exact ⟨none,0,rfl,zz9 _,⟨_,_,_,rfl⟩,fun _=>trivial⟩) rfl
   simp only[if_true,de];exact ⟨b',cs,T',by rw[q2];simp only[if_neg hmn];exact h1,h2,h3,q1,h5⟩
  ·simp only[if_neg hk];by_cases hkn:k=n
   ·subst hkn;simp only[if_true,de];exact ⟨none,by simp,by simp,trivial⟩
   ·simp only[if_neg hkn];exact (h.bV k).bM hl (by simp only[if_neg hkn]) fun _ _ _ _=>⟨rfl,fun _ ho=>ho⟩
 ·by_cases hm:m=n <;>by_cases hm':m'=n
  ·rw[hm,hm']
  ·simp only[if_pos hm,t7] at h1;subst h1;simp[bZ.aI] at h3
  ·simp only[if_pos hm',t7] at h2;subst h2;simp[bZ.aI] at h4
  ·simp only[if_neg hm] at h1;simp only[if_neg hm'] at h2;exact h.c4 m m' e e' b h1 h2 h3 h4
 ·have hmn:m≠n:=fun e=>by rw[e,h.kz (.inr hlt)] at hm;cases hm
  simp only[if_neg hmn];exact h.dZ m e hm
theorem az.Rk{ts:List (Nat×I)}{os:List (Nat×ah)}(m n T sz z:Nat)(p:List Nat)(b:I)(hm:ak os m=some (.box b))(hp:b.at p=some (.nils z))(hn:ak os n=none){B:ae}(h:az (ar ts ((m,.box (b.dQ p (.own n 0)))::(n,.b5 T sz [])::os)) B)(hlt:n<1000000:=by decide):az (ar ts os) B :=
 ((az.Rj (A:=ar ts os) (T:=T) (sz:=sz) hm hp hn hlt).trans (by rw[l8,l8];exact az.refl _)).trans h
end Go.Abs
