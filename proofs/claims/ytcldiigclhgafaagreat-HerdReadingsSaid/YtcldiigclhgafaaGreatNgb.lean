/-
  A part of the proof that the law HerdReadings returns true for every input; conditions: none beyond the statement's own. (part 2 of 7)
-/
import Derived.Maps.RangeRun
import Derived.Laws.MakeOwn
import Derived.Orders
import Derived.OrdersIn
import Derived.Test.YtcldiigclhgafaaGreatNga
set_option linter.unusedSimpArgs false
set_option linter.unusedVariables false
set_option maxHeartbeats 16000000
set_option maxRecDepth 100000
namespace Go.Abs
open Go Go.RowKit
theorem Ee{w:World}{D:aR}{E:aZ} : ∀ (l:List cN) (xs ys:List I) (cs ds:List Value),l.all xT=true→jk l xs ys=some true→aI w D E xs cs→aI w D E ys ds→xs=ys∧cs=ds∧∀ v∈cs,∃ k n,v=.int k n
 | [],xs,ys,cs,ds,_,h,hx,hy=>by
  simp only[jk] at h;split at h
  ·simp only[aI] at hx hy;subst hx hy;exact ⟨rfl,rfl,fun v hv=>by simp at hv⟩
  ·cases h
 |t::ts,xs,ys,cs,ds,ha,h,hx,hy=>by
  simp only[List.all_cons,zz2] at ha;simp only[jk] at h;split at h
  case h_2=>cases h
  rename_i f fs g gs;unfold iN at h;split at h
  case h_2=>cases h
  rename_i a b h1 h2;simp only[u8,zz2] at h;obtain ⟨rfl,rfl⟩:=h;simp only[aI] at hx hy;obtain ⟨c1,c2,rfl,p1,p2⟩:=hx;obtain ⟨d1,d2,rfl,q1,q2⟩:=hy;obtain ⟨rfl,rfl,k3⟩:=Ee ts fs gs c2 d2 ha.2 h2 p2 q2;cases t with
  |i k =>
   simp only[cv] at h1;split at h1
   case h_2=>cases h1
   rename_i k1 a k2 b;split at h1
   case isFalse=>cases h1
   rename_i hk;simp only[u8,beq_iff_eq] at h1;subst h1;obtain ⟨rfl,rfl⟩:=hk;simp only[af] at p1 q1;obtain ⟨rfl,_⟩:=p1;obtain ⟨rfl,_⟩:=q1;refine ⟨rfl,rfl,fun v hv =>?_⟩;rcases zy4.1 hv with hv | hv
   ·simp at hv;exact ⟨_,_,hv⟩
   ·exact k3 v hv
  |b | s | br _ | kO _ _=>simp[xT] at ha
theorem Pd:∀ (cs:List Value) (n:Nat),(∀ v∈cs,∃ k m,v=.int k m)→((cs.zip cs).all fun (x,y)=>Instr.sameBits n x y)=true
 | [],_,_=>rfl
 |v::cs,n,h=>by
  obtain ⟨k,m,rfl⟩:=h v (by simp);simp only[List.zip_cons_cons,List.all_cons,zz2];exact ⟨by cases n <;>simp[Instr.sameBits],Pd cs n fun v hv=>h v (by simp[hv])⟩
theorem ajo{P:Program}{t:TypeId}{ty:cN}{w:World}{D:aR}{E:aZ}{x y:I}{u v:Value}(hk:mc P t=some ty)(h:cv ty x y=some true)(hx:aY w D E x u)(hy:aY w D E y v):x=y∧u=v∧Instr.sameBits 10000 u v=true:=by
 unfold mc at hk;split at hk
 ·rename_i k hu;simp only[u8] at hk;subst hk;simp only[cv] at h;split at h
  case h_2=>cases h
  split at h
  case isFalse=>cases h
  rename_i hk;simp only[u8,beq_iff_eq] at h;subst h;obtain ⟨rfl,rfl⟩:=hk;rw[(fC hx).1,(fC hy).1];exact ⟨rfl,rfl,by simp[Instr.sameBits]⟩
 ·rename_i fs hu;split at hk
  case h_2=>cases hk
  rename_i l hl;split at hk
  case isFalse=>cases hk
  rename_i hc;simp only[u8] at hk;subst hk;simp only[cv] at h;split at h
  case h_2=>cases h
  rename_i xs ys;obtain ⟨cs,rfl,hc1⟩:=jT hx;obtain ⟨ds,rfl,hd1⟩:=jT hy;obtain ⟨rfl,rfl,h3⟩:=Ee l xs ys cs ds hc.1 h hc1 hd1;refine ⟨rfl,rfl,?_⟩;simp only[Instr.sameBits,beq_self_eq_true,Bool.true_and];exact Pd cs _ h3
 ·cases hk
section
variable {P:Program} {w:World} {D:aR} {E:aZ}
theorem Dm{t:TypeId}{ty:cN}{em:Bool}{x y:I}{v:Value}{r:Bool}(hk:mc P t=some ty)(hx:aY w D E x v)(h:cv ty x y=some r)(n:Nat):(Instr.checkKey em (n+2) t v).run P w=.ok () w:=by
 unfold mc at hk;split at hk
 ·rename_i k hu;simp only[u8] at hk;subst hk;simp only[cv] at h;split at h
  case h_2=>cases h
  rename_i k1 a k2 b;split at h
  case isFalse=>cases h
  rename_i hq;rw[(fC hx).1,hq.1];exact MapKept.run_checkKey hu (by simp[MapKept.IsKey]) em (n+1)
 ·rename_i fs hu;split at hk
  case h_2=>cases hk
  rename_i l hl;split at hk
  case isFalse=>cases hk
  rename_i hc;simp only[u8] at hk;subst hk;simp only[cv] at h;split at h
  case h_2=>cases h
  rename_i xs ys;obtain ⟨cs,rfl,hc1⟩:=jT hx;obtain ⟨d,hd⟩:∃ d,d=11:=⟨_,rfl⟩
  rw[show (12:Nat)=d+1 from by omega] at hl;simp only[gS,hu] at hl;split at hl
  case isFalse=>cases hl
  rename_i hc2;simp only[zz1,cN.br.injEq] at hl;obtain ⟨l',hl,rfl⟩:=hl;rw[show n+2=(n+1)+1 from rfl,Instr.checkKey];simp only[Sem.run_bind,run_underlying hu,Result.andThen_ok];rw[←Array.forIn_toList];have key:∀ (az:List Field) (l:List cN) (xs ys:List I) (r:Bool) (c1 c2:List Value),
    (az.mapM fun f=>match gS P d f.type with
     |some ty=>if ty.size=P.cellsOf f.type then some ty else none
     | none => none) = some l → (∀ f ∈ az, f.name ≠ "_" ∧ rA (P.underlying f.type) = true) → qj P c1.length az = true → aI w D E xs c2 → jk l xs ys = some r → c1 ++ c2 = cs →
    Sem.run P (forIn az PUnit.unit (fun (f : Field) (_ : PUnit) => (if f.name ≠ "_" then (do
     let x ←part f.type cs.toArray f.offset
     Instr.checkKey em (n+1) f.type x
     pure (ForInStep.yield PUnit.unit)) else pure (ForInStep.yield PUnit.unit):Sem (ForInStep PUnit)))) w=.ok PUnit.unit w:=by
   intro az
   induction az with
   |nil=>intros;simp
   |cons f az ih =>
    intro l xs ys r c1 c2 hm hn ho hx h htot;simp only[List.mapM_cons,Option.bind_eq_bind,Option.pure_def,Option.bind_eq_some_iff,u8] at hm;obtain ⟨ty,hty,tys,htys,rfl⟩:=hm;split at hty
    case h_2=>cases hty
    rename_i ty' hd';split at hty
    case isFalse=>cases hty
    rename_i hsz;simp only[u8] at hty;subst hty;simp only[jk] at h;split at h
    case h_2=>cases h
    rename_i x xs y ys;unfold iN at h;split at h
    case h_2=>cases h
    rename_i ra rb h1 h2;simp only[aI] at hx;obtain ⟨e1,e2,rfl,k1,k2⟩:=hx;obtain ⟨s,q1,q2,q3⟩:=vX hd' hsz h1;obtain ⟨u,p1,p2⟩:=pc (P:=P) (w:=w) (c1:=c1) (c3:=e2) q1 q2 k1;simp only[qj,zz2,beq_iff_eq] at ho;have hsx:=pQ ty' x y ra h1;have hle:e1.length=P.cellsOf f.type:=by rw[af.length _ _ k1,hsx.1,hsz]
    have ih':=ih tys xs ys rb (c1++e1) e2 htys (fun g hg=>hn g (by simp[hg])) (by simp only[zz3,hle];exact ho.2) k2 h2 (by rw[←htot];simp);rw[zz5,htot,←ho.1] at p1;obtain ⟨hnm,hint⟩:=hn f (by simp);have hck:(Instr.checkKey em (n+1) f.type u).run P w=.ok () w:=by
     cases hu:P.underlying f.type with
     |none=>simp[hu,rA] at hint
     |some dd =>
      cases dd <;>simp[hu,rA] at hint
      rename_i q;have hti:ty'=.i q:=by
       rw[show d=10+1 from by omega] at hd';unfold gS at hd';simp only[hu,u8] at hd';exact hd'.symm
      subst hti;simp only[cv] at h1;split at h1
      case h_2=>cases h1
      split at h1
      case isFalse=>cases h1
      rename_i hq;rw[(fC p2).1,hq.1];exact MapKept.run_checkKey hu (by simp[MapKept.IsKey]) em n
    simp only[List.forIn_cons,Sem.run_bind,hnm,ne_eq,not_false_eq_true,if_true,p1,Result.andThen_ok,hck,Sem.run_pure];exact ih'
  rw[key fs.toList l' xs ys r [] cs hl (fun f hf=>⟨by simpa using zx2.1 hc2.2.1 f hf,Array.all_eq_true_iff_forall_mem.1 hc.2 f (Array.mem_toList_iff.1 hf)⟩) hc2.2.2 hc1 h rfl];simp
 ·cases hk
theorem zp{x:I}{xs:List I}{vs:List Value}(h:aH w D E (x::xs) vs):∃ v rest,vs=v::rest∧aY w D E x v∧aH w D E xs rest:=by
 simp only[aH] at h;obtain ⟨v,rest,cs,rfl,h1,h2,h3⟩:=h;exact ⟨v,rest,rfl,m9 h1 h2,h3⟩
def pB(r:Option Nat)(es:List MapEntry)(i:Nat)(q:Option (Nat×Value)):Prop :=
 (r=none∧q=none)∨∃ j e,r=some (i+j)∧es[j]?=some e∧q=some (i+j,e.val)
theorem pB.step{r:Option Nat}{es:List MapEntry}{e:MapEntry}{i:Nat}{q:Option (Nat×Value)}(h:pB r es (i+1) q):pB r (e::es) i q:=by
 rcases h with h | ⟨j,e',h1,h2,h3⟩
 ·exact .inl h
 ·exact .inr ⟨j+1,e',by rw[h1];congr 1;omega,by simpa using h2,by rw[h3];congr 2;omega⟩
theorem EB{q:IntKind}{k:I}{v:Value}(hv:aY w D E k v):∀ (ks:List I) (es:List MapEntry) (i:Nat) (r:Option Nat),aH w D E ks (es.map (·.key))→fg (.i q) k ks i=some r →
  ∃ x,Instr.findNow (.int q) v es i=some x∧pB r es i x
 | [],es,i,r,hk,h=>by
  simp only[fg,u8] at h;simp only[aH,List.map_eq_nil_iff] at hk;subst h hk;exact ⟨none,rfl,.inl ⟨rfl,rfl⟩⟩
 |x::ks,es,i,r,hk,h=>by
  obtain ⟨u,rest,e1,hu,hr⟩:=zp hk;cases es with
  |nil=>cases e1
  |cons e es =>
   simp only[zz8,List.cons.injEq] at e1;obtain ⟨rfl,rfl⟩:=e1;simp only[fg] at h;have same:∀ b,cv (.i q) k x=some b→Instr.sameNow (.int q) v e.key=some b:=fun b hb=>by
    simp only[cv] at hb;split at hb
    case h_2=>cases hb
    split at hb
    case isFalse=>cases hb
    rename_i hq;simp only[u8] at hb;subst hb;rw[(fC hv).1,(fC hu).1];simp[Instr.sameNow,hq.1,hq.2]
   split at h
   ·rename_i hb;simp only[u8] at h;subst h;exact ⟨some (i,e.val),by simp[Instr.findNow,same _ hb],.inr ⟨0,e,rfl,rfl,rfl⟩⟩
   ·rename_i hb;obtain ⟨y,h1,h2⟩:=EB hv ks es (i+1) r hr h;exact ⟨y,by simp[Instr.findNow,same _ hb,h1],h2.step⟩
   ·cases h
theorem Ey{t:TypeId}{ty:cN}(hty:gS P 12 t=some ty){k:I}{v:Value}(hv:aY w D E k v):∀ (ks:List I) (es:List MapEntry) (i:Nat) (r:Option Nat),aH w D E ks (es.map (·.key))→fg ty k ks i=some r →
  ∃ x,(Instr.findAsking t v es i).run P w=.ok x w∧pB r es i x
 | [],es,i,r,hk,h=>by
  simp only[fg,u8] at h;simp only[aH,List.map_eq_nil_iff] at hk;subst h hk;exact ⟨none,rfl,.inl ⟨rfl,rfl⟩⟩
 |x::ks,es,i,r,hk,h=>by
  obtain ⟨u,rest,e1,hu,hr⟩:=zp hk;cases es with
  |nil=>cases e1
  |cons e es =>
   simp only[zz8,List.cons.injEq] at e1;obtain ⟨rfl,rfl⟩:=e1;simp only[fg] at h;have same:∀ b,cv ty k x=some b→(Op.equal t v e.key).run P w=.ok b w:=fun b hb=>s8 12 t ty hty k x v e.key b hv hu hb _ (by simp[Op.maxDepth]);split at h
   ·rename_i hb;simp only[u8] at h;subst h;exact ⟨some (i,e.val),by simp[Instr.findAsking,same _ hb],.inr ⟨0,e,rfl,rfl,rfl⟩⟩
   ·rename_i hb;obtain ⟨y,h1,h2⟩:=Ey hty hv ks es (i+1) r hr h;exact ⟨y,by simp[Instr.findAsking,same _ hb,h1],h2.step⟩
   ·cases h
theorem ta{t:TypeId}{ty:cN}(hk:mc P t=some ty){k:I}{v:Value}(hv:aY w D E k v){ks:List I}{es:List MapEntry}{r:Option Nat}(hks:aH w D E ks (es.map (·.key)))(h:fg ty k ks 0=some r) :
  ∃ x,(Instr.findKey t v es).run P w=.ok x w∧pB r es 0 x:=by
 have hk0:=hk;unfold mc at hk;split at hk
 ·rename_i q hu;simp only[u8] at hk;subst hk;obtain ⟨x,h1,h2⟩:=EB hv ks es 0 r hks h;exact ⟨x,by simp[Instr.findKey,run_underlying hu,h1],h2⟩
 ·rename_i fs hu;split at hk
  case h_2=>cases hk
  rename_i l hl;split at hk
  case isFalse=>cases hk
  simp only[u8] at hk;subst hk;cases es with
  |nil =>
   cases ks with
   |nil =>
    simp only[fg,u8] at h;subst h;exact ⟨none,by simp[Instr.findKey,run_underlying hu,Instr.findNow],.inl ⟨rfl,rfl⟩⟩
   |cons x xs=>simp[aH] at hks
  |cons e es =>
   obtain ⟨x,h1,h2⟩:=Ey hl hv ks (e::es) 0 r hks h;exact ⟨x,by simp[Instr.findKey,run_underlying hu,Instr.findNow,Instr.sameNow,h1],h2⟩
 ·cases hk
theorem np:∀ {xs:List I} {vs:List Value} {j:Nat} {v:Value},aH w D E xs vs→vs[j]?=some v→∃ x,xs[j]?=some x∧aY w D E x v
 | [],vs,j,v,h,hj=>by simp only[aH] at h;subst h;simp at hj
 |x::xs,vs,j,v,h,hj=>by
  obtain ⟨u,rest,rfl,h1,h2⟩:=zp h;cases j with
  |zero=>simp only[List.getElem?_cons_zero,u8] at hj;subst hj;exact ⟨x,rfl,h1⟩
  |succ j=>exact np (xs:=xs) h2 (by simpa using hj)
end
section
variable {c:cU} {A:ae} {o:Oper} {x:I}
theorem ajR{a:Act}{w:World}{D:aR}{E:aZ}(hs:aX c A a w D E){m:I}{v:Value}{ks vs:List I}(hv:aY w D E m v)(hm:gI A m=some (ks,vs)) :
  (v=.map none∧ks=[]∧vs=[])∨∃ b es clock,v=.map (some b)∧w.heap[b]?=some (.map es clock)∧aH w D E ks (es.toList.map (·.key))∧aH w D E vs (es.toList.map (·.val)):=by
 unfold gI at hm;split at hm
 ·simp only[u8,Prod.mk.injEq] at hm;obtain ⟨rfl,rfl⟩:=hm;obtain ⟨cs,q1,q2⟩:=hv;simp only[af] at q2;obtain ⟨b,es,ck,q3,q4,q5,q6⟩:=q2;exact .inr ⟨b,es,ck,by simpa[bL,I.isAgg,q3] using q1.symm,q4.1,q5,q6⟩
 ·rename_i n;split at hm
  case h_2=>cases hm
  rename_i ks' vs' hn;simp only[u8,Prod.mk.injEq] at hm;obtain ⟨rfl,rfl⟩:=hm;obtain ⟨cs,q1,q2⟩:=hv;simp only[af] at q2;obtain ⟨b,q3,q4⟩:=q2;obtain ⟨b',es,ck,k1,k2,k3,k4,k5,k6,k7⟩:=hs.map hn;rw[k1] at q3;cases q3;exact .inr ⟨_,es,ck,by simpa[bL,I.isAgg,q4] using q1.symm,k3,k5,k6⟩
 ·simp only[u8,Prod.mk.injEq] at hm;obtain ⟨rfl,rfl⟩:=hm;obtain ⟨cs,q1,q2⟩:=hv;simp only[af] at q2;exact .inl ⟨by simpa[bL,I.isAgg,q2.1] using q1.symm,rfl,rfl⟩
 ·cases hm
theorem pz{w:World}{D:aR}{E:aZ}{y:I}{v:Value}(hv:y.cm=true)(h:aY w D E y v):∃ cs,bL y v cs∧af w D E y cs:=by
 cases y <;>simp[I.cm] at hv <;>exact h
theorem qu{w:World}{D:aR}{E:aZ} : ∀ {xs:List I} {vs:List Value} {j:Nat} {x:I},aH w D E xs vs→xs[j]?=some x→x.cm=true
 | [],_,j,x,_,h=>by simp at h
 |y::ys,vs,j,x,hr,h=>by
  simp only[aH] at hr;obtain ⟨v,rest,cs,rfl,h1,h2,h3⟩:=hr;cases j with
  |zero =>
   simp only[List.getElem?_cons_zero,u8] at h;subst h;cases y <;>simp only[af] at h2 <;>rfl
  |succ j=>exact qu (xs:=ys) h3 (by simpa using h)
theorem anB{x:I}{cs r:List Value}(h:ny x cs=some r):x.cm=true:=by
 cases x <;>first | rfl | (cases cs <;>simp[ny] at h)
theorem anC{P:Program}{t:TypeId}{z:I}(hz:gq P t=some z)(hp:uV P t z=true):∃ zv,(∀ w,(zeroValue t).run P w=.ok zv w)∧z.cm=true∧∀ w D E,aY w D E z zv:=by
 have hz0:=hz;obtain ⟨i,zv,hi,hzz,hzr⟩:=mF hz;have hv:z.cm=true:=by
  unfold gq at hz;split at hz
  ·split at hz
   ·rename_i hk;simp only[u8] at hz;subst hz;exact anB hk
   ·cases hz
  ·cases hz
 refine ⟨zv,fun w=>by simp[zeroValue,typeInfo,hi,hzz],hv,fun w D E =>?_⟩;have h1:=hzr w D E;simp only[uV,hi,Option.bind_some,hzz] at hp;refine m9 (cs:=zv.cells.toList) ?_ h1;cases zv <;>simp only[bL] at hp ⊢ <;>first
  |(rw[if_pos hp];simp[Value.cells])
  |(have hp':z.isAgg=false:=by simpa using hp
    rw[hp'];simp[Value.cells])
theorem aiQ{t kt et:TypeId}{m k:Operand}{m' k':aJ}{ok:Bool}{ty:cN}{z v:I}{ks vs:List I}{there:Bool}(ho:o.op=.lookup t m k ok)(hu:c.P.underlying t=some (.map kt et))(hk:mc c.P kt=some ty)(hz:gq c.P et=some z)(hzp:uV c.P et z=true)
  (hm:bK c.P 0 m=some m') (hk':bK c.P 0 k=some k') (hmm:gI A (ab A m')=some (ks,vs)) (hl:gA ty z (ab A k') ks vs=some (v,there)):dW c A o (if ok then .tuple [v,.bool there] else v) :=
 .same fun a w D E hs=>by
  have h1:=ct hs hm;have h2:=ct hs hk';obtain ⟨zv,hzrun,hzv,hzrv⟩:=anC hz hzp;unfold gA at hl;split at hl
  case isFalse=>cases hl
  rename_i hkk;obtain ⟨rk,hrk⟩:=zw4.1 hkk;have hchk:=fun em=>Dm (P:=c.P) (w:=w) (em:=em) hk h2 hrk 9998;have bl:∀ u there,v.cm=true→aY w D E v u→aY w D E (if ok then .tuple [v,.bool there] else v) (if ok then Value.tuple #[u,.bool there] else u):=fun u there hval hu'=>by
   cases ok
   ·exact hu'
   ·obtain ⟨cs,q1,q2⟩:=pz hval hu';simp only[if_true,aY,aH];exact ⟨[u,.bool there],rfl,u,[.bool there],cs,rfl,q1,q2,.bool there,[],[.bool there],rfl,by simp[bL,I.isAgg],by simp[af],rfl⟩
  have main:∀ (es:Array MapEntry),aH w D E ks (es.toList.map (·.key))→aH w D E vs (es.toList.map (·.val))→∃ u,v.cm=true∧aY w D E v u ∧
    ((∃ i,(Instr.findKey kt (a.eval k) es.toList).run c.P w=.ok (some (i,u)) w∧there=true)∨((Instr.findKey kt (a.eval k) es.toList).run c.P w=.ok none w∧u=zv∧there=false)):=fun es hks hvs=>by
   split at hl
   ·rename_i i hfi;simp only[zz1,Prod.mk.injEq] at hl;obtain ⟨v',hv',rfl,rfl⟩:=hl;obtain ⟨q,q1,q2⟩:=ta hk h2 hks hfi;rcases q2 with ⟨e,_⟩ | ⟨j,e,e1,e2,rfl⟩
    ·cases e
    ·simp only[zz4,u8] at e1;subst e1;obtain ⟨x,k1,k2⟩:=np (j:=i) (v:=e.val) hvs (by simp only[zw6,e2,zy5]);rw[hv',u8] at k1;subst k1;exact ⟨e.val,qu hvs hv',k2,.inl ⟨_,q1,rfl⟩⟩
   ·rename_i hfi;simp only[u8,Prod.mk.injEq] at hl;obtain ⟨rfl,rfl⟩:=hl;obtain ⟨q,q1,q2⟩:=ta hk h2 hks hfi;rcases q2 with ⟨_,rfl⟩ | ⟨j,e,e1,_⟩
    ·exact ⟨zv,hzv,hzrv w D E,.inr ⟨q1,rfl,rfl⟩⟩
    ·cases e1
   ·cases hl
  rcases ajR hs h1 hmm with ⟨e1,rfl,rfl⟩ | ⟨b,es,ck,e1,e2,e3,e4⟩
  ·obtain ⟨u,hval,hu',hrun⟩:=main #[] (by simp[aH]) (by simp[aH]);refine ⟨_,?_,bl u there hval hu'⟩;rcases hrun with ⟨i,q1,rfl⟩ | ⟨q1,rfl,rfl⟩ <;>
    simp only[execOp,ho,Instr.lookup,e1,Sem.run_bind,run_underlying hu,Result.andThen_ok,Sem.run_pure,hchk,q1,hzrun]
  ·obtain ⟨u,hval,hu',hrun⟩:=main es e3 e4;refine ⟨_,?_,bl u there hval hu'⟩;rcases hrun with ⟨i,q1,rfl⟩ | ⟨q1,rfl,rfl⟩ <;>
    simp only[execOp,ho,Instr.lookup,e1,Sem.run_bind,run_underlying hu,Result.andThen_ok,MapKept.run_getObj_map e2,Sem.run_pure,hchk,q1,hzrun]
theorem KJ{y:Operand}{y':aJ}(ho:o.op=.nilCheck y)(hy:bK c.P 0 y=some y')(h:(∃ n p,ab A y'=.ptr n p)∨∃ z,ab A y'=.ref z):dW c A o (ab A y') :=
 .same fun a w D E hs=>by
  have h1:=ct hs hy;rcases h with ⟨n,p,h⟩ | ⟨z,h⟩
  ·rw[h] at h1 ⊢;obtain ⟨b,aQ,off,_,_,e⟩:=pd h1;exact ⟨a.eval y,by simp only[execOp,ho,e,Sem.run_pure],h1⟩
  ·rw[h] at h1 ⊢;obtain ⟨b,off,cs,e,_⟩:=qt h1;exact ⟨a.eval y,by simp only[execOp,ho,e,Sem.run_pure],h1⟩
theorem K7{w:World}{D:aR}{E:aZ}{x:I}{v:Value}{b:Bool}(h:jo x=some b)(hv:aY w D E x v):∃ ad,v=.pointer ad∧ad.isNone=b:=by
 cases x <;>simp only[jo,u8] at h <;>try (cases h;done)
 case nilp =>
  subst h;obtain ⟨cs,q1,q2⟩:=hv;simp only[af] at q2;exact ⟨none,by simpa[bL,I.isAgg,q2] using q1.symm,rfl⟩
 case ptr n p =>
  subst h;obtain ⟨b,aQ,off,_,_,e⟩:=pd hv;exact ⟨_,e,rfl⟩
 case ref z =>
  subst h;obtain ⟨b,off,cs,e,_⟩:=qt hv;exact ⟨_,e,rfl⟩
theorem aiV{neg:Bool}{t yt e:TypeId}{y z:Operand}{y' z':aJ}{b1 b2:Bool}(ho:o.op=.binOp (if neg then .neq else .eql) t y z yt)(hu:c.P.underlying t=some (.pointer e))(hy:bK c.P 0 y=some y')(hz:bK c.P 0 z=some z')
  (h1:jo (ab A y')=some b1) (h2:jo (ab A z')=some b2) (h:b1=true∨b2=true):dW c A o (.bool (if neg then !(b1&&b2) else (b1&&b2))) :=
 .same fun a w D E hs=>by
  obtain ⟨p,e1,k1⟩:=K7 h1 (ct hs hy);obtain ⟨q,e2,k2⟩:=K7 h2 (ct hs hz);have he:∀ d,(Op.equalIn (d+1) t (.pointer p) (.pointer q)).run c.P w=.ok (b1&&b2) w:=fun d=>by
   subst k1 k2;cases p <;>cases q <;>simp at h <;>simp[Op.equalIn,run_underlying hu]
  refine ⟨.bool (if neg then !(b1&&b2) else (b1&&b2)),?_,oV _⟩;cases neg <;>simp only[execOp,ho,e1,e2,if_true,zz6,if_false,Sem.run_bind,eqGuard] <;>simp[binOp,Op.equal,Op.maxDepth,he]
end
section
variable {c:cU} {A:ae} {o:Oper} {x:I}
theorem ZQ{t:TypeId}{d:Nat}(ho:o.op=.makeMap t none)(hd:o.dst=some d)(hn:d<c.n)(hf:A.o d=none):jf c A o ((A.aS d (.cB [] [])).put d (.mref d)):=by
 intro a w D E hs;have h1:=hs.aki (.inl hn) hf;have h2:=h1.put (x:=.mref d) (v:=.map (some w.heap.size)) hn ⟨_,by simp[bL,I.isAgg];rfl,by
  simp only[af,if_true];exact ⟨w.heap.size,rfl,rfl⟩⟩
 exact ⟨w.alloc (.map #[] 0),.inl ⟨.map (some w.heap.size),by simp[execOp,ho,Instr.makeMap],D,_,by rw[hd];exact h2⟩⟩
theorem zo{w:World}{D:aR}{E:aZ} : ∀ {xs ys:List I} {us vs:List Value},aH w D E xs us→aH w D E ys vs→aH w D E (xs++ys) (us++vs)
 | [],ys,us,vs,h,k=>by simp only[aH] at h;subst h;simpa using k
 |x::xs,ys,us,vs,h,k=>by
  simp only[aH,zy0] at *;obtain ⟨v,rest,cs,rfl,h1,h2,h3⟩:=h;exact ⟨v,rest++vs,cs,rfl,h1,h2,zo h3 k⟩
theorem Pc{w:World}{D:aR}{E:aZ} : ∀ {xs:List I} {us:List Value} {i:Nat} {y:I} {v:Value} {cs:List Value},aH w D E xs us→bL y v cs→af w D E y cs→aH w D E (xs.set i y) (us.set i v)
 | [],us,i,y,v,cs,h,_,_=>by simp only[aH] at h;subst h;simp[aH]
 |x::xs,us,i,y,v,cs,h,k1,k2=>by
  simp only[aH] at h;obtain ⟨u,rest,ds,rfl,h1,h2,h3⟩:=h;cases i with
  |zero=>simp only[List.set_cons_zero,aH];exact ⟨v,rest,cs,rfl,k1,k2,h3⟩
  |succ i=>simp only[List.set_cons_succ,aH];exact ⟨u,_,ds,rfl,h1,h2,Pc h3 k1 k2⟩
theorem Pb{w:World}{D:aR}{E:aZ}{y:I}{v:Value}{cs:List Value}(h1:bL y v cs)(h2:af w D E y cs):aH w D E [y] [v]:=by
 simp only[aH];exact ⟨v,[],cs,rfl,h1,h2,rfl⟩
theorem EA{ty:cN}{k:I} : ∀ {ks:List I} {i j:Nat},fg ty k ks i=some (some j)→∃ x,ks[j-i]?=some x∧i≤j∧cv ty k x=some true
 | [],i,j,h=>by simp[fg] at h
 |x::xs,i,j,h=>by
  simp only[fg] at h;split at h
  ·rename_i hb;simp only[u8] at h;subst h;exact ⟨x,by simp,zz7 _,hb⟩
  ·obtain ⟨y,h1,h2,h3⟩:=EA h;refine ⟨y,?_,by omega,h3⟩;rw[show j-i=(j-(i+1))+1 from by omega];simpa using h1
  ·cases h
theorem DS{t kt et:TypeId}{m k v:Operand}{m' k' v':aJ}{ty:cN}{n:Nat}{ks vs ks' vs':List I}(ho:o.op=.mapUpdate t m k v∨o.op=.insert t m k v)(hu:c.P.underlying t=some (.map kt et))(hk:mc c.P kt=some ty)
  (hm:bK c.P 0 m=some m') (hk':bK c.P 0 k=some k') (hv':bK c.P et v=some v') (hmm:ab A m'=.mref n) (hn:A.o n=some (.cB ks vs)) (hl:gB ty (ab A k') (ab A v') ks vs=some (ks',vs')) (hd:o.dst=none) :
  jf c A o (A.aS n (.cB ks' vs')):=by
 intro a w D E hs;have h1:=ct hs hm;have h2:=ct hs hk';have h3:=ct hs hv';rw[hmm] at h1;unfold gB at hl;split at hl
 case isFalse=>cases hl
 rename_i hc;obtain ⟨hkk,hkv,hvv⟩:=hc;obtain ⟨rk,hrk⟩:=zw4.1 hkk;have hchk:=fun em=>Dm (P:=c.P) (w:=w) (em:=em) hk h2 hrk 9998;obtain ⟨kcs,kp1,kp2⟩:=pz hkv h2;obtain ⟨vcs,vp1,vp2⟩:=pz hvv h3;obtain ⟨b,es,ck,k1,k2,k3,k4,k5,k6,k7⟩:=hs.map hn;have hmv:a.eval m=.map (some b):=by
  obtain ⟨cs,q1,q2⟩:=h1;simp only[af] at q2;obtain ⟨b',q3,q4⟩:=q2;rw[k1] at q3;cases q3;simpa[bL,I.isAgg,q4] using q1.symm
 -- the new entries
 have step:∀ (es':Array MapEntry) (ck':Nat),(Instr.mapUpdate t (.map (some b)) (a.eval k) (a.eval v)).run c.P w=.ok () (w.putObj b (.map es' ck'))→qD es' ck'→aH w D E ks' (es'.toList.map (·.key))→aH w D E vs' (es'.toList.map (·.val)) →
   ∃ w',((∃ u,(execOp a.eval o).run c.P w=.ok (.value u) w'∧cA c (A.aS n (.cB ks' vs')) (a.put o.dst u) w')∨((execOp a.eval o).run c.P w=.ok .skip w'∧cA c (A.aS n (.cB ks' vs')) (a.put o.dst undef) w')):=fun es' ck' hrun hst hks hvs=>by
  refine ⟨w.putObj b (.map es' ck'),.inr ⟨?_,?_⟩⟩
  ·rcases ho with ho | ho <;>simp only[execOp,ho,hmv,Sem.run_bind,hrun,Result.andThen_ok,Sem.run_pure]
  ·rw[hd];have:=hs.Pj (o':=.map es' ck') (x:=.cB ks' vs') k1 rfl rfl k3 rfl (fun q=>by simp) k2 (fun hl' hh hno=>⟨b,es',ck',k1,k2,hh,hst,aH.bN hl' _ _ hks,aH.bN hl' _ _ hvs,hno⟩);exact ⟨D,E,this⟩
 split at hl
 ·rename_i i hfi;simp only[u8,Prod.mk.injEq] at hl;obtain ⟨rfl,rfl⟩:=hl;obtain ⟨q,q1,q2⟩:=ta hk h2 k5 hfi;rcases q2 with ⟨e,_⟩ | ⟨j,e,e1,e2,rfl⟩
  ·cases e
  simp only[zz4,u8] at e1;subst e1;obtain ⟨y,y1,_,y2⟩:=EA hfi;simp only[Nat.sub_zero] at y1;obtain ⟨y',y3,y4⟩:=np (j:=i) (v:=e.key) k5 (by simp only[zw6,e2,zy5]);rw[y1,u8] at y3;subst y3;obtain ⟨_,kk2,kk3⟩:=ajo hk y2 h2 y4;have hes:es[i]?=some e:=by rw[←zv3];exact e2
  have hlen:i<es.size:=(zw2.1 hes).1;refine step (es.modify i fun e => { e with key:=a.eval k,val:=a.eval v }) ck ?_ ?_ ?_ ?_
  ·have hsb:Instr.sameBits 10000 (((es[i]?).map (·.key)).getD (a.eval k)) (a.eval k)=true:=by
    rw[hes];simp only[zy5,Option.getD_some];rw[←kk2];rw[←kk2] at kk3;exact kk3
   simp only[Instr.mapUpdate,Sem.run_bind,run_underlying hu,Result.andThen_ok,MapKept.run_getObj_map k3,hchk,q1,zz4,Instr.keyThatStays,hsb,if_true,Sem.run_pure,MapKept.run_setObj_map _ k3];rfl
  all_goals
   have em:(es.modify i fun e => { e with key:=a.eval k,val:=a.eval v }).toList=es.toList.set i { e with key:=a.eval k,val:=a.eval v } :=by
    rw[Array.toList_modify];apply List.ext_getElem?;intro j;rw[List.getElem?_modify,List.getElem?_set];by_cases hij:i=j
    ·subst hij;have hge:es[i]'hlen=e:=(zw2.1 hes).2;simp[hlen,hge]
    ·simp[hij]
  ·refine ⟨fun x hx =>?_,?_⟩
   ·rw[em] at hx;rcases List.mem_or_eq_of_mem_set hx with hx | rfl
    ·exact k4.1 x hx
    ·exact k4.1 e (List.mem_of_getElem? e2)
   ·rw[em];have:(es.toList.set i { e with key:=a.eval k,val:=a.eval v }).map (·.born)=es.toList.map (·.born):=by
     rw[List.map_set];apply List.ext_getElem?;intro j;rw[List.getElem?_set];split
     ·rename_i hij;subst hij;simp[e2];exact hlen
     ·rfl
    rw[this];exact k4.2
  ·rw[em,List.map_set];have:(es.toList.map (·.key)).set i (a.eval k)=es.toList.map (·.key):=by
    apply List.ext_getElem?;intro j;rw[List.getElem?_set];split
    ·rename_i hij;subst hij;simp[e2,kk2];exact hlen
    ·rfl
   simp only[this];exact k5
  ·rw[em,List.map_set];exact Pc k6 vp1 vp2
 ·rename_i hfi;simp only[u8,Prod.mk.injEq] at hl;obtain ⟨rfl,rfl⟩:=hl;obtain ⟨q,q1,q2⟩:=ta hk h2 k5 hfi;rcases q2 with ⟨_,rfl⟩ | ⟨j,e,e1,_⟩
  case inr=>cases e1
  refine step (es.push { key:=a.eval k,val:=a.eval v,born:=ck }) (ck+1) ?_ ⟨fun x hx =>?_,?_⟩ ?_ ?_
  ·simp only[Instr.mapUpdate,Sem.run_bind,run_underlying hu,Result.andThen_ok,MapKept.run_getObj_map k3,hchk,q1,MapKept.run_setObj_map _ k3];rfl
  ·simp only[Array.toList_push,zy4,List.mem_singleton] at hx;rcases hx with hx | rfl
   ·have:=k4.1 x hx;omega
   ·simp
  ·simp only[Array.toList_push,zx5,zz8,zx1];refine List.nodup_append.2 ⟨k4.2,by simp,fun x hx y hy =>?_⟩;simp only[List.mem_singleton] at hy;subst hy;obtain ⟨e,he,rfl⟩:=zx9.1 hx;exact Nat.ne_of_lt (k4.1 e he)
  ·simp only[Array.toList_push,zx5,zz8,zx1];exact zo k5 (Pb kp1 kp2)
  ·simp only[Array.toList_push,zx5,zz8,zx1];exact zo k6 (Pb vp1 vp2)
 ·cases hl
theorem ZS{t kt et:TypeId}{y:Operand}{y':aJ}{ks vs:List I}{d:Nat}(ho:o.op=.range t y)(hu:c.P.underlying t=some (.map kt et))(hy:bK c.P 0 y=some y')(h:ab A y'=.cX ks vs)(hd:o.dst=some d)(hn:d<c.n)(hf:A.o d=none) :
  jf c A o ((A.aS d (.it ks vs (List.range ks.length) none)).put d (.dC d)):=by
 intro a w D E hs;have h1:=ct hs hy;rw[h] at h1;obtain ⟨cs,q1,q2⟩:=h1;simp only[af] at q2;obtain ⟨b,es,ck,q3,q4,q5,q6⟩:=q2;have hv:a.eval y=.map (some b):=by simpa[bL,I.isAgg,q3] using q1.symm
 have h2:=hs.akh (.inl hn) hf q4 q5 q6;have h3:=h2.put (x:=.dC d) (v:=.pointer (some ⟨w.heap.size,0,none⟩)) hn ⟨_,by simp[bL,I.isAgg];rfl,by
  simp only[af,if_true];exact ⟨w.heap.size,rfl,rfl⟩⟩
 refine ⟨w.alloc (.mapIter (some b) ck #[] ck),.inl ⟨.pointer (some ⟨w.heap.size,0,none⟩),?_,D,_,by rw[hd];exact h3⟩⟩;simp only[execOp,ho,hv,Sem.run_bind,run_range_map w t kt et b es ck hu q4.1,Result.andThen_ok,Sem.run_pure]
theorem Li{es:Array MapEntry}{b9:Array Nat}{i:Nat} : i∈oR es b9↔∃ e,es[i]?=some e∧b9.contains e.born=false:=by
 unfold oR;simp only[zu0,zw1];constructor
 ·rintro ⟨h1,h2⟩;rw[Array.getElem?_eq_getElem h1] at h2 ⊢;exact ⟨_,rfl,by simpa using h2⟩
 ·rintro ⟨e,h1,h2⟩;exact ⟨(zw2.1 h1).1,by rw[h1];simpa using h2⟩
theorem am1{es:Array MapEntry}{ck:Nat}(hst:qD es ck){i j:Nat}{e f:MapEntry}(hi:es[i]?=some e)(hj:es[j]?=some f)(h:e.born=f.born):i=j:=by
 have hn:=hst.2;rw[←zv3] at hi hj;have h1:(es.toList.map (·.born))[i]?=some e.born:=by rw[zw6,hi];rfl
 have h2:(es.toList.map (·.born))[j]?=some e.born:=by rw[zw6,hj,h];rfl
 have hil:i<(es.toList.map (·.born)).length:=(zy6.1 h1).1;have hjl:j<(es.toList.map (·.born)).length:=(zy6.1 h2).1;exact (List.getElem?_inj hil hn).1 (h1.trans h2.symm)
theorem ajF{es:Array MapEntry}{b9:Array Nat}{ck i:Nat}{e:MapEntry}(hst:qD es ck)(hi:es[i]?=some e):oR es (b9.push e.born)=(oR es b9).filter (· != i):=by
 unfold oR;rw[List.filter_filter];refine List.filter_congr fun j hj =>?_;have hjl:j<es.size:=by simpa using hj
 rw[Array.getElem?_eq_getElem hjl];simp only[Array.contains_push];by_cases hij:j=i
 ·subst hij;rw[Array.getElem?_eq_getElem hjl,u8] at hi;simp[hi]
 ·have:(es[j].born==e.born)=false:=by
   simp only[beq_eq_false_iff_ne,ne_eq];exact fun h=>hij (am1 hst (Array.getElem?_eq_getElem hjl) hi h)
  have h2:(j != i)=true:=by simpa using hij
  simp[this,h2]
theorem akj{y:Operand}{y':aJ}{ks vs:List I}{left:List Nat}{cur:Option Nat}{n:Nat}(ho:o.op=.next y false)(hy:bK c.P 0 y=some y')(h:ab A y'=.dC n)(hn:A.o n=some (.it ks vs left cur))(hdn:∀ k,o.dst=some k→k<c.n){a:Act}{w:World}{D:aR}{E:aZ}(hs:aX c A a w D E) :
  ∃ w' v,(execOp a.eval o).run c.P w=.ok (.value v) w'∧((left=[]∧cA c (A.aP o.dst (.tuple [.bool false])) (a.put o.dst v) w') ∨
   ∃ i k x,i∈left∧ks[i]?=some k∧vs[i]?=some x∧cA c ((A.aS n (.it ks vs (left.filter (· != i)) (some i))).aP o.dst (.tuple [.bool true,k,x])) (a.put o.dst v) w'):=by
 have h1:=ct hs hy;rw[h] at h1;obtain ⟨cs,q1,q2⟩:=h1;simp only[af] at q2;obtain ⟨r,q3,q4⟩:=q2;have hv:a.eval y=.pointer (some ⟨r,0,none⟩):=by simpa[bL,I.isAgg,q4] using q1.symm
 have hob:=hs.bS n;rw[hn] at hob;obtain ⟨r',b,es,ck,since,b9,last,k1,k2,k3,k4,k5,k6,k7,k8,k9,k9',k10⟩:=hob;rw[k1] at q3;cases q3;rcases run_next_at (P:=c.P) w o.type r b since last b9 es ck k3 k4.1 k7 k8.1 with ⟨h0,hrun⟩ | ⟨e,he,w1,hal,hrun⟩
 ·refine ⟨w,.tuple #[.bool false],by simp only[execOp,ho,hv,Sem.run_bind,hrun,Result.andThen_ok,Sem.run_pure],.inl ⟨?_,D,E,hs.aP hdn ?_⟩⟩
  ·rw[k9];refine List.eq_nil_iff_forall_not_mem.2 fun i hi =>?_;obtain ⟨e,h1,h2⟩:=Li.1 hi;have hm:e∈leftOf es b9:=by
    unfold leftOf;simp only[Array.mem_filter];exact ⟨Array.mem_of_getElem? h1,by simpa using h2⟩
   rw[Array.eq_empty_of_size_eq_zero h0] at hm;simp at hm
  ·simp only[aY,aH];exact ⟨[.bool false],rfl,.bool false,[],[.bool false],rfl,by simp[bL,I.isAgg],by simp[af],rfl⟩
 ·have hmem:e∈es.toList∧b9.contains e.born=false:=by
   unfold leftOf at he;simp only[Array.toList_filter,zu0] at he;exact ⟨he.1,by simpa using he.2⟩
  obtain ⟨i,hi⟩:=List.getElem?_of_mem hmem.1;have hie:es[i]?=some e:=by rw[←zv3];exact hi
  obtain ⟨k,hk1,hk2⟩:=np (j:=i) (v:=e.key) k5 (by simp only[zw6,hi,zy5]);obtain ⟨x,hx1,hx2⟩:=np (j:=i) (v:=e.val) k6 (by simp only[zw6,hi,zy5]);have hsw:aX c A a w1 D E:=by
   rcases hal with rfl | rfl
   ·exact hs
   ·exact hs.grow (w':=w.drew) (D':=D) ⟨rfl,rfl,rfl,zz7 _,fun _ _=>rfl⟩ (fun _ _ h=>h) (fun _ _ h _=>h) (fun b o hd=>hs.dv b o hd)
  have hw1:w1.heap=w.heap:=by rcases hal with rfl | rfl <;>rfl
  have k3':w1.heap[r]?=some (.mapIter (some b) since b9 last):=by rw[hw1];exact k3
  have hset:=hsw.Pj (x:=.it ks vs (left.filter (· != i)) (some i)) (o':=.mapIter (some b) since (b9.push e.born) ck) k1 rfl rfl k3' rfl (fun q=>by simp) k2
   (fun hl hh hno=>by
    have hm:oW w1 D b es ck:=⟨by rw[hw1];exact k4.1,k4.2.1,k4.2.2⟩
    have hob:=hsw.bS n;rw[hn] at hob;refine ⟨r,b,es,ck,since,b9.push e.born,ck,k1,k2,hh,hm.bN hl,aH.bN hl _ _ ?_,aH.bN hl _ _ ?_,k7,?_,?_,fun j hj =>?_,hno⟩
    ·obtain ⟨dV,b2,es2,ck2,si2,se2,la2,g1,g2,g3,g4,g5,g6,_⟩:=hob;rw[k1] at g1;cases g1;rw[k3'] at g3;cases g3;have:=g4.1;rw[hw1,k4.1] at this;cases this;exact g5
    ·obtain ⟨dV,b2,es2,ck2,si2,se2,la2,g1,g2,g3,g4,g5,g6,_⟩:=hob;rw[k1] at g1;cases g1;rw[k3'] at g3;cases g3;have:=g4.1;rw[hw1,k4.1] at this;cases this;exact g6
    ·exact ⟨k8.2,k8.2⟩
    ·rw[k9,ajF k4.2.2 hie]
    ·cases hj;exact ⟨e,hie,by simp,rfl⟩)
  have hset':aX c (A.aS n (.it ks vs (left.filter (· != i)) (some i))) a (ChangeMaps.setBlock w1 r (.mapIter (some b) since (b9.push e.born) ck)) D E:=hset;refine ⟨_,.tuple #[.bool true,e.key,e.val],by simp only[execOp,ho,hv,Sem.run_bind,hrun,Result.andThen_ok,Sem.run_pure],.inr ⟨i,k,x,?_,hk1,hx1,D,E,hset'.aP hdn ?_⟩⟩
  ·rw[k9];exact Li.2 ⟨e,hie,hmem.2⟩
  ·have hob2:=hset'.bS n;simp only[ae.aS,if_true] at hob2;obtain ⟨dV,b2,es2,ck2,si2,se2,la2,g1,g2,g3,g4,g5,g6,_⟩:=hob2;rw[k1] at g1;cases g1;have hr2:(ChangeMaps.setBlock w1 r (.mapIter (some b) since (b9.push e.born) ck)).heap[r]?=some (.mapIter (some b) since (b9.push e.born) ck):=World.putObj_heap_same (w:=w1) (gj k3');rw[hr2] at g3;cases g3;have hb2:(ChangeMaps.setBlock w1 r (.mapIter (some b) since (b9.push e.born) ck)).heap[b]?=some (.map es ck):=by
    have:b≠r:=fun e=>by rw[e] at k4;rw[k4.1] at k3;cases k3
    refine (World.putObj_heap_other (w:=w1) this).trans ?_;rw[hw1];exact k4.1
   have:=g4.1;rw[hb2] at this;cases this;obtain ⟨kk,a1,a2⟩:=np (j:=i) (v:=e.key) g5 (by simp only[zw6,hi,zy5]);rw[hk1] at a1;cases a1;obtain ⟨xx,b1,b2⟩:=np (j:=i) (v:=e.val) g6 (by simp only[zw6,hi,zy5]);rw[hx1] at b1;cases b1;obtain ⟨c1,c2,c3⟩:=pz (qu k5 hk1) a2;obtain ⟨d1,d2,d3⟩:=pz (qu k6 hx1) b2;simp only[aY,aH];exact ⟨[.bool true,e.key,e.val],rfl,.bool true,_,[.bool true],rfl,by simp[bL,I.isAgg],by simp[af],e.key,_,c1,rfl,c2,c3,e.val,[],d1,rfl,d2,d3,rfl⟩
theorem aiD{y:Operand}{y':aJ}{ks vs:List I}{left:List Nat}{i n:Nat}{k x:I}(ho:o.op=.entry y)(hy:bK c.P 0 y=some y')(h:ab A y'=.dC n)(hn:A.o n=some (.it ks vs left (some i)))(hk:ks[i]?=some k)(hx:vs[i]?=some x):dW c A o (.tuple [k,x]) :=
 .same fun a w D E hs=>by
  have h1:=ct hs hy;rw[h] at h1;obtain ⟨cs,q1,q2⟩:=h1;simp only[af] at q2;obtain ⟨r,q3,q4⟩:=q2;have hv:a.eval y=.pointer (some ⟨r,0,none⟩):=by simpa[bL,I.isAgg,q4] using q1.symm
  have hob:=hs.bS n;rw[hn] at hob;obtain ⟨r',b,es,ck,since,b9,last,k1,k2,k3,k4,k5,k6,k7,k8,k9,k9',k10⟩:=hob;rw[k1] at q3;cases q3;obtain ⟨e,e1,e2,rfl⟩:=k9' i rfl;have hi:es.toList[i]?=some e:=by rw[zv3];exact e1
  obtain ⟨kk,a1,a2⟩:=np (j:=i) (v:=e.key) k5 (by simp only[zw6,hi,zy5]);rw[hk] at a1;cases a1;obtain ⟨xx,b1,b2⟩:=np (j:=i) (v:=e.val) k6 (by simp only[zw6,hi,zy5]);rw[hx] at b1;cases b1;obtain ⟨c1,c2,c3⟩:=pz (qu k5 hk) a2;obtain ⟨d1,d2,d3⟩:=pz (qu k6 hx) b2;have hf:es.find? (·.born==e.born)=some e:=by rw[←Array.find?_toList];exact find_born e es.toList k4.2.2.2 (List.mem_of_getElem? hi)
  refine ⟨.tuple #[e.key,e.val],?_,?_⟩
  ·have hr:(Instr.entry (.pointer (some ⟨r,0,none⟩))).run c.P w=.ok (.tuple #[e.key,e.val]) w:=by
    simp only[Instr.entry,getObj,Sem.run_bind,Sem.run,k3,k4.1,Result.andThen,e2,bne_self_eq_false,zz6,if_false,hf];rfl
   simp only[execOp,ho,hv,Sem.run_bind,hr,Result.andThen_ok,Sem.run_pure]
  ·simp only[aY,aH];exact ⟨[e.key,e.val],rfl,e.key,_,c1,rfl,c2,c3,e.val,[],d1,rfl,d2,d3,rfl⟩
theorem OM{w:World}{D:aR}{E:aZ}{z:I}{v:Value}(h:af w D E z [v]):∀ n:Nat,aI w D E (List.replicate n z) (List.replicate n v)
 |0=>by simp[aI]
 |n+1=>by simp only[List.replicate_succ,aI];exact ⟨[v],_,rfl,h,OM h n⟩
theorem ZR{t e:TypeId}{l l':Operand}{n':aJ}{z:I}{n d:Nat}{k:IntKind}(ho:o.op=.makeSlice t l l')(hll:l'=l)(hu:c.P.underlying t=some (.slice e))(hl:bK c.P 0 l=some n')(h:ab A n'=.int k n)(hz:gq c.P e=some z)(hz1:z.size=1)
  (hc1:c.P.cellsOf e=1) (hby:n*c.P.bytesOf e≤281474976710656) (hmax:n≤maxLen) (hd:o.dst=some d) (hn:d<c.n) (hf:A.o d=none):jf c A o ((A.aS d (.box (.agg (List.replicate n z)))).put d (.view d [] 1 0 n)):=by
 subst hll;intro a w D E hs;have h1:=ct hs hl;rw[h] at h1;obtain ⟨e1,_⟩:=fC h1;obtain ⟨i,zv,hi,hzz,hzr⟩:=mF hz;have hzc:=af.length _ _ (hzr w D E);rw[hz1] at hzc;obtain ⟨u,hu1⟩:∃ u,zv.cells = #[u]:=by
  have:zv.cells.size=1:=by simpa using hzc
  obtain ⟨u,hu⟩:=Array.size_eq_one_iff.1 this;exact ⟨u,hu⟩
 have hsz:i.size=1:=by have:=hc1;simp only[Program.cellsOf,hi,zy5,Option.getD_some] at this;exact this
 have hbytes:(i.bytes:Int)*(n:Int)≤281474976710656:=by
  have:c.P.bytesOf e=i.bytes:=by simp[Program.bytesOf,hi]
  rw[this] at hby;have h2:((i.bytes*n:Nat):Int)≤281474976710656:=by rw[Nat.mul_comm] at hby;omega
  rwa [Int.natCast_mul] at h2
 have hrun:=run_make (P:=c.P) w t e i zv hu hi hzz k k n n (by omega) (Int.le_refl _) hbytes (by have h9:=hmax;unfold maxLen at h9;omega);simp only[Int.toNat_natCast,hsz,Nat.mul_one] at hrun;have hmc:(madeCells zv.cells n).toList=List.replicate n u:=by
  rw[hu1];simp only[madeCells];apply List.ext_getElem?;intro j;simp[List.getElem?_replicate];split <;>simp_all[Nat.mod_one]
 have hcells:af w D E (.agg (List.replicate n z)) (madeCells zv.cells n).toList:=by
  rw[hmc];simp only[af];refine OM ?_ n;have:=hzr w D E;rw[hu1] at this;simpa using this
 have h2:=hs.rK (T:=e) (.inl hn) hf hcells;have h3:=h2.put (x:=.view d [] 1 0 n) (v:=.slice (some ⟨w.heap.size,0,none⟩) n n) hn ⟨_,by simp[bL,I.isAgg];rfl,by
  simp only[af,if_true];refine ⟨w.heap.size,_,0,I.cS (List.replicate n z),rfl,by simp[cR.off],by simp[I.aQ,cR.part],by simp[I.dB],by simpa[I.dB] using hmax,by simp[I.dB],fun s hs =>?_⟩;rw[I.dB] at hs;obtain ⟨y,hy,rfl⟩:=zx9.1 hs;rw[I.mA,(List.mem_replicate.1 hy).2,hz1]⟩
 refine ⟨_,.inl ⟨_,?_,D,_,by rw[hd];exact h3⟩⟩;simp only[execOp,ho,e1,Sem.run_bind,hrun,Result.andThen_ok,Sem.run_pure]
end
end Go.Abs
namespace Go.Abs
open Go Go.RowKit
mutual
/-- Values that lead to no memory. -/
def I.flat:I→Bool
 | .agg fs | .tuple fs=>I.pU fs
 | .bool _ | .int _ _ | .c7 _ | .nilp | .dw | .ea | .raw _ | .undef | .du=>true
 |_=>false
def I.pU:List I→Bool
 | []=>true
 |x::xs=>x.flat&&I.pU xs
end
mutual
theorem af.flat{w w':World}{D D':aR}{E E':aZ} : ∀ (x:I) (cs:List Value),x.flat=true→af w D E x cs→af w' D' E' x cs
 | .agg fs,cs,hf,hr=>by simp only[af,I.flat] at *;exact aI.flat fs cs hf hr
 | .bool b,cs,_,hr=>by simpa only[af] using hr
 | .int k n,cs,_,hr=>by simpa only[af] using hr
 | .c7 s,cs,_,hr=>by simpa only[af] using hr
 | .nilp,cs,_,hr=>by simpa only[af] using hr
 | .dw,cs,_,hr=>by simpa only[af] using hr
 | .ea,cs,_,hr=>by simpa only[af] using hr
 | .raw _,cs,_,hr=>by simpa only[af] using hr
 | .undef,_,_,hr=>by simp only[af] at hr
 | .du,_,_,hr=>by simp only[af] at hr
 | .tuple _,_,_,hr=>by simp only[af] at hr
 | .nils _,_,hf,_ | .c0 _,_,hf,_ | .slice _ _,_,hf,_ | .ref _,_,hf,_ | .func _ _,_,hf,_ | .iface _ _,_,hf,_ | .ptr _ _,_,hf,_ | .own _ _,_,hf,_ | .view _ _ _ _ _,_,hf,_ | .mref _,_,hf,_ | .dC _,_,hf,_ | .cX _ _,_,hf,_=>by simp[I.flat] at hf
theorem aI.flat{w w':World}{D D':aR}{E E':aZ} : ∀ (xs:List I) (cs:List Value),I.pU xs=true→aI w D E xs cs→aI w' D' E' xs cs
 | [],cs,_,hr=>by simpa only[aI] using hr
 |x::xs,cs,hf,hr=>by
  simp only[aI,I.pU,zz2] at *;obtain ⟨c1,c2,h1,h2,h3⟩:=hr;exact ⟨c1,c2,h1,af.flat x c1 hf.1 h2,aI.flat xs c2 hf.2 h3⟩
end
theorem aH.flat{w w':World}{D D':aR}{E E':aZ} : ∀ (xs:List I) (vs:List Value),I.pU xs=true→aH w D E xs vs→aH w' D' E' xs vs
 | [],vs,_,hr=>by simpa only[aH] using hr
 |x::xs,vs,hf,hr=>by
  simp only[aH,I.pU,zz2] at *;obtain ⟨v,rest,cs,h1,h2,h3,h4⟩:=hr;exact ⟨v,rest,cs,h1,h2,af.flat x cs hf.1 h3,aH.flat xs rest hf.2 h4⟩
theorem aY.flat{w w':World}{D D':aR}{E E':aZ}{x:I}{v:Value}(hf:x.flat=true)(hr:aY w D E x v):aY w' D' E' x v:=by
 cases x <;>simp only[aY] at * <;>first
  |exact hr
  |(obtain ⟨vs,h1,h2⟩:=hr;exact ⟨vs,h1,aH.flat _ _ (by simpa[I.flat] using hf) h2⟩)
  |(obtain ⟨cs,h1,h2⟩:=hr;exact ⟨cs,h1,af.flat _ _ hf h2⟩)
def dS:aZ:=fun _=>none
def ay(P:Program)(f:FuncId)(args:List I)(r:I):Prop :=
 ij P f=true∧∀ (w:World) (D:aR) (vs:List Value),(∀ b o,D b o→b<w.heap.size)→aH w D dS args vs →
  Calls P f vs.toArray w fun e w'=>∃ v D',e=.returned v∧aY w' D' dS r v∧Below w.heap.size w w'∧(∀ b o,D' b o→b<w'.heap.size)∧∀ b o,D' b o→b<w.heap.size→D b o
def cC(P:Program)(f:FuncId)(args:List I)(os:List (Nat×ah))(post:cO):Prop :=
 ij P f=true∧qL (Calls P f) (fun _ _ _=>True) args os post
def a6(p:Nat→Bool):List (Nat×ah)→Prop
 | []=>True
 |(_,v)::r=>v.only p=true∧a6 p r
def cW(ns:List Nat)(os:List (Nat×ah)):List (Nat×ah):=os.filter fun q => !ns.contains q.1
def gU(ns:List Nat)(ts:List (Nat×I)):List (Nat×I):=ts.map fun q=>(q.1,if q.2.only (fun n => !ns.contains n) then q.2 else .du)
def iU(ns:List Nat)(os:List (Nat×ah)):List (Nat×ah):=os.filter fun q=>ns.contains q.1
def jM(ρ:List (Nat×Nat))(os:List (Nat×ah)):List Nat:=os.map fun q=>bA ρ q.1
def jD(aA:Bool)(A0:ae)(ρ:List (Nat×Nat))(os:List (Nat×ah)):List I→List I→Prop
 | [],[]=>True
 |x::xs,c::cs=>((x=c.aN (bA ρ)∧c.only (al os)=true∧c.cm=true)∨bl aA A0 x=some c)∧jD aA A0 ρ os xs cs
 |_,_=>False
structure aB where
 dst:Option Nat
 op:cn
 guard:Option (Nat×Bool)
 deriving Inhabited
inductive cK where
 |done (A:ae)
 |fail
 |call (f:FuncId) (avs:List I) (a1 a2:Option (List I)) (dst:Option Nat) (rest:List aB) (A:ae)
 |pL (v:Value) (avs:List I) (dst:Option Nat) (rest:List aB) (A:ae)
 |kL (f:FuncId) (avs:List I) (dst:Option Nat) (rest:List aB) (A:ae)
 |any (p:Nat→Prop) (k:Nat→cK)
def cP(x:Option I)(k:I→cK):cK:=match x with
 |some v=>k v
 |none=>.fail
def yK(s:Option Nat)(v old:I):Prop:=v.cm=true∧b8 s v=true∧v.aQ=old.aQ
def yD(e esz bytes l sz:Nat)(ys:List I)(T sz':Nat)(es:List I):Prop:=l=es.length∧sz=esz∧T=e∧sz'=esz∧ys≠[]∧es.length+ys.length≤maxLen∧(es.length+ys.length)*bytes≤140737488355328
def ry(ys:List I):List Int:=ys.filterMap fun y=>match y with | .int .i64 i=>some i | _=>none
def yE(e esz bytes l:Nat)(ys:List I)(T:Nat)(xs:List Int)(z:I):Prop:=l=xs.length∧esz=1∧T=e∧z=.int .i64 0∧ys=(ry ys).map (.int .i64)∧ys≠[]∧xs.length+ys.length≤maxLen∧(xs.length+ys.length)*bytes≤140737488355328
def kj:I→Bool
 | .slice _ es=>es.isEmpty
 | .c0 _=>true
 |_=>false
open Classical in
noncomputable def ib(A:ae)(dst:Option Nat)(esz bytes:Nat)(z:I)(es ys:List I)(k:ae→cK):cK :=
 match dst with
 |some d=>match A.o d with
  |none=>if (es.length+ys.length)*bytes≤140737488355328∧es.length+ys.length≤maxLen then
    .any (fun m=>es.length+ys.length+m≤maxLen) (fun m=>k ((A.aS d (.box (.agg (es++(ys++List.replicate m z))))).aP dst (.view d [] esz 0 (es.length+ys.length)))) else .fail
  |some _=>.fail
 |none=>.fail
open Classical in
noncomputable def fw(A:ae)(dst:Option Nat)(esz bytes:Nat)(z:I)(s:I):Option (List I)→Option (List I)→(ae→cK)→cK
 |some es,some ys,k=>if ys=[] then k (A.aP dst s) else match s with
  | .nils _=>ib A dst esz bytes z es ys k
  | .c0 _=>ib A dst esz bytes z es ys k
  | .view n p sz lo l=>match A.o n with
   |some (.box b)=>match b.at p with
    |some (.agg fs)=>if lo+l+ys.length≤fs.length then
      (if sz=esz∧I.cS ys=I.cS ((fs.drop (lo+l)).take ys.length) then k ((A.aS n (.box (jc b p (lo+l) fs ys))).aP dst (.view n p esz lo (l+ys.length))) else .fail)
      else ib A dst esz bytes z es ys k
    |_=>.fail
   |_=>.fail
  |_=>.fail
 |_,_,_=>.fail
open Classical in
noncomputable def vm(A:ae)(dst:Option Nat)(esz bytes:Nat)(z:I)(m:Nat)(s:I):Option (List I)→(ae→cK)→cK
 |some es,k=>match s with
  | .view n p _ lo l=>match A.o n with
   |some (.box b)=>match b.at p with
    |some (.agg fs)=>if 0<m∧fs.length<lo+l+m then ib A dst esz bytes z es (List.replicate m z) k else .fail
    |_=>.fail
   |_=>.fail
  |_=>.fail
 |_,_=>.fail
open Classical in
noncomputable def nF(A:ae)(esz:Nat)(z:I)(k:ae→cK):I→cK
 | .view n p sz lo l=>match A.o n with
  |some (.box b)=>match b.at p with
   |some (.agg fs)=>if sz=esz∧I.cS (List.replicate l z)=I.cS ((fs.drop lo).take l) then k (A.aS n (.box (jc b p lo fs (List.replicate l z)))) else .fail
   |_=>.fail
  |_=>.fail
 | .nils _=>k A
 | .c0 _=>k A
 |_=>.fail
open Classical in
noncomputable def sS(A:ae)(dst:Option Nat)(esz:Nat)(k:ae→cK):I→Option (List I)→cK
 | .view n p sz lo l,some ys=>match A.o n with
  |some (.box b)=>match b.at p with
   |some (.agg fs)=>if sz=esz∧I.cS (ys.take (min ys.length l))=I.cS ((fs.drop lo).take (min ys.length l)) then k ((A.aS n (.box (jc b p lo fs (ys.take (min ys.length l))))).aP dst (.int .i64 (min ys.length l:Nat))) else .fail
   |_=>.fail
  |_=>.fail
 |_,_=>.fail
open Classical in
noncomputable def bj(A:ae)(dst:Option Nat)(op:cn)(rest:List aB)(k:ae→cK):cK :=
 match op with
 | .alloc z=>match dst with
  |some d=>match A.o d with
   |none=>k ((A.aS d (.box z)).put d (.ptr d []))
   |some _=>.fail
  |none=>.fail
 | .box x=>match dst with
  |some d=>match A.o d with
   |none=>if (ab A x).cm then k ((A.aS d (.box (ab A x))).put d (.ptr d [])) else .fail
   |some _=>.fail
  |none=>.fail
 | .br s x v=>match dst with
  |none=>match ab A x with
   | .ptr n p=>match A.o n with
    |some (.box b)=>match b.at p with
     |some old=>if yK s (ab A v) old then k (A.aS n (.box (b.dO p (ab A v)))) else .fail
     |none=>.fail
    |_=>.fail
   |_=>.fail
  |some _=>.fail
 | .dF e esz bytes z s x=>match ab A s with
  | .own n l=>match ab A x with
   | .slice sz ys=>match A.o n with
    |some (.bY T sz' es)=>if yD e esz bytes l sz ys T sz' es then k ((A.aS n (.bY e esz (es++ys))).aP dst (.own n (es.length+ys.length))) else .fail
    |some (.cT T xs)=>if yE e esz bytes l ys T xs z then k ((A.aS n (.cT e (xs++ry ys))).aP dst (.own n (xs.length+ys.length))) else .fail
    |_=>.fail
   |_=>.fail
  |s'=>fw A dst esz bytes z s' (eI A esz s') (eI A esz (ab A x)) k
 | .lI _ esz bytes z s n=>match ab A n with
  | .int _ m=>vm A dst esz bytes z m.toNat (ab A s) (eI A esz (ab A s)) k
  |_=>.fail
 | .nilS neg x=>if kj (ab A x) then .any (fun m=>m<2) (fun m=>k (A.aP dst (.bool (m==0)))) else cP (bu A (.nilS neg x)) fun v=>k (A.aP dst v)
 | .iQ esz z x=>match dst with
  |none=>nF A esz z k (ab A x)
  |some _=>.fail
 | .lQ esz x y=>sS A dst esz k (ab A x) (eI A esz (ab A y))
 | .call f args=>.call f (args.map (ab A)) (ca true A (args.map (ab A))) (ca false A (args.map (ab A))) dst rest A
 | .eF x args=>match ab A x with
  | .func f caps=>.call f (args.map (ab A)++caps) (ca true A (args.map (ab A)++caps)) (ca false A (args.map (ab A)++caps)) dst rest A
  | .raw v=>.pL v (args.map (ab A)) dst rest A
  |_=>.fail
 | .kL f args=>.kL f (args.map (ab A)) dst rest A
 | .j9=>match dst with
  |some d=>match A.o d with
   |none=>k ((A.aS d (.cB [] [])).put d (.mref d))
   |some _=>.fail
  |none=>.fail
 | .kB _ bytes z n=>match dst with
  |some d=>match A.o d with
   |none=>match ab A n with
    | .int _ n=>if 0≤n∧n.toNat*bytes≤281474976710656∧n.toNat≤maxLen then k ((A.aS d (.box (.agg (List.replicate n.toNat z)))).put d (.view d [] 1 0 n.toNat)) else .fail
    |_=>.fail
   |some _=>.fail
  |none=>.fail
 | .gY ty m key v=>match dst with
  |none=>match ab A m with
   | .mref n=>match A.o n with
    |some (.cB ks vs)=>match gB ty (ab A key) (ab A v) ks vs with
     |some (ks',vs')=>k (A.aS n (.cB ks' vs'))
     |none=>.fail
    |_=>.fail
   |_=>.fail
  |some _=>.fail
 | .kI x=>match dst with
  |some d=>match A.o d with
   |none=>match ab A x with
    | .cX ks vs=>k ((A.aS d (.it ks vs (List.range ks.length) none)).put d (.dC d))
    |_=>.fail
   |some _=>.fail
  |none=>.fail
 | .jN x=>match ab A x with
  | .dC n=>match A.o n with
   |some (.it ks vs left cur)=>if left=[] then k (A.aP dst (.tuple [.bool false])) else
     .any (fun i=>i∈left) fun i=>match ks[i]?,vs[i]? with
      |some kk,some x=>k ((A.aS n (.it ks vs (left.filter (· != i)) (some i))).aP dst (.tuple [.bool true,kk,x]))
      |_,_=>.fail
   |_=>.fail
  |_=>.fail
 |op=>cP (bu A op) fun v=>k (A.aP dst v)
noncomputable def aE:List aB→ae→cK
 | [],A=>.done A
 |g::rest,A=>match g.guard with
  |none=>bj A g.dst g.op rest (aE rest)
  |some (t,b)=>match A.t t with
   | .bool b'=>if b'=b then bj A g.dst g.op rest (aE rest) else aE rest (A.aP g.dst .undef)
   | .undef=>aE rest (A.aP g.dst .undef)
   |_=>.fail
def Rx(P:Program)(A:ae)(f:FuncId)(avs:List I)(r:I):Prop :=
 ∀ (c:cU) (a:Act) (w:World) (D:aR) (E:aZ) (vs:List Value),c.P=P→aX c A a w D E→gb (aY w D E) avs vs→∃ v,(callFunc f vs.toArray).run P w=.ok (.value v) w∧aY w D E r v
inductive bt (P:Program) (Y:Value→List I→List (Nat×ah)→cO→Prop) (dr:Bool) (K:ae→Prop):cK→Prop where
 |done {A:ae} : K A→bt P Y dr K (.done A)
 |flat {f:FuncId} {avs cargs:List I} {a2:Option (List I)} {dst:Option Nat} {rest:List aB} {A:ae} (r:I):ay P f cargs r→r.flat=true→bt P Y dr K (aE rest (A.aP dst r))→bt P Y dr K (.call f avs (some cargs) a2 dst rest A)
 |lead {f:FuncId} {avs cargs:List I} {a1:Option (List I)} {dst:Option Nat} {rest:List aB} {A:ae} (r:I):ay P f cargs r→bt P Y dr K (aE rest (A.aP dst r))→bt P Y dr K (.call f avs a1 (some cargs) dst rest A)
 |iE {f:FuncId} {avs cargs:List I} {a1 a2:Option (List I)} {dst:Option Nat} {rest:List aB} {ts:List (Nat×I)} {os0:List (Nat×ah)} (ns:List Nat) (r:I):dr=false→ay P f cargs r→ca true (au ts (iU ns os0)) avs=some cargs →
   a6 (fun n => !ns.contains n) (cW ns os0)→bt P Y dr K (aE rest ((au (gU ns ts) (cW ns os0)).aP dst r))→bt P Y dr K (.call f avs a1 a2 dst rest (au ts os0))
 |bS {f:FuncId} {avs:List I} {a1 a2:Option (List I)} {dst:Option Nat} {rest:List aB} {ts:List (Nat×I)} {os0:List (Nat×ah)} (aA:Bool) (ρ:List (Nat×Nat)) (os:List (Nat×ah)) (cargs:List I) (post:cO):dr=false→cC P f cargs os post →
   fT ρ os os0→jD aA (au ts (cW (jM ρ os) os0)) ρ os avs cargs→(∀ r os',post r os'→eh aA ρ os os0 r os') →
   (∀ r os',post r os'→bt P Y dr K (aE rest ((au ts (dI ρ os'++os0)).aP dst (r.aN (bA ρ)))))→bt P Y dr K (.call f avs a1 a2 dst rest (au ts os0))
 |zT {v:Value} {avs:List I} {dst:Option Nat} {rest:List aB} {ts:List (Nat×I)} {os0:List (Nat×ah)} (os:List (Nat×ah)) (cargs:List I) (post:cO):dr=false→Y v cargs os post →
   fT [] os os0→jD false (au ts (cW (jM [] os) os0)) [] os avs cargs→(∀ r os',post r os'→eh false [] os os0 r os') →
   (∀ r os',post r os'→bt P Y dr K (aE rest ((au ts (dI [] os'++os0)).aP dst (r.aN (bA [])))))→bt P Y dr K (.pL v avs dst rest (au ts os0))
 |ext {f:FuncId} {avs:List I} {dst:Option Nat} {rest:List aB} {A:ae} (r:I):dr=false→Rx P A f avs r→bt P Y dr K (aE rest (A.aP dst r))→bt P Y dr K (.kL f avs dst rest A)
 |any {p:Nat→Prop} {k:Nat→cK} : dr=false→(∀ m,p m→bt P Y dr K (k m))→bt P Y dr K (.any p k)
def DT(n:Nat):Option Nat→Bool
 |some d=>decide (d<n)
 |none=>true
def pK(P:Program)(n:Nat)(bX:Array Oper)(o:Oper):Option aB :=
 match dL P o with
 |none=>none
 |some g=>if DT n o.dst=true then
   match o.guard with
   |none=>some ⟨o.dst,g,none⟩
   |some (j,b)=>match (bX[j]?).bind (·.dst) with
    |some t=>some ⟨o.dst,g,some (t,b)⟩
    |none=>none
  else none
def kQ(P:Program)(n:Nat)(bX:Array Oper):List Oper→Option (List aB)
 | []=>some []
 |o::l=>match pK P n bX o,kQ P n bX l with
  |some g,some gs=>some (g::gs)
  |_,_=>none
end Go.Abs
namespace Go.Abs
open Go Go.RowKit
section
variable {c:cU} {A:ae} {o:Oper} {x:I}
theorem alZ{g:cn}(hg:dL c.P o=some g)(h:bu A g=some x):dW c A o x:=by
 unfold dL at hg;split at hg
 -- move
 ·rename_i y ho;simp only[zz1] at hg;obtain ⟨z,hz,rfl⟩:=hg;simp only[bu,u8] at h;subst h;exact KI (.inl ho) hz
 ·rename_i y ho;simp only[zz1] at hg;obtain ⟨z,hz,rfl⟩:=hg;simp only[bu,u8] at h;subst h;exact KI (.inr ho) hz
 -- pick
 ·rename_i q y z ho;split at hg
  ·rename_i q' y' z' h1 h2 h3;simp only[u8] at hg;subst hg;simp only[bu] at h;split at h
   ·rename_i t ht;simp only[u8] at h;subst h;exact aiU ho h1 h2 h3 ht
   ·cases h
  ·cases hg
 -- binOp
 ·rename_i op t y z yt ho;split at hg
  ·rename_i k y' z' hu h1 h2;simp only[u8] at hg;subst hg;exact KG ho h1 h2 h
  ·rename_i y' z' hu h1 h2;simp only[u8] at hg;subst hg;exact KG ho h1 h2 h
  ·rename_i e y' z' hu h1 h2;split at hg
   ·rename_i s;split at hg
    ·rename_i hop;simp only[u8] at hg;subst hg;have ho':o.op=.binOp (if (op==.neq)=true then .neq else .eql) t y z yt:=by
      rcases hop with rfl | rfl <;>simpa using ho
     simp only[bu] at h;split at h
     ·rename_i s' hs';simp only[u8] at h;subst h;have:=xA (r:=true) ho' hu h1 h2 (.inl ⟨s',hs',rfl⟩);rw[show (if (op==BinOp.neq)=true then !true else true) = !(op==BinOp.neq) from by cases (op==BinOp.neq) <;>rfl] at this;exact this
     ·rename_i s' es hs';split at h
      ·cases h
      ·rename_i hne;simp only[u8] at h;subst h;have:=xA (r:=false) ho' hu h1 h2 (.inr (.inl ⟨s',es,hs',by simpa using hne,rfl⟩));rw[show (if (op==BinOp.neq)=true then !false else false)=(op==BinOp.neq) from by cases (op==BinOp.neq) <;>rfl] at this;exact this
     ·rename_i n p s' lo k hs';simp only[u8] at h;subst h;have:=xA (r:=false) ho' hu h1 h2 (.inr (.inr ⟨n,p,s',lo,k,hs',rfl⟩));rw[show (if (op==BinOp.neq)=true then !false else false)=(op==BinOp.neq) from by cases (op==BinOp.neq) <;>rfl] at this;exact this
     ·cases h
    ·cases hg
   ·cases hg
  ·rename_i e y' z' hu h1 h2;split at hg
   ·rename_i hop;simp only[u8] at hg;subst hg;have ho':o.op=.binOp (if (op==.neq)=true then .neq else .eql) t y z yt:=by
     rcases hop with rfl | rfl <;>simpa using ho
    simp only[bu] at h;cases hb1:jo (ab A y') with
    |none=>rw[hb1] at h;cases h
    |some b1=>cases hb2:jo (ab A z') with
     |none=>rw[hb1,hb2] at h;cases h
     |some b2 =>
      rw[hb1,hb2] at h;simp only[ng] at h;split at h
      ·rename_i hor;simp only[u8] at h;subst h;exact aiV ho' hu h1 h2 hb1 hb2 (by simpa using hor)
      ·cases h
   ·cases hg
  ·rename_i d y' z' _ _ _ _ hu h1 h2;split at hg
   ·rename_i hop;simp only[zz1] at hg;obtain ⟨ty,hty,rfl⟩:=hg;have ho':o.op=.binOp (if (op==.neq)=true then .neq else .eql) t y z yt:=by
     rcases hop.1 with rfl | rfl <;>simpa using ho
    simp only[bu,zz1] at h;obtain ⟨r,hr,rfl⟩:=h;exact aiE ho' h1 h2 hop.2 hty hr
   ·cases hg
  ·cases hg
 -- unOp
 ·rename_i op t y ho;simp only[zz1] at hg;obtain ⟨z,hz,rfl⟩:=hg;simp only[bu] at h;split at h
  ·rename_i b hb;simp only[u8] at h;subst h;exact aiT ho hz hb
  ·rename_i k n hb;simp only[u8] at h;subst h;exact aiS ho hz hb
  ·rename_i k n hb;simp only[u8] at h;subst h;exact aiC ho hz hb
  ·cases h
 -- nilCheck
 ·rename_i y ho;simp only[zz1] at hg;obtain ⟨z,hz,rfl⟩:=hg;simp only[bu] at h;cases hy:ab A z <;>rw[hy] at h <;>simp only[na,u8] at h <;>try (cases h;done)
  ·subst h;rw[←hy];exact KJ ho hz (.inr ⟨_,hy⟩)
  ·subst h;rw[←hy];exact KJ ho hz (.inl ⟨_,_,hy⟩)
 -- makeMap
 ·simp only[u8] at hg;subst hg;simp[bu] at h
 -- lookup
 ·rename_i t m k ok ho;split at hg
  ·rename_i kt et m' k' hu h1 h2;split at hg
   ·rename_i ty z hk hz;split at hg
    ·rename_i hp;simp only[u8] at hg;subst hg;simp only[bu] at h;cases hm:gI A (ab A m') with
     |none=>rw[hm] at h;cases h
     |some q =>
      obtain ⟨ks,vs⟩:=q;rw[hm] at h;simp only[rE] at h;cases hl:gA ty z (ab A k') ks vs with
      |none=>rw[hl] at h;cases h
      |some q =>
       obtain ⟨v,b⟩:=q;rw[hl] at h;simp only[rF,u8] at h;subst h;exact aiQ ho hu hk hz hp h1 h2 hm hl
    ·cases hg
   ·cases hg
  ·cases hg
 -- mapUpdate,insert
 iterate 2
  ·split at hg
   ·split at hg
    ·simp only[u8] at hg;subst hg;simp[bu] at h
    ·cases hg
   ·cases hg
 -- makeSlice
 ·split at hg
  ·split at hg
   ·split at hg
    ·simp only[u8] at hg;subst hg;simp[bu] at h
    ·cases hg
   ·cases hg
  ·cases hg
 -- range
 ·split at hg
  ·simp only[zz1] at hg;obtain ⟨z,_,rfl⟩:=hg;simp[bu] at h
  ·cases hg
 -- next
 ·simp only[zz1] at hg;obtain ⟨z,_,rfl⟩:=hg;simp[bu] at h
 -- entry
 ·rename_i y ho;simp only[zz1] at hg;obtain ⟨z,hz,rfl⟩:=hg;simp only[bu] at h;split at h
  ·rename_i n hn;split at h
   ·rename_i ks vs left cur hob;cases cur with
    |none=>cases h
    |some i =>
     simp only[pP] at h;split at h
     ·rename_i kk xx hk hx;simp only[u8] at h;subst h;exact aiD ho hz hn hob hk hx
     ·cases h
   ·cases h
  ·cases h
 -- convert
 ·rename_i oo dst y ho;split at hg
  ·rename_i k0 k y' h1 h2 h3;simp only[u8] at hg;subst hg;simp only[bu] at h;split at h
   ·rename_i k1 n hn;simp only[u8] at h;subst h;exact aiB ho h1 h2 h3 hn
   ·cases h
  ·cases hg
 -- load
 ·rename_i t y ho;split at hg
  ·rename_i s y' h1 h2;simp only[u8] at hg;subst hg;simp only[bu] at h;split at h
   ·rename_i v hv;split at h
    ·rename_i hok;simp only[u8] at h;subst h;exact aiP ho h1 h2 hv hok
    ·cases h
   ·cases h
  ·cases hg
 -- fieldAddr
 ·rename_i t y f ho;split at hg
  ·rename_i fs y' hu h1;split at hg
   ·rename_i fd hf;split at hg
    ·cases hg
    ·rename_i hz;simp only[u8] at hg;subst hg;simp only[bu] at h;split at h
     ·rename_i gs hgs;split at h
      ·rename_i v hv;split at h
       ·rename_i hoff;simp only[u8] at h;subst h;exact aiH ho hu hf hz h1 hgs hv hoff
       ·cases h
      ·cases h
     ·rename_i n p hp;split at h
      ·rename_i gs hgs;split at h
       ·rename_i hoff;simp only[u8] at h;subst h;exact aiG ho hu hf hz h1 hp hgs hoff.1 hoff.2
       ·cases h
      ·cases h
     ·cases h
   ·cases hg
  ·cases hg
 -- field
 ·rename_i t y f ho;split at hg
  ·rename_i fs y' hu h1;split at hg
   ·rename_i fd hf;simp only[zz1] at hg;obtain ⟨s,hs,rfl⟩:=hg;simp only[bu] at h;split at h
    ·rename_i gs hgs;split at h
     ·rename_i v hv;split at h
      ·rename_i hoff;simp only[u8] at h;subst h;exact aiI ho hu hf hs h1 hgs hv hoff.1 hoff.2
      ·cases h
     ·cases h
    ·cases h
   ·cases hg
  ·cases hg
 -- indexAddr
 ·rename_i t y i ho;split at hg
  ·rename_i n e y' i' hu h1 h2;split at hg
   ·rename_i hinfo;obtain ⟨ti,hti⟩:=zw4.1 hinfo;simp only[u8] at hg;subst hg;simp only[bu] at h;split at h
    ·rename_i kk k hk;split at h
     ·rename_i hb;split at h
      ·rename_i gs hgs;split at h
       ·rename_i hev;simp only[zz1] at h;obtain ⟨v,hv,rfl⟩:=h;exact aiK ho hu hti h1 h2 hgs hk hb hev hv
       ·cases h
      ·rename_i m p hp;split at h
       ·rename_i gs hgs;split at h
        ·rename_i hev;simp only[u8] at h;subst h;exact aiJ ho hu hti h1 h2 hp hk hb hgs hev
        ·cases h
       ·cases h
      ·cases h
     ·cases h
    ·cases h
   ·cases hg
  ·rename_i e y' i' hu h1 h2;split at hg
   ·rename_i hinfo;obtain ⟨ti,hti⟩:=zw4.1 hinfo;simp only[u8] at hg;subst hg;simp only[bu] at h;split at h
    ·rename_i kk k hk;split at h
     ·rename_i sz es hes;split at h
      ·rename_i hb;obtain ⟨rfl,hb⟩:=hb;simp only[zz1] at h;obtain ⟨v,hv,rfl⟩:=h;exact aiL ho hu hti h1 h2 hes hk hb hv
      ·cases h
     ·rename_i m l hm;split at h
      ·rename_i T sz es hes;split at h
       ·rename_i hb;obtain ⟨rfl,rfl,hb⟩:=hb;simp only[zz1] at h;obtain ⟨v,hv,rfl⟩:=h;exact aiM ho hu hti h1 h2 hm hes hk hb hv
       ·cases h
      ·cases h
     ·rename_i m p sz lo l hm;split at h
      ·rename_i fs hfs;split at h
       ·rename_i hb;simp only[u8] at h;subst h;exact aiN ho hu hti h1 h2 hb.1 hm hfs hk hb.2
       ·cases h
      ·cases h
     ·cases h
    ·cases h
   ·cases hg
  ·cases hg
 -- index
 ·rename_i t y i ho;split at hg
  ·rename_i n e y' i' hu h1 h2;simp only[zz1] at hg;obtain ⟨s,hs,rfl⟩:=hg;simp only[bu] at h;split at h
   ·rename_i kk k hk;split at h
    ·rename_i hb;split at h
     ·rename_i gs hgs;split at h
      ·rename_i hev;split at h
       ·rename_i v hv;split at h
        ·rename_i hok;simp only[u8] at h;subst h;exact aiO ho hu hs h1 h2 hgs hk hb hev hv hok
        ·cases h
       ·cases h
      ·cases h
     ·cases h
    ·cases h
   ·cases h
  ·cases hg
 -- slice
 ·rename_i t y lo hi mx ho;split at hg
  ·rename_i n e y' hu h1;split at hg
   ·split at hg
    ·rename_i hinfo;obtain ⟨ti,hti⟩:=zw4.1 hinfo;simp only[u8] at hg;subst hg;simp only[bu] at h;split at h
     ·rename_i m p hp;split at h
      ·rename_i gs hgs;split at h
       ·rename_i hev;simp only[u8] at h;subst h;exact aiX ho hu hti h1 hp hgs hev.1 hev.2.1 hev.2.2
       ·cases h
      ·cases h
     ·rename_i gs hgs;split at h
      ·rename_i hev;simp only[u8] at h;subst h;exact aiY ho hu hti h1 hgs hev.1 hev.2.1
      ·cases h
     ·cases h
    ·cases hg
   ·cases hg
  ·rename_i e y' hu h1;split at hg
   ·rename_i lo' hi' mx' q1 q2 q3;split at hg
    ·rename_i hc;obtain ⟨ti,hti⟩:=zw4.1 hc.2;simp only[u8] at hg;subst hg;simp only[bu] at h;split at h
     ·rename_i sz es hes;split at h
      ·rename_i hsz;subst hsz;exact xB ho hu hti h1 q1 q2 q3 hc.1 (.inl hes) h
      ·cases h
     ·rename_i sz hes;split at h
      ·rename_i hsz;subst hsz;exact xB ho hu hti h1 q1 q2 q3 hc.1 (.inr (.inl ⟨hes,rfl⟩)) h
      ·cases h
     ·rename_i sz hes;split at h
      ·rename_i hsz;subst hsz;exact xB ho hu hti h1 q1 q2 q3 hc.1 (.inr (.inr ⟨hes,rfl⟩)) h
      ·cases h
     ·rename_i n p sz l0 k hv;split at h
      ·rename_i fs hfs;split at h
       ·rename_i hsz;exact aiW ho hu hti h1 q1 q2 q3 hc.1 hsz hv hfs h
       ·cases h
      ·cases h
     ·cases h
    ·cases hg
   ·cases hg
  ·cases hg
 -- build
 ·rename_i t parts ho;split at hg
  ·rename_i zs ps hz hp;split at hg
   ·rename_i fs hu;split at hg
    ·rename_i hc;simp only[u8] at hg;subst hg;simp only[bu,zz1] at h;obtain ⟨zs',h,rfl⟩:=h;exact KH ho hz hp (.inl ⟨fs,hu,hc.1,hc.2⟩) h
    ·cases hg
   ·rename_i n e hu;split at hg
    ·rename_i hc;simp only[u8] at hg;subst hg;simp only[bu,zz1] at h;obtain ⟨zs',h,rfl⟩:=h;exact KH ho hz hp (.inr ⟨n,e,hu,hc.1,hc.2.1,hc.2.2⟩) h
    ·cases hg
   ·cases hg
  ·cases hg
 -- buildSlice
 ·rename_i t len parts ho;split at hg
  ·rename_i e hu;split at hg
   ·rename_i ps hp;split at hg
    ·rename_i h0;obtain ⟨rfl,rfl,h0⟩:=h0;obtain ⟨ti,hti⟩:=zw4.1 h0;simp only[u8] at hg;subst hg;simp only[bu,u8] at h;subst h;exact aiA ho hu hti
    split at hg
    ·rename_i hc;obtain ⟨c1,c2,c3,fK,iD⟩:=hc;simp only[u8] at hg;subst hg;simp only[bu] at h;split at h
     ·rename_i es hes;split at h
      ·rename_i hev;simp only[u8] at h;subst h;refine aiz ho hu hp c1 c2 c3 fK iD hes (fun y hy =>?_) hev.2;have:=zx2.1 hev.1 y hy;simpa using this
      ·cases h
     ·cases h
    ·cases hg
   ·cases hg
  ·cases hg
 -- extract
 ·rename_i y i ho;simp only[zz1] at hg;obtain ⟨z,hz,rfl⟩:=hg;simp only[bu] at h;split at h
  ·rename_i fs hfs;exact aiF ho hz hfs h
  ·cases h
 -- makeFunc
 ·rename_i f first caps ho
  split at hg
  ·rename_i hfirst;simp only[zz1] at hg;obtain ⟨ys,hys,rfl⟩:=hg;simp only[bu] at h;split at h
   ·rename_i hv;simp only[u8] at h;subst h;have hf:first = #[]:=by simpa using hfirst
    rw[hf] at ho;refine aiR ho hys (fun y hy =>?_);have:=zx2.1 hv (ab A y) (zx9.2 ⟨y,hy,rfl⟩);exact this
   ·cases h
  ·cases hg
 -- alloc
 ·simp only[zz1] at hg;obtain ⟨z,_,rfl⟩:=hg;simp[bu] at h
 -- box
 ·simp only[zz1] at hg;obtain ⟨z,_,rfl⟩:=hg;simp[bu] at h
 -- store
 ·split at hg
  ·split at hg
   ·simp only[u8] at hg;subst hg;simp[bu] at h
   ·cases hg
  ·cases hg
 -- call
 ·split at hg
  ·simp only[zz1] at hg;obtain ⟨z,_,rfl⟩:=hg;simp[bu] at h
  ·simp only[zz1] at hg;obtain ⟨z,_,rfl⟩:=hg;simp[bu] at h
 ·split at hg
  ·simp only[u8] at hg;subst hg;simp[bu] at h
  ·cases hg
 -- len
 ·rename_i args tys ho;split at hg
  ·rename_i y ty hargs htys;have ho':o.op=.call { callee:=.builtin .len,args := #[y],argTypes := #[ty] } :=by
    rw[ho];have e1:args = #[y]:=by apply Array.ext';simpa using hargs
    have e2:tys = #[ty]:=by apply Array.ext';simpa using htys
    rw[e1,e2]
   split at hg
   ·rename_i e hu;simp only[zz1] at hg;obtain ⟨y',hy,rfl⟩:=hg;simp only[bu] at h;split at h
    ·rename_i sz es hes;simp only[u8] at h;subst h;refine pX ho' hu (.inl ⟨e,rfl⟩) hy (fun a w D E hs v hv =>?_);rw[hes] at hv;obtain ⟨ad,cap,e1,e2,e3,_⟩:=oi hv;exact ⟨zu1 e2 e3,fun _=>⟨ad,cap,e1⟩,fun e=>by cases e⟩
    ·rename_i sz hes;simp only[u8] at h;subst h;refine pX (n:=0) ho' hu (.inl ⟨e,rfl⟩) hy (fun a w D E hs v hv =>?_);rw[hes] at hv;obtain ⟨cs,q1,q2⟩:=hv;simp only[af] at q2;exact ⟨by simp[maxLen],fun _=>⟨none,0,by simpa[bL,I.isAgg,q2] using q1.symm⟩,fun e=>by cases e⟩
    ·rename_i sz hes;simp only[u8] at h;subst h;refine pX (n:=0) ho' hu (.inl ⟨e,rfl⟩) hy (fun a w D E hs v hv =>?_);rw[hes] at hv;obtain ⟨cs,q1,q2⟩:=hv;simp only[af] at q2;obtain ⟨ad,q2⟩:=q2;exact ⟨by simp[maxLen],fun _=>⟨ad,0,by simpa[bL,I.isAgg,q2] using q1.symm⟩,fun e=>by cases e⟩
    ·rename_i m l hm;split at h
     ·rename_i T sz es hes;split at h
      ·rename_i hl;subst hl;simp only[u8] at h;subst h;refine pX ho' hu (.inl ⟨e,rfl⟩) hy (fun a w D E hs v hv =>?_);rw[hm] at hv;rcases hs.own hes hv with ⟨rfl,_,rfl⟩ | ⟨b,cap,cs,pre,rest,_,rfl,_,_,_,_,_,k8,k9,_⟩
       ·exact ⟨by simp[maxLen],fun _=>⟨none,0,rfl⟩,fun e=>by cases e⟩
       ·exact ⟨zu1 k8 k9,fun _=>⟨_,_,rfl⟩,fun e=>by cases e⟩
      ·cases h
     ·cases h
    ·rename_i n p sz lo k hm;simp only[u8] at h;subst h;refine pX ho' hu (.inl ⟨e,rfl⟩) hy (fun a w D E hs v hv =>?_);rw[hm] at hv;obtain ⟨cs,q1,q2⟩:=hv;simp only[af] at q2;obtain ⟨b,aQ,off,l,_,_,_,q2,q3,q4,_⟩:=q2;exact ⟨by omega,fun _=>⟨_,_,by simpa[bL,I.isAgg,q2] using q1.symm⟩,fun e=>by cases e⟩
    ·cases h
   ·rename_i hu;simp only[zz1] at hg;obtain ⟨y',hy,rfl⟩:=hg;simp only[bu] at h;split at h
    ·rename_i s hs';simp only[u8] at h;subst h;refine pX ho' hu (.inr rfl) hy (fun a w D E hs v hv =>?_);rw[hs'] at hv;obtain ⟨e1,e2⟩:=oj hv;exact ⟨e2,(fun e=>by obtain ⟨_,e⟩:=e;cases e),fun _=>⟨s,e1,rfl⟩⟩
    ·cases h
   ·cases hg
  ·cases hg
 -- append
 ·split at hg
  ·split at hg
   ·split at hg
    ·simp only[zz1] at hg;obtain ⟨z,_,rfl⟩:=hg;simp[bu] at h
    ·split at hg
     ·simp only[zz1] at hg;obtain ⟨z,_,rfl⟩:=hg;simp[bu] at h
     ·cases hg
   ·cases hg
  ·cases hg
 -- cap
 ·rename_i args tys ho;split at hg
  ·rename_i y ty hargs htys;have ho':o.op=.call { callee:=.builtin .cap,args := #[y],argTypes := #[ty] } :=by
    rw[ho];have e1:args = #[y]:=by apply Array.ext';simpa using hargs
    have e2:tys = #[ty]:=by apply Array.ext';simpa using htys
    rw[e1,e2]
   split at hg
   ·rename_i e hu;simp only[zz1] at hg;obtain ⟨y',hy,rfl⟩:=hg;simp only[bu] at h;split at h
    ·rename_i sz hes;simp only[u8] at h;subst h;refine xz ho' hu hy (fun a w D E hs v hv =>?_);rw[hes] at hv;obtain ⟨cs,q1,q2⟩:=hv;simp only[af] at q2;exact ⟨by simp[maxLen],_,_,by simpa[bL,I.isAgg,q2] using q1.symm⟩
    ·rename_i sz hes;simp only[u8] at h;subst h;refine xz ho' hu hy (fun a w D E hs v hv =>?_);rw[hes] at hv;obtain ⟨cs,q1,q2⟩:=hv;simp only[af] at q2;obtain ⟨ad,q2⟩:=q2;exact ⟨by simp[maxLen],_,_,by simpa[bL,I.isAgg,q2] using q1.symm⟩
    ·rename_i n p sz lo k hm;split at h
     ·rename_i fs hfs;simp only[u8] at h;subst h;refine xz ho' hu hy (fun a w D E hs v hv =>?_);rw[hm] at hv;obtain ⟨_,b,cs,T,off,c1,c2,c3,_,_,_,_,_,_,_,_,_,_,_,q1,q2⟩:=hs.view hv hfs;exact ⟨by omega,_,_,q2⟩
     ·cases h
    ·cases h
   ·cases hg
  ·cases hg
 -- clear
 ·split at hg
  ·split at hg
   ·simp only[zz1] at hg;obtain ⟨z,_,rfl⟩:=hg;simp[bu] at h
   ·cases hg
  ·cases hg
 -- copy
 ·split at hg
  ·split at hg
   ·split at hg
    ·simp only[u8] at hg;subst hg;simp[bu] at h
    ·cases hg
   ·cases hg
  ·cases hg
 ·cases hg
theorem gb.append{α β:Type}{R:α→β→Prop} : ∀ {xs:List α} {ys:List β} {xs':List α} {ys':List β},gb R xs ys→gb R xs' ys'→gb R (xs++xs') (ys++ys')
 |_,_,_,_,.nil,h=>h
 |_,_,_,_,.cons h1 h2,h=>.cons h1 (h2.append h)
theorem zn{w:World}{D:aR}{E:aZ} : ∀ {xs:List I} {vs:List Value},aH w D E xs vs→gb (aY w D E) xs vs
 | [],vs,h=>by simp only[aH] at h;subst h;exact .nil
 |x::xs,vs,h=>by
  simp only[aH] at h;obtain ⟨v,rest,cs,rfl,h1,h2,h3⟩:=h;exact .cons (m9 h1 h2) (zn h3)
theorem Ux {P : Program} {f : FuncId} (h : ij P f = true) : ∃ fn, P.funcs[f]? = some fn ∧ ¬ fn.name = "runtime.NumGoroutine" ∧ ¬ fn.body = none := by
 unfold ij at h;cases hf:P.funcs[f]? with
 |none=>simp[hf] at h
 |some fn =>
  simp only[hf,Option.any_some,zz2,bne_iff_ne,ne_eq] at h;refine ⟨fn,rfl,by simpa using h.1,?_⟩;cases hb:fn.body <;>simp_all
theorem zj{P:Program}{w:World}{f:FuncId}{args:Array Value}(h:ij P f=true):(callFunc f args).run P w=.ok (.enter f args) w:=by
 obtain ⟨fn,h1,h2,h3⟩:=Ux h;simp[callFunc,h1,h2,h3]
theorem ay.ank{f:FuncId}{avs cargs:List I}{r:I}{vs:List Value}{a:Act}{w:World}{D:aR}{E:aZ}(hs:aX c A a w D E)(h:ay c.P f cargs r)(hf:r.flat=true)(hc:ca true A avs=some cargs)(hv:gb (aY w D E) avs vs) :
  Calls c.P f vs.toArray w fun e w'=>∃ v D',e=.returned v∧aX c A a w' D' E∧aY w' D' E r v:=by
 have hw:iM true A D E (fun b _=>b<w.heap.size):=by
  refine ⟨fun b o hd=>hs.dv b o hd,fun n T sz es b cap hn aw o _=>hs.gh aw rfl,fun _ n x b aQ hn aw o _=>hs.gh aw rfl,fun _ n ks vs b hn aw=>hs.gh aw rfl⟩
 have hrv:=mX (E':=dS) hs (fun _ _ h=>h) hw avs cargs vs (nq _ _ hv (rm hc)) hc;refine (h.2 w _ vs (fun _ _ hd=>hd) hrv).mono fun e w' ⟨v,D',he,h1,h2,h3,h4⟩=>⟨v,D,he,?_,aY.flat hf h1⟩
 exact hs.grow h2 (fun _ _ hd=>hd) (fun _ _ hd _=>hd) (fun b o hd=>Nat.lt_of_lt_of_le (hs.dv b o hd) h2.size)
theorem ay.anm{f:FuncId}{avs cargs:List I}{r:I}{vs:List Value}{a:Act}{w:World}{D:aR}{E:aZ}(hs:aX c A a w D E)(h:ay c.P f cargs r)(hc:ca false A avs=some cargs)(hv:gb (aY w D E) avs vs) :
  Calls c.P f vs.toArray w fun e w'=>∃ v D',e=.returned v∧aX c A a w' D' E∧aY w' D' E r v:=by
 obtain ⟨hs1,hw⟩:=hs.pg;have hrv:=mX (E':=dS) hs (fun _ _ h=>h) hw avs cargs vs (nq _ _ hv (rm hc)) hc;refine (h.2 w _ vs hs1.dv hrv).mono fun e w' ⟨v,D',he,h1,h2,h3,h4⟩=>⟨v,fun b o=>pb A D E b o∨(w.heap.size≤b∧D' b o),he,?_,?_⟩
 ·refine hs1.grow h2 (fun _ _ hd=>.inl hd) ?_ ?_
  ·rintro b o (hd | ⟨hle,_⟩) hlt
   ·exact hd
   ·omega
  ·rintro b o (hd | ⟨_,hd⟩)
   ·exact Nat.lt_of_lt_of_le (hs1.dv b o hd) h2.size
   ·exact h3 b o hd
 ·refine aY.bN (E:=dS) ⟨fun b o hd =>?_,fun _ _ _ _ h=>h,fun n b aQ hn=>by simp[dS] at hn,fun n aF l hn=>by simp[dS] at hn,fun n b hn=>by simp[dS] at hn,fun n b hn=>by simp[dS] at hn,fun _ _ _ _ h=>h⟩ h1;rcases Nat.lt_or_ge b w.heap.size with hlt | hge
  ·exact .inl (h4 b o hd hlt)
  ·exact .inr ⟨hge,hd⟩
theorem Lo(p:Nat→Bool)(os:List (Nat×ah))(n:Nat):aj (os.filter fun q=>p q.1) n=if p n then aj os n else none:=by
 induction os with
 |nil=>simp[aj]
 |cons q os ih =>
  obtain ⟨k,v⟩:=q;simp only[zx4];by_cases hk:p k=true
  ·simp only[hk,if_true,aj,ih];by_cases hn:n=k
   ·subst hn;simp only[hk,if_true]
   ·simp only[if_neg hn]
  ·simp only[hk,zz6,if_false,ih,aj];by_cases hn:n=k
   ·subst hn;simp[hk]
   ·simp only[if_neg hn]
theorem mZ(ns:List Nat)(os:List (Nat×ah))(n:Nat):aj (cW ns os) n=if ns.contains n then none else aj os n:=by
 rw[cW,Lo (fun n => !ns.contains n)];cases ns.contains n <;>rfl
theorem oS(ns:List Nat)(os:List (Nat×ah))(n:Nat):aj (iU ns os) n=if ns.contains n then aj os n else none:=Lo _ _ _
theorem ue{p:Nat→Bool} : ∀ {os:List (Nat×ah)},a6 p os→∀ k x,aj os k=some x→x.only p=true
 | [],_,k,x,hx=>by simp[aj] at hx
 |(j,v)::r,h,k,x,hx=>by
  simp only[a6] at h;simp only[aj] at hx;split at hx
  ·simp only[u8] at hx;subst hx;exact h.1
  ·exact ue h.2 k x hx
theorem Lp(ns:List Nat):∀ (ts:List (Nat×I)) (t:Nat),b7 (gU ns ts) t=if (b7 ts t).only (fun n => !ns.contains n) then b7 ts t else .du
 | [],t=>by simp[gU,b7,I.only]
 |(k,v)::r,t=>by
  simp only[gU,zz8,b7];by_cases h:t=k
  ·simp only[if_pos h]
  ·simp only[if_neg h];exact Lp ns r t
theorem aX.EJ{a:Act}{w:World}{D:aR}{E:aZ}{ts:List (Nat×I)}{os0:List (Nat×ah)}(h:aX c (au ts os0) a w D E)(ns:List Nat)(ho:a6 (fun n => !ns.contains n) (cW ns os0)) :
  ∃ D' E',aX c (au (gU ns ts) (cW ns os0)) a w D' E'∧iM true (au ts (iU ns os0)) D E D':=by
 have h1:=h.pg.1;have hw1:=h.pg.2;obtain ⟨D1,hD1⟩:∃ D1,D1=pb (au ts os0) D E:=⟨_,rfl⟩
 rw[←hD1] at h1 hw1;obtain ⟨D2,hD2⟩:∃ D2:aR,D2=fun b o=>D1 b o∨(∃ n x aQ,ns.contains n=true∧aj os0 n=some (.box x)∧E n=some (.aA b aQ)∧o<x.size)∨∃ n ks vs,ns.contains n=true∧aj os0 n=some (.cB ks vs)∧E n=some (.cB b)∧o=0:=⟨_,rfl⟩
 obtain ⟨E2,hE2⟩:∃ E2:aZ,E2=fun n=>if ns.contains n then none else E n:=⟨_,rfl⟩
 have e2:∀ n,(!ns.contains n)=true→E2 n=E n:=fun n hn=>by rw[hE2];simp at hn;simp[hn]
 have hl:dX w D1 E2 w D2 E2:=⟨fun b o hd=>by rw[hD2];exact .inl hd,fun _ _ _ _ h=>h,fun _ _ _ h=>h,fun _ aF l h=>⟨aF,l,h,zz7 _,fun _=>rfl⟩,fun _ _ h=>h,fun _ _ h=>h,fun _ _ _ _ h=>h⟩
 have qd:∀ b o,D2 b o→D1 b o∨∃ n e q,ns.contains n=true∧E n=some e∧e.aF=some b∧c.fq b∧w.heap[b]?=some q:=fun b o hd=>by
  rw[hD2] at hd;rcases hd with hd | ⟨n,x,aQ,k1,k2,k3,k4⟩ | ⟨n,ks,vs,k1,k2,k3,_⟩
  ·exact .inl hd
  ·obtain ⟨b',cs,T,q1,q2,q3,_⟩:=h.box (n:=n) (x:=x) (by simpa[au] using k2);rw[k3] at q1;simp only[u8,bW.aA.injEq] at q1;obtain ⟨rfl,rfl⟩:=q1;exact .inr ⟨n,_,_,k1,k3,rfl,q2,q3⟩
  ·obtain ⟨b',es,ck,q1,q2,q3,_⟩:=h.map (n:=n) (ks:=ks) (vs:=vs) (by simpa[au] using k2);rw[k3] at q1;cases q1;exact .inr ⟨n,_,_,k1,k3,rfl,q2,q3⟩
 refine ⟨D2,E2,⟨h1.sz,h1.e8,fun t =>?_,h1.eb,fun b o hd hm =>?_,fun b o hd =>?_,fun n =>?_,fun n m e e' b g1 g2 g3 g4 =>?_,fun n e hn =>?_,h1.fj,fun b o hd=>hl.df b o (h1.cM b o hd),h1.fp,h1.fQ⟩,?_⟩
 ·simp only[au,Lp];have ht:=h1.eA t;simp only[au] at ht;split
  ·rename_i hp;exact aY.bN hl (aY.dJ e2 hp ht)
  ·simp[aY]
 ·rcases qd b o hd with hd | ⟨n,e,q,_,_,_,k,_⟩
  ·exact h1.df b o hd hm
  ·exact absurd k hm
 ·rcases qd b o hd with hd | ⟨n,e,q,_,_,_,_,k⟩
  ·exact h1.dv b o hd
  ·exact gj k
 ·simp only[au,mZ];by_cases hn:ns.contains n=true
  ·simp only[hn,if_true,dc];rw[hE2];simp only[hn,if_true]
  ·have hnb:(!ns.contains n)=true:=by simpa using hn
   simp only[hn,zz6,if_false];have hob:=h1.bS n;simp only[au] at hob;cases hx:aj os0 n with
   |none=>rw[hx] at hob;simp only[dc] at hob ⊢;rw[e2 n hnb];exact hob
   |some x =>
    have hon:=ue ho n x (by rw[mZ,if_neg hn];exact hx);have nD:∀ e b,E n=some e→e.aF=some b→∀ o,D2 b o→D1 b o:=fun e b he hb o hd=>by
     rcases qd b o hd with hd | ⟨m,e',q,k1,k3,k2,_⟩
     ·exact hd
     ·have:=h.cZ n m e _ b he k3 hb k2;subst this;exact absurd k1 hn
    rw[hx] at hob;cases x with
    |box x =>
     obtain ⟨b,cs,T,k1,k2,k3,k4,k5⟩:=hob;exact ⟨b,cs,T,(e2 n hnb).trans k1,k2,k3,af.bN hl _ _ (af.dJ e2 _ _ (by simpa[ah.only] using hon) k4),fun o hd=>k5 o (nD _ b k1 rfl o hd)⟩
    |bY T sz es =>
     obtain ⟨aF,k1,k2,k3⟩:=hob;refine ⟨aF,(e2 n hnb).trans k1,k2,?_⟩;cases aF with
     |none=>exact k3
     |some bc =>
      obtain ⟨b,cap⟩:=bc;obtain ⟨cs,pre,rest,q1,q2,q3,q4,q5,q6,q7,q8⟩:=k3;exact ⟨cs,pre,rest,q1,q2,q3,aI.bN hl _ _ (aI.dJ e2 _ _ (by simpa[ah.only] using hon) q4),q5,q6,q7,fun o hd=>q8 o (nD _ b k1 rfl o hd)⟩
    |cT T xs =>
     obtain ⟨aF,k1,k2,k3⟩:=hob;refine ⟨aF,(e2 n hnb).trans k1,k2,?_⟩;cases aF with
     |none=>exact k3
     |some bc =>
      obtain ⟨b,cap⟩:=bc;obtain ⟨cs,r,q1,q2,q3,q4,q5,q6,q7⟩:=k3;exact ⟨cs,r,q1,q2,q3,q4,q5,q6,fun o hd=>q7 o (nD _ b k1 rfl o hd)⟩
    |dU x =>
     obtain ⟨b,k1,k2,k3,k4,k5⟩:=hob;exact ⟨b,(e2 n hnb).trans k1,k2,k3,k4,fun o hd=>k5 o (nD _ b k1 rfl o hd)⟩
    |cB ks vs =>
     obtain ⟨b,es,ck,k1,k2,k3,k4,k5,k6,k7⟩:=hob;simp only[ah.only,zz2] at hon;exact ⟨b,es,ck,(e2 n hnb).trans k1,k2,k3,k4,aH.bN hl _ _ (aH.dJ e2 _ _ hon.1 k5),aH.bN hl _ _ (aH.dJ e2 _ _ hon.2 k6),fun o hd=>k7 o (nD _ b k1 rfl o hd)⟩
    |it ks vs left cur =>
     obtain ⟨r,b,es,ck,si,se,la,k1,k2,k3,k4,k5,k6,k7,k8,k9,k9',k10⟩:=hob;simp only[ah.only,zz2] at hon;exact ⟨r,b,es,ck,si,se,la,(e2 n hnb).trans k1,k2,k3,k4.bN hl,aH.bN hl _ _ (aH.dJ e2 _ _ hon.1 k5),aH.bN hl _ _ (aH.dJ e2 _ _ hon.2 k6),k7,k8,k9,k9',fun o hd=>k10 o (nD _ r k1 rfl o hd)⟩
 ·have cut:∀ n e,E2 n=some e→E n=some e:=fun n e he=>by
   rw[hE2] at he;simp only at he;split at he
   ·cases he
   ·exact he
  exact h.cZ n m e e' b (cut n e g1) (cut m e' g2) g3 g4
 ·by_cases hm:ns.contains n=true
  ·left;rw[hE2];simp only[hm,if_true]
  ·rw[e2 n (by simpa using hm)];exact h.ed n e hn
 ·refine ⟨fun b o hd=>by rw[hD2];exact .inl (hw1.df b o hd),fun n T sz es b cap hn aw o hlt =>?_,fun _ n x b aQ hn aw o hlt =>?_,fun _ n ks vs b hn aw =>?_⟩
  ·simp only[au,oS] at hn;split at hn
   ·rw[hD2];exact .inl (hw1.bY n T sz es b cap hn aw o hlt)
   ·cases hn
  ·simp only[au,oS] at hn;split at hn
   ·rename_i hk;rw[hD2];exact .inr (.inl ⟨n,x,aQ,hk,hn,aw,hlt⟩)
   ·cases hn
  ·simp only[au,oS] at hn;split at hn
   ·rename_i hk;rw[hD2];exact .inr (.inr ⟨n,ks,vs,hk,hn,aw,rfl⟩)
   ·cases hn
theorem ay.anl{f:FuncId}{avs cargs:List I}{r:I}{vs:List Value}{a:Act}{w:World}{D:aR}{E:aZ}{ts:List (Nat×I)}{os0:List (Nat×ah)}(hs:aX c (au ts os0) a w D E)(ns:List Nat)(ho:a6 (fun n => !ns.contains n) (cW ns os0))
  (h:ay c.P f cargs r) (hc:ca true (au ts (iU ns os0)) avs=some cargs) (hv:gb (aY w D E) avs vs) :
  Calls c.P f vs.toArray w fun e w'=>∃ v D' E',e=.returned v∧aX c (au (gU ns ts) (cW ns os0)) a w' D' E'∧aY w' D' E' r v:=by
 obtain ⟨D1,E1,hs1,hw⟩:=hs.EJ ns ho;have hu:eC (au ts (iU ns os0)) (au ts os0):=fun n x hx=>by
  simp only[au,oS] at hx ⊢;split at hx
  ·exact hx
  ·cases hx
 have hrv:=mX (E':=dS) hs hu hw avs cargs vs (nq _ _ hv (rm hc)) hc;refine (h.2 w _ vs hs1.dv hrv).mono fun e w' ⟨v,D',he,h1,h2,h3,h4⟩=>⟨v,fun b o=>D1 b o∨(w.heap.size≤b∧D' b o),E1,he,?_,?_⟩
 ·refine hs1.grow h2 (fun _ _ hd=>.inl hd) ?_ ?_
  ·rintro b o (hd | ⟨hle,_⟩) hlt
   ·exact hd
   ·omega
  ·rintro b o (hd | ⟨_,hd⟩)
   ·exact Nat.lt_of_lt_of_le (hs1.dv b o hd) h2.size
   ·exact h3 b o hd
 ·refine aY.bN (E:=dS) ⟨fun b o hd =>?_,fun _ _ _ _ h=>h,fun n b aQ hn=>by simp[dS] at hn,fun n aF l hn=>by simp[dS] at hn,fun n b hn=>by simp[dS] at hn,fun n b hn=>by simp[dS] at hn,fun _ _ _ _ h=>h⟩ h1;rcases Nat.lt_or_ge b w.heap.size with hlt | hge
  ·exact .inl (h4 b o hd hlt)
  ·exact .inr ⟨hge,hd⟩
theorem vp{a:Act}{w:World}{D D1:aR}{E:aZ}{ts:List (Nat×I)}{os0 os:List (Nat×ah)}{ρ:List (Nat×Nat)}{aA:Bool}{A0:ae}(hs:aX c (au ts os0) a w D E)(hu:eC A0 (au ts os0))(hD:∀ b o,D b o→D1 b o)(hw:iM aA A0 D E D1) :
  ∀ (avs cargs:List I) (vs:List Value),jD aA A0 ρ os avs cargs→gb (aY w D E) avs vs→aH w D1 (aw ρ os E) cargs vs
 | [],[],vs,_,hv=>by cases hv;simp[aH]
 | [],_::_,_,h,_=>by simp[jD] at h
 |_::_,[],_,h,_=>by simp[jD] at h
 |x::xs,y::ys,vs,h,hv=>by
  cases hv with
  |cons hv hvs =>
  rename_i v vs;simp only[jD] at h;have ih:=vp hs hu hD hw xs ys vs h.2 hvs;have hl:dX w D (aw ρ os E) w D1 (aw ρ os E):=⟨hD,fun _ _ _ _ h=>h,fun _ _ _ h=>h,fun _ aF l h=>⟨aF,l,h,zz7 _,fun _=>rfl⟩,fun _ _ h=>h,fun _ _ h=>h,fun _ _ _ _ h=>h⟩
  have h1:∃ cs,bL y v cs∧af w D1 (aw ρ os E) y cs:=by
   rcases h.1 with ⟨k1,k2,k3⟩ | k
   ·rw[k1] at hv;have h2:=aY.bN hl ((aY.aN (w:=w) (D:=D) (p:=al os) (ρ:=bA ρ) (E:=aw ρ os E) (E':=E) (fun n hn=>by simp only[aw,hn,if_true]) k2).1 hv);cases y <;>simp only[aY] at h2 <;>first | (simp[I.cm] at k3;done) | exact h2
   ·have h2:aH w D E [x] [v]:=nq [x] [v] (.cons hv .nil) (by
     intro z hz;simp only[List.mem_singleton] at hz;subst hz;cases z <;>simp_all[bl,I.cm])
    have h3:=mX (E':=aw ρ os E) hs hu hw [x] [y] [v] h2 (by simp[ca,k]);simp only[aH] at h3;obtain ⟨v',rest,cs,e,k1,k2,_⟩:=h3;simp only[List.cons.injEq] at e;obtain ⟨rfl,_⟩:=e;exact ⟨cs,k1,k2⟩
  obtain ⟨cs,k1,k2⟩:=h1;simp only[aH];exact ⟨v,vs,cs,rfl,k1,k2,ih⟩
theorem eC.drop(ts:List (Nat×I))(ns:List Nat)(os0:List (Nat×ah)):eC (au ts (cW ns os0)) (au ts os0):=fun n x hx=>by
 simp only[au,mZ] at hx ⊢;split at hx
 ·cases hx
 ·exact hx
theorem qL.use{run:Array Value→World→(Ending→World→Prop)→Prop}{since:World→aR→aZ→Prop}{avs cargs:List I}{post:cO}{vs:List Value}{a:Act}{w:World}{D:aR}{E:aZ}{ts:List (Nat×I)}{os0 os:List (Nat×ah)}{ρ:List (Nat×Nat)}
  (hs:aX c (au ts os0) a w D E) (h:qL run since cargs os post) (aA:Bool) (hmono:∀ {vs w R R'},run vs w R→(∀ e w,R e w→R' e w)→run vs w R') (hsince:(aA=true→∀ D E,since w D E)∧(aA=false→since w (pb (au ts os0) D E) (aw ρ os E)))
  (hg:fT ρ os os0) (ha:jD aA (au ts (cW (jM ρ os) os0)) ρ os avs cargs) (hb:∀ r os',post r os'→eh aA ρ os os0 r os') (hv:gb (aY w D E) avs vs) :
  run vs.toArray w fun e w'=>∃ v r os' D2 E2,e=.returned v∧post r os'∧aX c (au ts (dI ρ os'++os0)) a w' D2 E2∧aY w' D2 E2 (r.aN (bA ρ)) v∧∀ m e,aw ρ os E m=some e→al os' m=true→∃ e',E2 (bA ρ m)=some e'∧e.le e':=by
 have notName:∀ n,(jM ρ os).contains n=false→∀ m,al os m=true→bA ρ m≠n:=fun n hn m hm he=>by
  obtain ⟨q,hq,rfl⟩:=xU.1 hm;have:(jM ρ os).contains n=true:=by simp only[jM,List.contains_iff_mem,zx9];exact ⟨q,hq,he⟩
  rw[this] at hn;cases hn
 have other:∀ {D:aR},aX c (au ts os0) a w D E→∀ n e b x,aj (cW (jM ρ os) os0) n=some x→E n=some e→e.aF=some b→¬ dD (aw ρ os E) b:=fun hs n e b x hx he hb ho=>by
  obtain ⟨m,e',h1,h2,hb',_⟩:=hs.tr hg ho;rw[mZ] at hx;split at hx
  ·cases hx
  ·rename_i hc;have:=hs.cZ n (bA ρ m) e _ b he h2 hb hb';exact notName n (by simpa using hc) m h1 this.symm
 cases aA with
 |true =>
  obtain ⟨D1,hD1⟩:∃ D1:aR,D1=fun b o=>D b o∨(b<w.heap.size∧¬ dD (aw ρ os E) b):=⟨_,rfl⟩
  have hD:∀ b o,D b o→D1 b o:=fun b o hd=>by rw[hD1];exact .inl hd
  have hw:iM true (au ts (cW (jM ρ os) os0)) D E D1:=by
   refine ⟨hD,fun n T sz es b cap hn aw o _ =>?_,fun _ n x b aQ hn aw o _ =>?_,fun _ n ks vs b hn aw =>?_⟩
   ·rw[hD1];exact .inr ⟨hs.gh aw rfl,other hs n _ b _ hn aw rfl⟩
   ·rw[hD1];exact .inr ⟨hs.gh aw rfl,other hs n _ b _ hn aw rfl⟩
   ·rw[hD1];exact .inr ⟨hs.gh aw rfl,other hs n _ b _ hn aw rfl⟩
  have hrv:=vp hs (eC.drop ts _ os0) hD hw avs cargs vs ha hv;refine hmono (h w D1 (aw ρ os E) vs (hsince.1 rfl _ _) (fun b o hd=>by
   rw[hD1] at hd;rcases hd with hd | hd
   ·exact hs.dv b o hd
   ·exact hd.1) (hs.KO hg hD fun b o hd ho=>by
    rw[hD1] at hd;rcases hd with hd | hd
    ·exact hd
    ·exact absurd ho hd.2) hrv) ?_
  rintro e w' ⟨v,D',E',r,os',he,hp,h1,h2,h3,h4,h5,h6,h7,h8⟩;obtain ⟨D2,E2,k1,k2⟩:=hs.pI hg hD (fun h=>by cases h) (hb r os' hp) h1 h2 h3 h5 h4 h8 h6 h7;exact ⟨v,r,os',D2,E2,he,hp,k1,k2⟩
 |false =>
  obtain ⟨hs1,hw⟩:=hs.pg;have hw':iM false (au ts (cW (jM ρ os) os0)) D E (pb (au ts os0) D E):=⟨hw.df,fun n T sz es b cap hn aw o hlt=>hw.bY n T sz es b cap (eC.drop ts _ os0 n _ hn) aw o hlt,(fun hb=>by cases hb),fun hb=>by cases hb⟩
  have hrv:=vp hs (eC.drop ts _ os0) hw.df hw' avs cargs vs ha hv;refine hmono (h w _ (aw ρ os E) vs (hsince.2 rfl) hs1.dv (hs1.KO hg (fun _ _ h=>h) fun b o hd _=>hd) hrv) ?_;rintro e w' ⟨v,D',E',r,os',he,hp,h1,h2,h3,h4,h5,h6,h7,h8⟩;obtain ⟨D2,E2,k1,k2⟩:=hs1.pI hg (fun _ _ h=>h) (fun _ _ _ h=>h) (hb r os' hp) h1 h2 h3 h5 h4 h8 h6 h7;exact ⟨v,r,os',D2,E2,he,hp,k1,k2⟩
theorem aX.since{A:ae}{a:Act}{w:World}{D:aR}{E E':aZ}(h:aX c A a w D E)(aw:∀ n,E' n=E n∨E' n=none):AE c w D E' :=
 ⟨h.eb,h.cM,h.df,fun n e hn=>by
  rcases aw n with k | k
  ·rw[k];exact h.ed n e hn
  ·exact .inl k,h.fQ⟩
theorem oI(c:cU)(f:FuncId):c.bp.fn f:=by unfold cU.bp;split <;>trivial
theorem DP(c:cU):c.bp.depth.isSome=true→1≤9:=fun _=>by omega
theorem mJ{a:Act}{w:World} : ∀ f,o.about c.P w a.eval=some f→c.bp.fn f:=fun f _=>oI c f
theorem nu{g:cn}(hg:dL c.P o=some g)(r:Option Nat)(ρ:Operand→Value):o.semAt r ρ=execOp ρ o:=by
 cases r with
 |none=>rfl
 |some l =>
  refine Oper.semAt_some l ρ o fun cl h =>?_;unfold dL at hg;rw[h] at hg;simp at hg
theorem Uz{f:FuncId}{args:Array Value}{w:World}{R:Ending→World→Prop}(h:Calls c.P f args w R):CallsIn c.bp (9-1) c.P f args w R:=by
 have h1:CallsIn Fence.wide (9-1) c.P f args w R:=callsIn_wide.2 h;unfold cU.bp;split
 ·exact h1
 ·exact h1
theorem sF.mono{P:Program}{v:Value}{vs:Array Value}{w:World}{R R':Ending→World→Prop}(h:sF P v vs w R)(hr:∀ e w,R e w→R' e w):sF P v vs w R':=by
 obtain ⟨l,h1,fn,tmps,assign,body,h2,h3⟩:=h;exact ⟨l,h1,fn,tmps,assign,body,h2,h3.mono hr⟩
theorem ams{l:Nat}{f:FuncId}{tmps:Array Value}{assign body:Code}{w:World}{R:Ending→World→Prop}(h:RoundIn Fence.wide 9 c.P l f tmps assign body w R):RoundIn c.bp (9-1) c.P l f tmps assign body w R:=by
 have h1:RoundIn Fence.wide (9-1) c.P l f tmps assign body w R:=⟨h.1,fun cc cs _=>h.2 cc cs (room_wide _)⟩
 unfold cU.bp;split
 ·exact h1
 ·exact h1
theorem jf.wp{B:ae}{g:cn}(hg:dL c.P o=some g)(h:jf c A o B){a:Act}{w:World}{K:Act→World→Prop}{Q:Exit→Act→World→Prop}(hs:cA c A a w)(hK:∀ a w,cA c B a w→K a w):o.wpIn c.bp 9 c.P a w K Q:=by
 obtain ⟨D,E,hs⟩:=hs;obtain ⟨w',h⟩:=h a w D E hs;refine ⟨mJ,?_⟩;rw[nu hg];rcases h with ⟨v,h1,h2⟩ | ⟨h1,h2⟩
 ·rw[h1];exact hK _ _ h2
 ·rw[h1];exact hK _ _ h2
theorem Db{dr:Bool}{K:ae→Prop}{f:FuncId}{avs:List I}{a1 a2:Option (List I)}{vs:List Value}{dst:Option Nat}{rest:List aB}{a:Act}{w:World}{Kw:Act→World→Prop}{Q:Exit→Act→World→Prop}{g:cn}(hg:dL c.P o=some g)(h1:ca true A avs=a1)(h2:ca false A avs=a2)
  (hs:∀ D E,aX c A a w D E→gb (aY w D E) avs vs) (hsim:cA c A a w) (hwp:bt c.P c.Y dr K (.call f avs a1 a2 dst rest A)) (hd:o.dst=dst) (hdn:∀ k,dst=some k→k<c.n)
  (hrun:ij c.P f=true→(execOp a.eval o).run c.P w=.ok (.enter f vs.toArray) w)
  (hK:∀ B a' w',bt c.P c.Y dr K (aE rest B)→cA c B a' w'→Kw a' w'):o.wpIn c.bp 9 c.P a w Kw Q:=by
 obtain ⟨D,E,hsw⟩:=hsim;have pq:∀ {R:Ending→World→Prop},ij c.P f=true→Calls c.P f vs.toArray w R→(∀ e w',R e w'→∃ v,e=.returned v∧Kw (a.put o.dst v) w')→o.wpIn c.bp 9 c.P a w Kw Q:=fun {R} hc hcl hR=>by
  refine ⟨mJ,?_⟩;rw[nu hg,hrun hc,Oper.uponIn_enter];refine ⟨DP c,Uz (hcl.mono fun e w' he =>?_)⟩;obtain ⟨v,rfl,hv⟩:=hR e w' he;exact hv
 cases hwp with
 |flat r hspec hflat hrest =>
  refine pq hspec.1 (hspec.ank hsw hflat h1 (hs D E hsw)) ?_;rintro e w' ⟨v,D',he,hs',hv⟩;refine ⟨v,he,?_⟩;rw[hd];exact hK _ _ _ hrest ⟨D',E,hs'.aP hdn hv⟩
 |lead r hspec hrest =>
  refine pq hspec.1 (hspec.anm hsw h2 (hs D E hsw)) ?_;rintro e w' ⟨v,D',he,hs',hv⟩;refine ⟨v,he,?_⟩;rw[hd];exact hK _ _ _ hrest ⟨D',E,hs'.aP hdn hv⟩
 |iE ns r hdr hspec hf ho hrest =>
  refine pq hspec.1 (hspec.anl hsw ns ho hf (hs D E hsw)) ?_;rintro e w' ⟨v,D',E',he,hs',hv⟩;refine ⟨v,he,?_⟩;rw[hd];exact hK _ _ _ hrest ⟨D',E',hs'.aP hdn hv⟩
 |bS aA ρ os cargs post hdr hspec hgv ha hb hrest =>
  refine pq hspec.1 (hspec.2.use hsw aA (fun h=>h.mono) ⟨fun _ _ _=>trivial,fun _=>trivial⟩ hgv ha hb (hs D E hsw)) ?_;rintro e w' ⟨v,r,os',D2,E2,he,hp,hs',hv,_⟩;refine ⟨v,he,?_⟩;rw[hd];exact hK _ _ _ (hrest r os' hp) ⟨D2,E2,hs'.aP hdn hv⟩
theorem Uy{dr:Bool}{K:ae→Prop}{v:Value}{avs:List I}{vs:List Value}{dst:Option Nat}{rest:List aB}{a:Act}{w:World}{Kw:Act→World→Prop}{Q:Exit→Act→World→Prop}{g:cn}(hg:dL c.P o=some g)
  (hs:∀ D E,aX c A a w D E→gb (aY w D E) avs vs) (hsim:cA c A a w) (hwp:bt c.P c.Y dr K (.pL v avs dst rest A)) (hd:o.dst=dst) (hdn:∀ k,dst=some k→k<c.n)
  (hrun:∀ l,v=.func (.yield l) #[] #[]→(execOp a.eval o).run c.P w=(Instr.yield l vs.toArray).run c.P w)
  (hK:∀ B a' w',bt c.P c.Y dr K (aE rest B)→cA c B a' w'→Kw a' w'):o.wpIn c.bp 9 c.P a w Kw Q:=by
 obtain ⟨D,E,hsw⟩:=hsim;cases hwp with
 |zT os cargs post hdr hY hgv ha hb hrest =>
  have hyr:=(hsw.fp _ _ _ _ hY).use (ρ:=[]) hsw false (fun h=>h.mono) ⟨(fun h=>by cases h),fun _=>hsw.pg.1.since (fun n=>by simp only[aw,bA];split <;>simp)⟩ hgv ha hb (hs D E hsw);obtain ⟨l,rfl,fn,tmps,assign,body,h2,h3⟩:=hyr;refine ⟨mJ,?_⟩;rw[nu hg,hrun l rfl,h2,Oper.uponIn_round];refine ⟨DP c,ams (h3.mono fun e w' he =>?_)⟩;obtain ⟨v,r,os',D2,E2,rfl,hp,hs',hv,_⟩:=he;rw[hd];exact hK _ _ _ (hrest r os' hp) ⟨D2,E2,hs'.aP hdn hv⟩
end
section
variable {c:cU} {A:ae} {o:Oper}
theorem vC{P:Program}{n:Nat}{bX:Array Oper}{g:aB}(h:pK P n bX o=some g):dL P o=some g.op∧g.dst=o.dst∧(∀ k,o.dst=some k→k<n) ∧
  ((o.guard=none∧g.guard=none)∨∃ j b t,o.guard=some (j,b)∧(bX[j]?).bind (·.dst)=some t∧g.guard=some (t,b)):=by
 unfold pK at h;split at h
 ·cases h
 rename_i g' hg';split at h
 case isFalse=>cases h
 rename_i hd;have hdst:∀ k,o.dst=some k→k<n:=by
  intro k hk;rw[hk] at hd;simpa[DT] using hd
 split at h
 ·rename_i hgd;simp only[u8] at h;subst h;exact ⟨hg',rfl,hdst,.inl ⟨hgd,rfl⟩⟩
 ·rename_i j b hgd;split at h
  ·rename_i t ht;simp only[u8] at h;subst h;exact ⟨hg',rfl,hdst,.inr ⟨j,b,t,hgd,ht,rfl⟩⟩
  ·cases h
theorem KE{dr:Bool}{K:ae→Prop}{op:cn}{dst:Option Nat}{rest:List aB}{a:Act}{w:World}{Kw:Act→World→Prop}{Q:Exit→Act→World→Prop}(hop:dL c.P o=some op)(hd:o.dst=dst)(hdn:∀ k,dst=some k→k<c.n)
  (hsim:cA c A a w) (hK:∀ B a' w',bt c.P c.Y dr K (aE rest B)→cA c B a' w'→Kw a' w') (h:bt c.P c.Y dr K (cP (bu A op) fun v=>aE rest (A.aP dst v))):o.wpIn c.bp 9 c.P a w Kw Q:=by
 cases hv:bu A op with
 |some v =>
  rw[hv] at h;exact ((alZ hop hv).does (by rw[hd];exact hdn)).wp hop hsim (fun a' w' hs=>by rw[hd] at hs;exact hK _ a' w' h hs)
 |none=>rw[hv] at h;cases h
theorem aib{dr:Bool}{K:ae→Prop}{dst:Option Nat}{rest:List aB}{a:Act}{w:World}{Kw:Act→World→Prop}{Q:Exit→Act→World→Prop}{z:I}(hop:dL c.P o=some (.alloc z))(hd:o.dst=dst)(hdn:∀ k,dst=some k→k<c.n)
  (hwp:bt c.P c.Y dr K (bj A dst (.alloc z) rest (aE rest))) (hsim:cA c A a w) (hK:∀ B a' w',bt c.P c.Y dr K (aE rest B)→cA c B a' w'→Kw a' w'):o.wpIn c.bp 9 c.P a w Kw Q:=by
 have hop0:=hop;simp only[bj] at hwp;split at hwp
 case h_2=>cases hwp
 rename_i d;split at hwp
 case h_2=>cases hwp
 rename_i hf;unfold dL at hop;split at hop <;>try (first | (simp at hop;done) | ((repeat' split at hop) <;>simp at hop;done))
 rename_i t ho;simp only[zz1,cn.alloc.injEq] at hop;obtain ⟨z',hz,rfl⟩:=hop;exact (ZI ho hz hd (hdn d rfl) hf).wp hop0 hsim (fun a' w' hs=>hK _ a' w' hwp hs)
theorem aie{dr:Bool}{K:ae→Prop}{dst:Option Nat}{rest:List aB}{a:Act}{w:World}{Kw:Act→World→Prop}{Q:Exit→Act→World→Prop}{x:aJ}(hop:dL c.P o=some (.box x))(hd:o.dst=dst)(hdn:∀ k,dst=some k→k<c.n)
  (hwp:bt c.P c.Y dr K (bj A dst (.box x) rest (aE rest))) (hsim:cA c A a w) (hK:∀ B a' w',bt c.P c.Y dr K (aE rest B)→cA c B a' w'→Kw a' w'):o.wpIn c.bp 9 c.P a w Kw Q:=by
 have hop0:=hop;simp only[bj] at hwp;split at hwp
 case h_2=>cases hwp
 rename_i d;split at hwp
 case h_2=>cases hwp
 rename_i hf;split at hwp
 case isFalse=>cases hwp
 rename_i hv;unfold dL at hop;split at hop <;>try (first | (simp at hop;done) | ((repeat' split at hop) <;>simp at hop;done))
 rename_i t y ho;simp only[zz1,cn.box.injEq] at hop;obtain ⟨z',hz,rfl⟩:=hop;exact (ZN ho hz hv hd (hdn d rfl) hf).wp hop0 hsim (fun a' w' hs=>hK _ a' w' hwp hs)
theorem aiq{dr:Bool}{K:ae→Prop}{dst:Option Nat}{rest:List aB}{a:Act}{w:World}{Kw:Act→World→Prop}{Q:Exit→Act→World→Prop}{s:Option Nat}{x v:aJ}(hop:dL c.P o=some (.br s x v))(hd:o.dst=dst)(hdn:∀ k,dst=some k→k<c.n)
  (hwp:bt c.P c.Y dr K (bj A dst (.br s x v) rest (aE rest))) (hsim:cA c A a w) (hK:∀ B a' w',bt c.P c.Y dr K (aE rest B)→cA c B a' w'→Kw a' w'):o.wpIn c.bp 9 c.P a w Kw Q:=by
 have hop0:=hop;simp only[bj] at hwp;split at hwp
 case h_2=>cases hwp
 split at hwp
 case h_2=>cases hwp
 rename_i n p hp;split at hwp
 case h_2=>cases hwp
 rename_i b hb;split at hwp
 case h_2=>cases hwp
 rename_i old hat;split at hwp
 case isFalse=>cases hwp
 rename_i hok;unfold dL at hop;split at hop <;>try (first | (simp at hop;done) | ((repeat' split at hop) <;>simp at hop;done))
 rename_i t y z ho;split at hop
 case h_2=>cases hop
 rename_i s' x' v' h1 h2 h3;split at hop
 case isFalse=>cases hop
 rename_i hk;simp only[u8,cn.br.injEq] at hop;obtain ⟨rfl,rfl,rfl⟩:=hop;exact (ZT ho h1 hk h2 h3 hp hb hat hok.1 hok.2.1 hok.2.2 hd).wp hop0 hsim (fun a' w' hs=>hK _ a' w' hwp hs)
theorem aif{dr:Bool}{K:ae→Prop}{dst:Option Nat}{rest:List aB}{a:Act}{w:World}{Kw:Act→World→Prop}{Q:Exit→Act→World→Prop}{f:FuncId}{args:List aJ}(hop:dL c.P o=some (.call f args))(hd:o.dst=dst)(hdn:∀ k,dst=some k→k<c.n)
  (hwp:bt c.P c.Y dr K (bj A dst (.call f args) rest (aE rest))) (hsim:cA c A a w) (hK:∀ B a' w',bt c.P c.Y dr K (aE rest B)→cA c B a' w'→Kw a' w'):o.wpIn c.bp 9 c.P a w Kw Q:=by
 have hop0:=hop;simp only[bj] at hwp;unfold dL at hop;split at hop <;>try (first | (simp at hop;done) | ((repeat' split at hop) <;>simp at hop;done))
 rename_i f' xs ts ho;split at hop
 case isFalse=>simp at hop
 simp only[zz1,cn.call.injEq] at hop;obtain ⟨ys,hys,rfl,rfl⟩:=hop;refine Db (vs:=xs.toList.map a.eval) hop0 rfl rfl (fun D E hs=>pG hs xs.toList ts.toList ys hys) hsim hwp hd hdn (fun hc =>?_) hK;have e:xs.map a.eval=(xs.toList.map a.eval).toArray:=by apply Array.ext';simp
 simp only[execOp,ho,resolve,Act.eval,Deferred.ofValue,Sem.run_bind,Sem.run_pure,Result.andThen_ok,invoke,Array.append_empty,Array.empty_append,zj hc];rw[←e]
theorem air{dr:Bool}{K:ae→Prop}{dst:Option Nat}{rest:List aB}{a:Act}{w:World}{Kw:Act→World→Prop}{Q:Exit→Act→World→Prop}{f:FuncId}{args:List aJ}(hop:dL c.P o=some (.kL f args))(hd:o.dst=dst)(hdn:∀ k,dst=some k→k<c.n)
  (hwp:bt c.P c.Y dr K (bj A dst (.kL f args) rest (aE rest))) (hsim:cA c A a w) (hK:∀ B a' w',bt c.P c.Y dr K (aE rest B)→cA c B a' w'→Kw a' w'):o.wpIn c.bp 9 c.P a w Kw Q:=by
 have hop0:=hop;simp only[bj] at hwp;unfold dL at hop;split at hop <;>try (first | (simp at hop;done) | ((repeat' split at hop) <;>simp at hop;done))
 rename_i f' xs ts ho;split at hop
 case isTrue=>simp at hop
 simp only[zz1,cn.kL.injEq] at hop;obtain ⟨ys,hys,rfl,rfl⟩:=hop;obtain ⟨D,E,hs⟩:=hsim;cases hwp with
 |ext r hdr hx hw =>
  obtain ⟨v,g1,g2⟩:=hx c a w D E (xs.toList.map a.eval) rfl hs (pG hs xs.toList ts.toList ys hys);have e:xs.map a.eval=(xs.toList.map a.eval).toArray:=by apply Array.ext';simp
  have hrun:(execOp a.eval o).run c.P w=.ok (.value v) w:=by
   simp only[execOp,ho,resolve,Act.eval,Deferred.ofValue,Sem.run_bind,Sem.run_pure,Result.andThen_ok,invoke,Array.append_empty,Array.empty_append];rw[←e] at g1;exact g1
  refine ⟨mJ,?_⟩;rw[nu hop0,hrun,Oper.uponIn_value];exact hK _ _ _ hw ⟨D,E,by rw[hd];exact hs.aP hdn g2⟩
theorem aik{dr:Bool}{K:ae→Prop}{dst:Option Nat}{rest:List aB}{a:Act}{w:World}{Kw:Act→World→Prop}{Q:Exit→Act→World→Prop} (hop:dL c.P o=some (.j9))(hd:o.dst=dst)(hdn:∀ k,dst=some k→k<c.n)
  (hwp:bt c.P c.Y dr K (bj A dst (.j9) rest (aE rest))) (hsim:cA c A a w) (hK:∀ B a' w',bt c.P c.Y dr K (aE rest B)→cA c B a' w'→Kw a' w'):o.wpIn c.bp 9 c.P a w Kw Q:=by
 have hop0:=hop;simp only[bj] at hwp;split at hwp
 case h_2=>cases hwp
 rename_i d;split at hwp
 case h_2=>cases hwp
 rename_i hf;unfold dL at hop;split at hop <;>try (first | (simp at hop;done) | ((repeat' split at hop) <;>simp at hop;done))
 rename_i t ho;exact (ZQ ho hd (hdn d rfl) hf).wp hop0 hsim (fun a' w' hs=>hK _ a' w' hwp hs)
theorem ail{dr:Bool}{K:ae→Prop}{dst:Option Nat}{rest:List aB}{a:Act}{w:World}{Kw:Act→World→Prop}{Q:Exit→Act→World→Prop}{e:TypeId}{bytes:Nat}{z:I}{n:aJ}(hop:dL c.P o=some (.kB e bytes z n))(hd:o.dst=dst)(hdn:∀ k,dst=some k→k<c.n)
  (hwp:bt c.P c.Y dr K (bj A dst (.kB e bytes z n) rest (aE rest))) (hsim:cA c A a w) (hK:∀ B a' w',bt c.P c.Y dr K (aE rest B)→cA c B a' w'→Kw a' w'):o.wpIn c.bp 9 c.P a w Kw Q:=by
 have hop0:=hop;simp only[bj] at hwp;split at hwp
 case h_2=>cases hwp
 rename_i d;split at hwp
 case h_2=>cases hwp
 rename_i hf;split at hwp
 case h_2=>cases hwp
 rename_i k m hn;split at hwp
 case isFalse=>cases hwp
 rename_i hc;unfold dL at hop;split at hop <;>try (first | (simp at hop;done) | ((repeat' split at hop) <;>simp at hop;done))
 rename_i t l l' ho;split at hop
 case h_2=>cases hop
 rename_i e' n' hu hl;split at hop
 case h_2=>cases hop
 rename_i z' hz;split at hop
 case isFalse=>cases hop
 rename_i hc2;simp only[u8,cn.kB.injEq] at hop;obtain ⟨rfl,rfl,rfl,rfl⟩:=hop;obtain ⟨j,rfl⟩:=Int.eq_ofNat_of_zero_le hc.1;simp only[Int.toNat_natCast] at hc hwp;exact (ZR ho (amw hc2.1) hu hl hn hz hc2.2.1 hc2.2.2 hc.2.1 hc.2.2 hd (hdn d rfl) hf).wp hop0 hsim (fun a' w' hs=>hK _ a' w' hwp hs)
theorem aim{dr:Bool}{K:ae→Prop}{dst:Option Nat}{rest:List aB}{a:Act}{w:World}{Kw:Act→World→Prop}{Q:Exit→Act→World→Prop}{ty:cN}{m k v:aJ}(hop:dL c.P o=some (.gY ty m k v))(hd:o.dst=dst)(hdn:∀ k,dst=some k→k<c.n)
  (hwp:bt c.P c.Y dr K (bj A dst (.gY ty m k v) rest (aE rest))) (hsim:cA c A a w) (hK:∀ B a' w',bt c.P c.Y dr K (aE rest B)→cA c B a' w'→Kw a' w'):o.wpIn c.bp 9 c.P a w Kw Q:=by
 have hop0:=hop;simp only[bj] at hwp;split at hwp
 case h_2=>cases hwp
 split at hwp
 case h_2=>cases hwp
 rename_i n hm;split at hwp
 case h_2=>cases hwp
 rename_i ks vs hn;split at hwp
 case h_2=>cases hwp
 rename_i ks' vs' hl;unfold dL at hop;split at hop <;>try (first | (simp at hop;done) | ((repeat' split at hop) <;>simp at hop;done))
 all_goals
  rename_i t mo ko vo ho;split at hop
  case h_2=>cases hop
  rename_i kt et m' k' hu h1 h2;split at hop
  case h_2=>cases hop
  rename_i ty' v' hk h3;simp only[u8,cn.gY.injEq] at hop;obtain ⟨rfl,rfl,rfl,rfl⟩:=hop
 ·exact (DS (.inl ho) hu hk h1 h2 h3 hm hn hl hd).wp hop0 hsim (fun a' w' hs=>hK _ a' w' hwp hs)
 ·exact (DS (.inr ho) hu hk h1 h2 h3 hm hn hl hd).wp hop0 hsim (fun a' w' hs=>hK _ a' w' hwp hs)
theorem aip{dr:Bool}{K:ae→Prop}{dst:Option Nat}{rest:List aB}{a:Act}{w:World}{Kw:Act→World→Prop}{Q:Exit→Act→World→Prop}{x:aJ}(hop:dL c.P o=some (.kI x))(hd:o.dst=dst)(hdn:∀ k,dst=some k→k<c.n)
  (hwp:bt c.P c.Y dr K (bj A dst (.kI x) rest (aE rest))) (hsim:cA c A a w) (hK:∀ B a' w',bt c.P c.Y dr K (aE rest B)→cA c B a' w'→Kw a' w'):o.wpIn c.bp 9 c.P a w Kw Q:=by
 have hop0:=hop;simp only[bj] at hwp;split at hwp
 case h_2=>cases hwp
 rename_i d;split at hwp
 case h_2=>cases hwp
 rename_i hf;split at hwp
 case h_2=>cases hwp
 rename_i ks vs hx;unfold dL at hop;split at hop <;>try (first | (simp at hop;done) | ((repeat' split at hop) <;>simp at hop;done))
 rename_i t y ho;split at hop
 case h_2=>cases hop
 rename_i kt et hu;simp only[zz1,cn.kI.injEq] at hop;obtain ⟨z,hz,rfl⟩:=hop;exact (ZS ho hu hz hx hd (hdn d rfl) hf).wp hop0 hsim (fun a' w' hs=>hK _ a' w' hwp hs)
theorem aio{dr:Bool}{K:ae→Prop}{dst:Option Nat}{rest:List aB}{a:Act}{w:World}{Kw:Act→World→Prop}{Q:Exit→Act→World→Prop}{x:aJ}(hop:dL c.P o=some (.jN x))(hd:o.dst=dst)(hdn:∀ k,dst=some k→k<c.n)
  (hwp:bt c.P c.Y dr K (bj A dst (.jN x) rest (aE rest))) (hsim:cA c A a w) (hK:∀ B a' w',bt c.P c.Y dr K (aE rest B)→cA c B a' w'→Kw a' w'):o.wpIn c.bp 9 c.P a w Kw Q:=by
 have hop0:=hop;simp only[bj] at hwp;split at hwp
 case h_2=>cases hwp
 rename_i n hx;split at hwp
 case h_2=>cases hwp
 rename_i ks vs left cur hn;unfold dL at hop;split at hop <;>try (first | (simp at hop;done) | ((repeat' split at hop) <;>simp at hop;done))
 rename_i y ho;simp only[zz1,cn.jN.injEq] at hop;obtain ⟨z,hz,rfl⟩:=hop;obtain ⟨D,E,hs⟩:=hsim;obtain ⟨w',v,hrun,hor⟩:=akj ho hz hx hn (by rw[hd];exact hdn) hs;refine ⟨mJ,?_⟩;rw[nu hop0,hrun,Oper.uponIn_value];rw[hd] at hor;split at hwp
 ·rename_i hl;rcases hor with ⟨_,hor⟩ | ⟨i,k,x,hi,_⟩
  ·exact hK _ _ _ hwp (by rw[hd];exact hor)
  ·rw[hl] at hi;cases hi
 ·rename_i hl;rcases hor with ⟨h,_⟩ | ⟨i,k,x,hi,hk,hx,hor⟩
  ·exact absurd h hl
  ·cases hwp with
   |any hdr hall =>
    have:=hall i hi;simp only[hk,hx] at this;exact hK _ _ _ this (by rw[hd];exact hor)
theorem aih{dr:Bool}{K:ae→Prop}{dst:Option Nat}{rest:List aB}{a:Act}{w:World}{Kw:Act→World→Prop}{Q:Exit→Act→World→Prop}{x:aJ}{args:List aJ}(hop:dL c.P o=some (.eF x args))(hd:o.dst=dst)(hdn:∀ k,dst=some k→k<c.n)
  (hwp:bt c.P c.Y dr K (bj A dst (.eF x args) rest (aE rest))) (hsim:cA c A a w) (hK:∀ B a' w',bt c.P c.Y dr K (aE rest B)→cA c B a' w'→Kw a' w'):o.wpIn c.bp 9 c.P a w Kw Q:=by
 have hop0:=hop;simp only[bj] at hwp;unfold dL at hop;split at hop <;>try (first | (simp at hop;done) | ((repeat' split at hop) <;>simp at hop;done))
 rename_i y xs ts _ ho;split at hop
 case h_2=>cases hop
 rename_i y' ys h1 h2;simp only[u8,cn.eF.injEq] at hop;obtain ⟨rfl,rfl⟩:=hop;obtain ⟨D,E,hs⟩:=hsim;have hv:=ct hs h1;split at hwp
 ·rename_i f caps hx;rw[hx] at hv;obtain ⟨cs,q1,q2⟩:=hv;simp only[af] at q2;obtain ⟨vs,q3,q4⟩:=q2;have hval:a.eval y=.func (.func f) #[] vs.toArray:=by simpa[bL,I.isAgg,q3] using q1.symm
  refine Db (vs:=xs.toList.map a.eval++vs) hop0 rfl rfl (fun D' E' hs'=>(pG hs' xs.toList ts.toList ys h2).append ?_) ⟨D,E,hs⟩ hwp hd hdn (fun hc =>?_) hK
  ·have hv':=ct hs' h1;rw[hx] at hv';obtain ⟨cs',q1',q2'⟩:=hv';simp only[af] at q2';obtain ⟨vs',q3',q4'⟩:=q2';have hval':a.eval y=.func (.func f) #[] vs'.toArray:=by simpa[bL,I.isAgg,q3'] using q1'.symm
   rw[hval] at hval';simp only[Value.func.injEq,true_and,Array.mk.injEq] at hval';subst hval';exact zn q4'
  ·have e:xs.map a.eval=(xs.toList.map a.eval).toArray:=by apply Array.ext';simp
   simp only[execOp,ho,resolve,hval,Deferred.ofValue,Sem.run_bind,Sem.run_pure,Result.andThen_ok,invoke,Array.empty_append,zj hc];rw[e];simp
 ·rename_i u hx;rw[hx] at hv;obtain ⟨cs,q1,q2⟩:=hv;simp only[af] at q2;have hval:a.eval y=u:=by simpa[bL,I.isAgg,q2.1] using q1.symm
  refine Uy (vs:=xs.toList.map a.eval) hop0 (fun D' E' hs'=>pG hs' xs.toList ts.toList ys h2) ⟨D,E,hs⟩ hwp hd hdn (fun l hl =>?_) hK;subst hl;have e:xs.map a.eval=(xs.toList.map a.eval).toArray:=by apply Array.ext';simp
  simp only[execOp,ho,resolve,hval,Deferred.ofValue,Sem.run_bind,Sem.run_pure,Result.andThen_ok,invoke,Array.empty_append];rw[e]
 ·cases hwp
theorem ain{dr:Bool}{K:ae→Prop}{dst:Option Nat}{rest:List aB}{a:Act}{w:World}{Kw:Act→World→Prop}{Q:Exit→Act→World→Prop}{neg:Bool}{x:aJ}(hop:dL c.P o=some (.nilS neg x))(hd:o.dst=dst)(hdn:∀ k,dst=some k→k<c.n)
  (hwp:bt c.P c.Y dr K (bj A dst (.nilS neg x) rest (aE rest))) (hsim:cA c A a w) (hK:∀ B a' w',bt c.P c.Y dr K (aE rest B)→cA c B a' w'→Kw a' w'):o.wpIn c.bp 9 c.P a w Kw Q:=by
 have hop0:=hop;simp only[bj] at hwp;split at hwp
 case isFalse=>exact KE hop hd hdn hsim hK hwp
 rename_i hu;cases hwp with
 |any hdr hall =>
 unfold dL at hop;split at hop <;>try (first | (simp at hop;done) | ((repeat' split at hop) <;>simp at hop;done))
 rename_i bop t y z yt ho;split at hop
 ·simp at hop
 ·simp at hop
 ·rename_i e y' z' hut h1 h2;split at hop
  ·rename_i s;split at hop
   ·rename_i hopp;simp only[u8,cn.nilS.injEq] at hop;obtain ⟨rfl,rfl⟩:=hop;have ho':o.op=.binOp (if (bop==.neq)=true then .neq else .eql) t y z yt:=by
     rcases hopp with rfl | rfl <;>simpa using ho
    obtain ⟨D,E,hs⟩:=hsim;have hund:∃ sz,ab A y'=.slice sz []∨ab A y'=.c0 sz:=by
     generalize ab A y'=q at hu;cases q <;>simp only[kj,zz6,List.isEmpty_iff] at hu
     ·rename_i sz;exact ⟨sz,.inr rfl⟩
     ·rename_i sz es;subst hu;exact ⟨sz,.inl rfl⟩
    obtain ⟨b,hrun⟩:=akk ho' hut h1 h2 hund hs;refine ⟨mJ,?_⟩;rw[nu hop0,hrun,Oper.uponIn_value];have hb:=hall (if b then 0 else 1) (by cases b <;>simp);refine hK _ _ _ hb ⟨D,E,?_⟩;rw[hd];have e:((if b=true then (0:Nat) else 1)==0)=b:=by cases b <;>rfl
    rw[e];exact hs.aP hdn (oV b)
   ·cases hop
  ·cases hop
 ·split at hop <;>simp at hop
 ·split at hop <;>simp at hop
 ·cases hop
theorem aic{dr:Bool}{K:ae→Prop}{dst:Option Nat}{rest:List aB}{a:Act}{w:World}{Kw:Act→World→Prop}{Q:Exit→Act→World→Prop}{e:TypeId}{esz bytes:Nat}{z:I}{s x:aJ}(hop:dL c.P o=some (.dF e esz bytes z s x))(hd:o.dst=dst)(hdn:∀ k,dst=some k→k<c.n)
  (hwp:bt c.P c.Y dr K (bj A dst (.dF e esz bytes z s x) rest (aE rest))) (hsim:cA c A a w) (hK:∀ B a' w',bt c.P c.Y dr K (aE rest B)→cA c B a' w'→Kw a' w'):o.wpIn c.bp 9 c.P a w Kw Q:=by
 have hop0:=hop;simp only[bj] at hwp;unfold dL at hop;split at hop <;>try (first | (simp at hop;done) | ((repeat' split at hop) <;>simp at hop;done))
 rename_i args tys ho;split at hop
 case h_2=>cases hop
 rename_i y q t t' ha ht;split at hop
 case h_2=>cases hop
 rename_i e' s' x' k1 k2 k3;split at hop
 case isFalse=>split at hop <;>simp at hop
 rename_i hk;simp only[zz1,cn.dF.injEq] at hop;obtain ⟨zz,hz1,rfl,rfl,rfl,rfl,rfl,rfl⟩:=hop;obtain ⟨rfl,hk2,hk3⟩:=hk;have ha':args = #[y,q]:=by apply Array.ext';simpa using ha
 have ht':tys = #[t,t]:=by apply Array.ext';simpa using ht
 subst ha' ht';rw[hz1] at hk3;simp only[zy5,u8] at hk3;have hinfo:(c.P.info? e').isSome=true:=by
  obtain ⟨ti,_,hti,_⟩:=mF hz1;rw[hti];rfl
 have grow:∀ es ys,eI A (c.P.cellsOf e') (ab A s')=some es→eI A (c.P.cellsOf e') (ab A x')=some ys→ys≠[]→(∀ a w D E,aX c A a w D E→∀ ad l cp,a.eval y=.slice ad l cp→cp<l+ys.length) →
   bt c.P c.Y dr K (ib A dst (c.P.cellsOf e') (c.P.bytesOf e') zz es ys (aE rest))→o.wpIn c.bp 9 c.P a w Kw Q:=fun es ys hse hsx hne hfull h=>by
  simp only[ib] at h;split at h
  case h_2=>cases h
  rename_i d;split at h
  case h_2=>cases h
  rename_i hf;split at h
  case isFalse=>cases h
  rename_i hb;cases h with
  |any hdr hall =>
   obtain ⟨D,E,hs⟩:=hsim;obtain ⟨v,w',m,g1,g2,g3⟩:=RW ho k1 k2 k3 hz1 hk3 hse hsx hb.1 hd (hdn d rfl) hf hne hs (hfull a w D E hs) hb.2;refine ⟨mJ,?_⟩;rw[nu hop0,g1,Oper.uponIn_value,hd];rw[hd] at g3;exact hK _ _ _ (hall m g2) g3
 split at hwp
 ·rename_i n l hs';split at hwp
  case h_2=>cases hwp
  rename_i sz ys hx';split at hwp
  case h_3=>cases hwp
  case h_2 =>
   rename_i T xs hn;split at hwp
   case isFalse=>cases hwp
   rename_i hok;obtain ⟨h1,h2,h3,h4,h5,h6,h7,h8⟩:=hok;subst h3 h4;have hl5:ys.length=(ry ys).length:=(congrArg List.length h5).trans (by simp);rw[hl5] at h7 h8 hwp;rw[h5] at hx';have hd':=ZK (o:=o) ho k1 k2 k3 hz1 h2 hs' hn h1 hx' (fun e=>h6 (by rw[h5,e];rfl)) h7 h8 (by rw[hd];exact hdn);exact hd'.wp hop0 hsim (fun a' w' hs=>by rw[hd] at hs;exact hK _ a' w' hwp hs)
  rename_i T sz' es hn;split at hwp
  case isFalse=>cases hwp
  rename_i hok;obtain ⟨h1,h2,h3,h4,h5,h6,h7⟩:=hok;subst h2 h3 h4;have hd':=ZJ (o:=o) ho k1 k2 k3 hz1 hk3 hk2 hs' hn h1 hx' rfl h5 h6 h7 (by rw[hd];exact hdn);exact hd'.wp hop0 hsim (fun a' w' hs=>by rw[hd] at hs;exact hK _ a' w' hwp hs)
 ·simp only[fw] at hwp;split at hwp
  case h_2=>cases hwp
  rename_i es ys hse hsx;split at hwp
  ·rename_i hne;subst hne;exact ((ZM ho k1 hinfo k2 k3 hse hsx).does (by rw[hd];exact hdn)).wp hop0 hsim (fun a' w' hs=>by rw[hd] at hs;exact hK _ a' w' hwp hs)
  ·rename_i hne;have hpos:0<ys.length:=List.length_pos_iff.2 hne;split at hwp
   ·rename_i z0 hsv;refine grow es ys hse hsx hne (fun a w D E hs ad l cp hv =>?_) hwp;have h0:=ct hs k2;rw[hsv] at h0;obtain ⟨cs,q1,q2⟩:=h0;simp only[af] at q2;have:a.eval y=.slice none 0 0:=by simpa[bL,I.isAgg,q2] using q1.symm
    rw[this] at hv;simp only[Value.slice.injEq] at hv;omega
   ·rename_i z0 hsv;refine grow es ys hse hsx hne (fun a w D E hs ad l cp hv =>?_) hwp;have h0:=ct hs k2;rw[hsv] at h0;obtain ⟨cs,q1,q2⟩:=h0;simp only[af] at q2;obtain ⟨ad',q2⟩:=q2;have:a.eval y=.slice ad' 0 0:=by simpa[bL,I.isAgg,q2] using q1.symm
    rw[this] at hv;simp only[Value.slice.injEq] at hv;omega
   ·rename_i n p sz lo l hsv;split at hwp
    case h_2=>cases hwp
    rename_i b hn;split at hwp
    case h_2=>cases hwp
    rename_i fs hat;split at hwp
    ·rename_i hroom;split at hwp
     case isFalse=>cases hwp
     rename_i hok;obtain ⟨rfl,hsh⟩:=hok;exact (ZL ho k1 hinfo k2 k3 hsv hn hat hsx hroom hsh (by rw[hd];exact hdn)).wp hop0 hsim (fun a' w' hs=>by rw[hd] at hs;exact hK _ a' w' hwp hs)
    ·rename_i hroom;refine grow es ys hse hsx hne (fun a w D E hs ad l' cp hv =>?_) hwp;have h0:=ct hs k2;rw[hsv] at h0;obtain ⟨_,bb,cs,T,off,c1,c2,c3,_,_,_,_,_,_,_,_,_,_,r1,dV,od⟩:=hs.view (fs:=fs) h0 (by simp only[cD,hn,hat]);rw[od] at hv;simp only[Value.slice.injEq] at hv;omega
   ·cases hwp
theorem aid{dr:Bool}{K:ae→Prop}{dst:Option Nat}{rest:List aB}{a:Act}{w:World}{Kw:Act→World→Prop}{Q:Exit→Act→World→Prop}{e:TypeId}{esz bytes:Nat}{z:I}{s n:aJ}(hop:dL c.P o=some (.lI e esz bytes z s n))(hd:o.dst=dst)(hdn:∀ k,dst=some k→k<c.n)
  (hwp:bt c.P c.Y dr K (bj A dst (.lI e esz bytes z s n) rest (aE rest))) (hsim:cA c A a w) (hK:∀ B a' w',bt c.P c.Y dr K (aE rest B)→cA c B a' w'→Kw a' w'):o.wpIn c.bp 9 c.P a w Kw Q:=by
 have hop0:=hop;simp only[bj] at hwp;unfold dL at hop;split at hop <;>try (first | (simp at hop;done) | ((repeat' split at hop) <;>simp at hop;done))
 rename_i args tys ho;split at hop
 case h_2=>cases hop
 rename_i y q t t' ha ht;split at hop
 case h_2=>cases hop
 rename_i e' s' x' k1 k2 k3;split at hop
 case isTrue=>simp at hop
 split at hop
 case isFalse=>cases hop
 rename_i hk;simp only[zz1,cn.lI.injEq] at hop;obtain ⟨zz,hz1,rfl,rfl,rfl,rfl,rfl,rfl⟩:=hop;obtain ⟨hint,hk2,hk3⟩:=hk;have ha':args = #[y,q]:=by apply Array.ext';simpa using ha
 have ht':tys = #[t,t']:=by apply Array.ext';simpa using ht
 subst ha' ht';rw[hz1] at hk3;simp only[zy5,u8] at hk3;obtain ⟨kt,hkt⟩:∃ kt,c.P.underlying t'=some (.int kt):=by
  cases hu:c.P.underlying t' with
  |none=>rw[hu] at hint;cases hint
  |some dsc=>cases dsc <;>rw[hu] at hint <;>first | exact ⟨_,rfl⟩ | cases hint
 split at hwp
 case h_2=>cases hwp
 rename_i kx a8 hx';simp only[vm] at hwp;split at hwp
 case h_2=>cases hwp
 rename_i es hse;split at hwp
 case h_2=>cases hwp
 rename_i nn p sz lo l hsv;split at hwp
 case h_2=>cases hwp
 rename_i bb hn;split at hwp
 case h_2=>cases hwp
 rename_i fs hat;split at hwp
 case isFalse=>cases hwp
 rename_i hroom;simp only[ib] at hwp;split at hwp
 case h_2=>cases hwp
 rename_i d;split at hwp
 case h_2=>cases hwp
 rename_i hf;split at hwp
 case isFalse=>cases hwp
 rename_i hb;rw[zv4] at hb;cases hwp with
 |any hdr hall =>
  obtain ⟨D,E,hs⟩:=hsim;obtain ⟨v,w',m,g1,g2,g3⟩:=RZ ho k1 k2 k3 hkt hx' rfl hroom.1 hk2 hz1 hk3 hse hb.1 hd (hdn d rfl) hf hs (fun ad l' cp hv=>by
   have h0:=ct hs k2;rw[hsv] at h0;have hsv':=hse;obtain ⟨_,b1,cs,T,off,c1,c2,c3,_,_,_,_,_,_,_,_,_,_,r1,dV,od⟩:=hs.view (fs:=fs) h0 (by simp only[cD,hn,hat]);rw[od] at hv;simp only[Value.slice.injEq] at hv;have hel:es.length=l:=by
    rw[hsv] at hse;simp only[eI,cD,hn,hat] at hse;split at hse
    ·simp only[u8] at hse;rw[←hse,zy7,zy9];omega
    ·cases hse
   omega) hb.2
  refine ⟨mJ,?_⟩;rw[nu hop0,g1,Oper.uponIn_value,hd];rw[hd] at g3;have:=hall m (by rw[zv4];exact g2);rw[zv4] at this;exact hK _ _ _ this g3
theorem aii{dr:Bool}{K:ae→Prop}{dst:Option Nat}{rest:List aB}{a:Act}{w:World}{Kw:Act→World→Prop}{Q:Exit→Act→World→Prop}{esz:Nat}{z:I}{x:aJ}(hop:dL c.P o=some (.iQ esz z x))(hd:o.dst=dst)(hdn:∀ k,dst=some k→k<c.n)
  (hwp:bt c.P c.Y dr K (bj A dst (.iQ esz z x) rest (aE rest))) (hsim:cA c A a w) (hK:∀ B a' w',bt c.P c.Y dr K (aE rest B)→cA c B a' w'→Kw a' w'):o.wpIn c.bp 9 c.P a w Kw Q:=by
 have hop0:=hop;simp only[bj] at hwp;split at hwp
 case h_2=>cases hwp
 unfold dL at hop;split at hop <;>try (first | (simp at hop;done) | ((repeat' split at hop) <;>simp at hop;done))
 rename_i args tys ho;split at hop
 case h_2=>cases hop
 rename_i y t ha ht;split at hop
 case h_2=>cases hop
 rename_i e' x' k1 k2;simp only[zz1,cn.iQ.injEq] at hop;obtain ⟨zz,hz1,rfl,rfl,rfl⟩:=hop;have ha':args = #[y]:=by apply Array.ext';simpa using ha
 have ht':tys = #[t]:=by apply Array.ext';simpa using ht
 subst ha' ht';have nothing:bt c.P c.Y dr K (aE rest A)→(∀ a w D E,aX c A a w D E→∃ ad cp,a.eval y=.slice ad 0 cp)→o.wpIn c.bp 9 c.P a w Kw Q:=fun h hv=>by
  obtain ⟨D,E,hs⟩:=hsim;obtain ⟨ad,cp,hv⟩:=hv a w D E hs;refine ⟨mJ,?_⟩;have hrun:(execOp a.eval o).run c.P w=.ok (.value (.tuple #[])) w:=by
   cases ad <;>simp[execOp,ho,resolve,invoke,builtin,Builtin.clear_,run_underlying k1,hv]
  rw[nu hop0,hrun,Oper.uponIn_value,hd];exact hK _ _ _ h ⟨D,E,hs⟩
 unfold nF at hwp;split at hwp
 ·rename_i n p sz lo l hv;split at hwp
  case h_2=>cases hwp
  rename_i b hn;split at hwp
  case h_2=>cases hwp
  rename_i fs hat;split at hwp
  case isFalse=>cases hwp
  rename_i hok;obtain ⟨rfl,hsh⟩:=hok;exact (ZO ho k1 k2 hz1 hv hn hat hsh hd).wp hop0 hsim (fun a' w' hs=>hK _ a' w' hwp hs)
 ·rename_i z0 hv;refine nothing hwp fun a w D E hs =>?_;have h0:=ct hs k2;rw[hv] at h0;obtain ⟨cs,q1,q2⟩:=h0;simp only[af] at q2;exact ⟨none,0,by simpa[bL,I.isAgg,q2] using q1.symm⟩
 ·rename_i z0 hv;refine nothing hwp fun a w D E hs =>?_;have h0:=ct hs k2;rw[hv] at h0;obtain ⟨cs,q1,q2⟩:=h0;simp only[af] at q2;obtain ⟨ad,q2⟩:=q2;exact ⟨ad,0,by simpa[bL,I.isAgg,q2] using q1.symm⟩
 ·cases hwp
theorem aij{dr:Bool}{K:ae→Prop}{dst:Option Nat}{rest:List aB}{a:Act}{w:World}{Kw:Act→World→Prop}{Q:Exit→Act→World→Prop}{esz:Nat}{x y:aJ}(hop:dL c.P o=some (.lQ esz x y))(hd:o.dst=dst)(hdn:∀ k,dst=some k→k<c.n)
  (hwp:bt c.P c.Y dr K (bj A dst (.lQ esz x y) rest (aE rest))) (hsim:cA c A a w) (hK:∀ B a' w',bt c.P c.Y dr K (aE rest B)→cA c B a' w'→Kw a' w'):o.wpIn c.bp 9 c.P a w Kw Q:=by
 have hop0:=hop;simp only[bj] at hwp;unfold dL at hop;split at hop <;>try (first | (simp at hop;done) | ((repeat' split at hop) <;>simp at hop;done))
 rename_i args tys ho;split at hop
 case h_2=>cases hop
 rename_i u v t t' ha ht;split at hop
 case h_2=>cases hop
 rename_i e' x' y' k1 k2 k3;split at hop
 case isFalse=>cases hop
 rename_i hk;simp only[u8,cn.lQ.injEq] at hop;obtain ⟨rfl,rfl,rfl⟩:=hop;obtain ⟨rfl,hinfo⟩:=hk;have ha':args = #[u,v]:=by apply Array.ext';simpa using ha
 have ht':tys = #[t,t]:=by apply Array.ext';simpa using ht
 subst ha' ht';unfold sS at hwp;split at hwp
 ·rename_i n p sz lo l ys hv hsx;split at hwp
  case h_2=>cases hwp
  rename_i b hn;split at hwp
  case h_2=>cases hwp
  rename_i fs hat;split at hwp
  case isFalse=>cases hwp
  rename_i hok;obtain ⟨rfl,hsh⟩:=hok;exact (ZP ho k1 hinfo k2 k3 hv hn hat hsx rfl hsh (by rw[hd];exact hdn)).wp hop0 hsim (fun a' w' hs=>by rw[hd] at hs;exact hK _ a' w' hwp hs)
 ·cases hwp
theorem xt{dr:Bool}{K:ae→Prop}{op:cn}{dst:Option Nat}{rest:List aB}{a:Act}{w:World}{Kw:Act→World→Prop}{Q:Exit→Act→World→Prop}(hop:dL c.P o=some op)(hd:o.dst=dst)(hdn:∀ k,dst=some k→k<c.n)
  (hwp:bt c.P c.Y dr K (bj A dst op rest (aE rest))) (hsim:cA c A a w) (hK:∀ B a' w',bt c.P c.Y dr K (aE rest B)→cA c B a' w'→Kw a' w'):o.wpIn c.bp 9 c.P a w Kw Q:=by
 cases op with
 |alloc z=>exact aib hop hd hdn hwp hsim hK
 |box x=>exact aie hop hd hdn hwp hsim hK
 |br s x v=>exact aiq hop hd hdn hwp hsim hK
 |call f args=>exact aif hop hd hdn hwp hsim hK
 |kL f args=>exact air hop hd hdn hwp hsim hK
 |j9=>exact aik hop hd hdn hwp hsim hK
 |kB e bytes z n=>exact ail hop hd hdn hwp hsim hK
 |gY ty m k v=>exact aim hop hd hdn hwp hsim hK
 |kI x=>exact aip hop hd hdn hwp hsim hK
 |jN x=>exact aio hop hd hdn hwp hsim hK
 |eF x args=>exact aih hop hd hdn hwp hsim hK
 |nilS neg x=>exact ain hop hd hdn hwp hsim hK
 |dF e esz bytes z s x=>exact aic hop hd hdn hwp hsim hK
 |lI e esz bytes z s n=>exact aid hop hd hdn hwp hsim hK
 |iQ esz z x=>exact aii hop hd hdn hwp hsim hK
 |lQ esz x y=>exact aij hop hd hdn hwp hsim hK
 |_=>exact KE hop hd hdn hsim hK (by simpa only[bj] using hwp)
theorem xC{j t:Nat}{bX:Array Oper}{a:Act}{w:World}{b b':Bool}(hs:cA c A a w)(hg:o.guard=some (j,b))(ht:(bX[j]?).bind (·.dst)=some t)(hv:A.t t=.bool b'):Region.wanted o (yielded bX a.tmps)=(b'==b):=by
 obtain ⟨D,E,hs⟩:=hs;have h:=hs.eA t;rw[hv] at h;have h:=mz h;have hy:yielded bX a.tmps j=some b':=by
  unfold yielded;rw[ht];simp only[Option.bind_some];simp only[Array.getD_eq_getD_getElem?] at h;cases hh:a.tmps[t]? with
  |none=>simp[hh,undef] at h
  |some v=>simp only[hh,Option.getD_some] at h;subst h;rfl
 unfold Region.wanted;rw[hg];simp only[hy];cases b <;>cases b' <;>rfl
theorem xD{j t:Nat}{bX:Array Oper}{a:Act}{w:World}{b:Bool}(hs:cA c A a w)(hg:o.guard=some (j,b))(ht:(bX[j]?).bind (·.dst)=some t)(hv:A.t t=.undef):Region.wanted o (yielded bX a.tmps)=false:=by
 obtain ⟨D,E,hs⟩:=hs;have h:=hs.eA t;rw[hv] at h;simp only[aY] at h;have hy:yielded bX a.tmps j=none:=by
  unfold yielded;rw[ht];simp only[Option.bind_some];simp only[Array.getD_eq_getD_getElem?] at h;cases hh:a.tmps[t]? with
  |none=>rfl
  |some v=>simp only[hh,Option.getD_some] at h;subst h;rfl
 unfold Region.wanted;rw[hg];simp only[hy];rfl
theorem cA.qn{a:Act}{w:World}(h:cA c A a w){d:Option Nat}(hd:∀ k,d=some k→k<c.n):cA c (A.aP d .undef) (a.put d undef) w:=by
 obtain ⟨D,E,h⟩:=h;exact ⟨D,E,h.aP hd (by simp[aY])⟩
theorem tt{dr:Bool}{K:ae→Prop}{bX:Array Oper}{Q:Exit→Act→World→Prop}(hQ:∀ B a w,K B→cA c B a w→Q .normal a w):∀ (l:List Oper) (gs:List aB) (A:ae) (a:Act) (w:World),kQ c.P c.n bX l=some gs→bt c.P c.Y dr K (aE gs A) →
  cA c A a w→wpListIn c.bp 9 c.P bX Q l a w
 | [],gs,A,a,w,hc,hwp,hs=>by
  simp only[kQ,u8] at hc;subst hc;simp only[aE] at hwp;cases hwp with
  |done hk=>exact hQ A a w hk hs
 |o::l,gs,A,a,w,hc,hwp,hs=>by
  simp only[kQ] at hc;split at hc
  case h_2=>cases hc
  rename_i g gs' hg hgs;simp only[u8] at hc;subst hc;obtain ⟨h1,h2,h3,h4⟩:=vC hg;have step:bt c.P c.Y dr K (bj A g.dst g.op gs' (aE gs'))→o.wpIn c.bp 9 c.P a w (wpListIn c.bp 9 c.P bX Q l) Q:=fun h =>
   xt h1 h2.symm (by rw[h2];exact h3) h hs (fun B a' w' hw hs'=>tt hQ l gs' B a' w' hgs hw hs')
  simp only[wpListIn];simp only[aE] at hwp;rcases h4 with ⟨h5,h6⟩ | ⟨j,b,t,h5,h6,h7⟩
  ·rw[h6] at hwp;have hw:Region.wanted o (yielded bX a.tmps)=true:=by simp[Region.wanted,h5]
   rw[hw,if_pos rfl];exact step hwp
  ·rw[h7] at hwp;simp only at hwp;split at hwp
   ·rename_i b' hb';rw[xC hs h5 h6 hb'];split at hwp
    ·rename_i hbb;subst hbb;simp only[BEq.rfl,if_true];exact step hwp
    ·rename_i hbb;have:(b'==b)=false:=by simpa using hbb
     rw[this];simp only[zz6,if_false];exact ⟨fun f _=>oI c f,tt hQ l gs' _ _ w hgs hwp (by rw[h2];exact hs.qn h3)⟩
   ·rename_i hb';rw[xD hs h5 h6 hb'];simp only[zz6,if_false];exact ⟨fun f _=>oI c f,tt hQ l gs' _ _ w hgs hwp (by rw[h2];exact hs.qn h3)⟩
   ·cases hwp
end
def aJ.sl:aJ→List Nat
 | .t n=>[n]
 | .c _=>[]
def tW:Option aJ→List Nat
 |some x=>x.sl
 |none=>[]
def kg(l:List aJ):List Nat:=l.flatMap aJ.sl
def cn.de:cn→List Nat
 | .mv x=>x.sl
 | .pick c a b=>c.sl++(a.sl++b.sl)
 | .bin _ x y=>x.sl++y.sl
 | .eqv _ _ x y=>x.sl++y.sl
 | .nilS _ x=>x.sl
 | .conv _ x=>x.sl
 | .un _ x=>x.sl
 | .ld _ x=>x.sl
 | .fa _ _ x=>x.sl
 | .fl _ _ _ x=>x.sl
 | .ia _ _ x i=>x.sl++i.sl
 | .is _ x i=>x.sl++i.sl
 | .ix _ _ _ x i=>x.sl++i.sl
 | .len x=>x.sl
 | .lenT x=>x.sl
 | .va _ _ x=>x.sl
 | .sl _ x lo hi mx=>x.sl++(tW lo++(tW hi++tW mx))
 | .bld _ ps=>kg (ps.map (·.2))
 | .bs _ _ ps=>kg ps
 | .ext x _=>x.sl
 | .mk _ caps=>kg caps
 | .alloc _=>[]
 | .box x=>x.sl
 | .br _ x v=>x.sl++v.sl
 | .dF _ _ _ _ s x=>s.sl++x.sl
 | .lI _ _ _ _ s x=>s.sl++x.sl
 | .cap x=>x.sl
 | .bs0 _=>[]
 | .iQ _ _ x=>x.sl
 | .lQ _ x y=>x.sl++y.sl
 | .call _ args=>kg args
 | .eF x args=>x.sl++kg args
 | .kL _ args=>kg args
 | .nilC x=>x.sl
 | .ptrE _ x y=>x.sl++y.sl
 | .kB _ _ _ n=>n.sl
 | .j9=>[]
 | .lk _ _ _ m k=>m.sl++k.sl
 | .gY _ m k v=>m.sl++(k.sl++v.sl)
 | .kI x=>x.sl
 | .jN x=>x.sl
 | .ent x=>x.sl
def aB.de(g:aB):List Nat:=g.op.de++(match g.guard with | some (t,_)=>[t] | none=>[])
def cn.gP:cn→Nat
 | .mv _ | .pick .. | .bin .. | .eqv .. | .nilS .. | .conv .. | .un .. | .fl .. | .ix .. | .lenT _ | .bld .. | .ext .. | .mk .. | .nilC _ | .ptrE .. =>0
 | .ld .. | .fa .. | .ia .. | .is .. | .len _ | .va .. | .bs .. | .sl .. | .cap _ | .bs0 _ | .lk .. | .ent _=>1
 | .call .. | .eF .. =>2
 | .alloc _ | .box _=>3
 | .br .. =>4
 | .dF .. | .lI .. | .iQ .. | .lQ .. | .kL .. | .kB .. | .j9 | .gY .. | .kI _ | .jN _=>5
def vO(a b:Nat):Bool:=(decide (a≤2)&&decide (b≤3))||(a==0&&b==4)
def nS(g h:aB):Bool:=vO g.op.gP h.op.gP&&(match g.dst with
  |some d => !h.de.contains d&&h.dst != some d
  |none=>true)&&(match h.dst with
  |some d => !g.de.contains d
  |none=>true)
def er(A A':ae)(l:List Nat):Prop:=∀ k∈l,A'.t k=A.t k
section
variable {A A':ae}
theorem dn{x:aJ}(h:er A A' x.sl):ab A' x=ab A x:=by
 cases x with
 |t n=>exact h n (by simp[aJ.sl])
 |c x=>rfl
theorem er.l{l m:List Nat}(h:er A A' (l++m)):er A A' l:=fun k hk=>h k (List.mem_append_left _ hk)
theorem er.r{l m:List Nat}(h:er A A' (l++m)):er A A' m:=fun k hk=>h k (List.mem_append_right _ hk)
theorem mU:∀ {l:List aJ},er A A' (kg l)→l.map (ab A')=l.map (ab A)
 | [],_=>rfl
 |x::l,h=>by
  simp only[kg,List.flatMap_cons] at h;simp only[zz8,dn h.l,mU (l:=l) h.r]
theorem pR{x:Option aJ}(h:er A A' (tW x)):x.map (ab A')=x.map (ab A):=by
 cases x with
 |none=>rfl
 |some x=>simp only[zy5,dn (x:=x) h]
theorem Ei:∀ {l:List (Nat×aJ)},er A A' (kg (l.map (·.2)))→(l.map fun p=>(p.1,ab A' p.2))=l.map fun p=>(p.1,ab A p.2)
 | [],_=>rfl
 |x::l,h=>by
  simp only[kg,zz8,List.flatMap_cons] at h;simp only[zz8,dn h.l,Ei (l:=l) h.r]
theorem rJ{f g:I→Option I}(h:∀ x v,f x=some v→g x=some v):∀ {xs vs:List I},ga f xs=some vs→ga g xs=some vs
 | [],vs,hx=>by simpa only[ga] using hx
 |x::xs,vs,hx=>by
  simp only[ga] at hx ⊢;cases h1:f x with
  |none=>rw[h1] at hx;cases hx
  |some y=>cases h2:ga f xs with
   |none=>rw[h1,h2] at hx;cases hx
   |some ys=>rw[h1,h2] at hx;rw[h x y h1,rJ h h2];exact hx
theorem wm(hu:eC A A'):∀ (k:Nat) (x v:I),ej A k x=some v→ej A' k x=some v
 |0,_,_,h=>by simp[ej] at h
 |k+1,x,v,h=>by
  have ih:=wm hu k;simp only[ej] at h ⊢;split at h
  ·rename_i hc;rw[if_pos hc];exact h
  ·rename_i hc;rw[if_neg hc];cases x <;>simp only[] at h ⊢ <;>try (cases h;done)
   case agg fs =>
    simp only[zz1] at h ⊢;obtain ⟨a,h1,h2⟩:=h;exact ⟨a,rJ ih h1,h2⟩
   case func f fs =>
    simp only[zz1] at h ⊢;obtain ⟨a,h1,h2⟩:=h;exact ⟨a,rJ ih h1,h2⟩
   case ptr n p =>
    cases hd:cD A (.ptr n p) with
    |none=>rw[hd] at h;cases h
    |some y =>
     rw[hd] at h;rw[j0 hu hd];simp only[zz1] at h ⊢;obtain ⟨a,h1,h2⟩:=h;exact ⟨a,ih _ _ h1,h2⟩
   case view n p sz lo l =>
    cases hd:cD A (.ptr n p) with
    |none=>rw[hd] at h;cases h
    |some y=>rw[hd] at h;rw[j0 hu hd];exact h
   case mref n =>
    cases ho:A.o n with
    |none=>rw[ho] at h;cases h
    |some y =>
     rw[ho] at h;rw[hu n y ho];cases y <;>try (cases h;done)
     simp only at h ⊢;split at h
     ·rename_i hk;rw[if_pos hk];simp only[zz1] at h ⊢;obtain ⟨a,h1,h2⟩:=h;exact ⟨a,rJ ih h1,h2⟩
     ·cases h
   case own n l =>
    cases ho:A.o n with
    |none=>rw[ho] at h;cases h
    |some y=>rw[ho] at h;rw[hu n y ho];exact h
mutual
theorem Ew(hu:eC A A'){aA:Bool} : ∀ {x v:I},bl aA A x=some v→bl aA A' x=some v
 | .ptr n p,v,h=>by
  simp only[bl] at h ⊢;cases aA <;>simp only[zz6,if_false,if_true] at h ⊢
  ·exact h
  ·cases hd:cD A (.ptr n p) with
   |none=>rw[hd] at h;cases h
   |some y =>
    rw[hd] at h;rw[j0 hu hd];simp only at h ⊢;split at h
    ·rename_i hc;rw[if_pos hc];exact h
    ·rename_i hc;rw[if_neg hc];simp only[zz1] at h ⊢;obtain ⟨a,h1,h2⟩:=h;exact ⟨a,wm hu 9 _ _ h1,h2⟩
 | .mref n,v,h=>by
  simp only[bl] at h ⊢;cases aA <;>simp only[zz6,if_false,if_true] at h ⊢
  ·exact h
  ·cases ho:A.o n with
   |none=>rw[ho] at h;cases h
   |some y =>
    rw[ho] at h;rw[hu n y ho];cases y <;>try (cases h;done)
    simp only at h ⊢;split at h
    ·rename_i hk;rw[if_pos hk];simp only[zz1] at h ⊢;obtain ⟨a,h1,h2⟩:=h;exact ⟨a,rJ (wm hu 9) h1,h2⟩
    ·cases h
 | .dC _,_,h=>by simp[bl] at h
 | .cX _ _,_,h=>by simpa only[bl] using h
 | .own n k,v,h=>by
  simp only[bl] at h ⊢;cases ho:A.o n with
  |none=>rw[ho] at h;cases h
  |some y=>rw[ho] at h;rw[hu n y ho];exact h
 | .view n p sz lo k,v,h=>by
  simp only[bl] at h ⊢;cases aA <;>simp only[zz6,if_false,if_true] at h ⊢
  ·exact h
  ·cases hd:cD A (.ptr n p) with
   |none=>rw[hd] at h;cases h
   |some y=>rw[hd] at h;rw[j0 hu hd];exact h
 | .func f caps,v,h=>by
  simp only[bl,zz1] at h ⊢;obtain ⟨a,h1,h2⟩:=h;exact ⟨a,lZ hu h1,h2⟩
 | .agg fs,v,h=>by
  simp only[bl,zz1] at h ⊢;obtain ⟨a,h1,h2⟩:=h;exact ⟨a,lZ hu h1,h2⟩
 | .nils _,_,h | .c0 _,_,h | .tuple _,_,h | .undef,_,h | .du,_,h | .bool _,_,h | .int _ _,_,h | .c7 _,_,h | .nilp,_,h | .dw,_,h | .ea,_,h | .raw _,_,h | .slice _ _,_,h | .ref _,_,h | .iface _ _,_,h=>by simpa only[bl] using h
theorem lZ(hu:eC A A'){aA:Bool} : ∀ {xs vs:List I},ca aA A xs=some vs→ca aA A' xs=some vs
 | [],vs,h=>by simpa only[ca] using h
 |x::xs,vs,h=>by
  simp only[ca] at h ⊢;cases h1:bl aA A x with
  |none=>rw[h1] at h;cases h
  |some y=>cases h2:ca aA A xs with
   |none=>rw[h1,h2] at h;cases h
   |some ys=>rw[h1,h2] at h;rw[Ew hu h1,lZ hu h2];exact h
end
theorem yW{op:cn}(hc:op.gP=0)(h:er A A' op.de):bu A' op=bu A op:=by
 cases op <;>simp only[cn.gP] at hc <;>try (cases hc;done)
 all_goals simp only[cn.de] at h
 case mv x=>simp only[bu,dn h]
 case pick c a b=>simp only[bu,dn h.l,dn h.r.l,dn h.r.r]
 case bin _ x y=>simp only[bu,dn h.l,dn h.r]
 case eqv _ _ x y=>simp only[bu,dn h.l,dn h.r]
 case nilS x=>simp only[bu,dn h]
 case conv x=>simp only[bu,dn h]
 case un x=>simp only[bu,dn h]
 case fl x=>simp only[bu,dn h]
 case ix x i=>simp only[bu,dn h.l,dn h.r]
 case lenT x=>simp only[bu,dn h]
 case bld zs ps=>simp only[bu,Ei h]
 case ext x i=>simp only[bu,dn h]
 case mk f caps=>simp only[bu,mU h]
 case nilC x=>simp only[bu,dn h]
 case ptrE neg x y=>simp only[bu,dn h.l,dn h.r]
theorem ajT(hu:eC A A'){m:I}{q:List I×List I}(h:gI A m=some q):gI A' m=some q:=by
 cases m with
 |mref n =>
  simp only[gI] at h ⊢;cases hd:A.o n with
  |none=>simp only[hd] at h;cases h
  |some y=>simp only[hd] at h;simp only[hu n y hd];exact h
 |raw v=>cases v <;>first | (cases h;done) | (rename_i m;cases m <;>first | exact h | cases h)
 |cX ks vs=>exact h
 |_=>simp only[gI] at h;cases h
theorem MG{op:cn}(hu:eC A A')(h:er A A' op.de){v:I}(hv:bu A op=some v):bu A' op=some v:=by
 by_cases hc:op.gP=0
 ·rw[yW hc h];exact hv
 cases op <;>try (exact absurd rfl hc)
 all_goals simp only[cn.de] at h
 case ld s x =>
  simp only[bu,dn h] at hv ⊢;cases hd:cD A (ab A x) with
  |none=>rw[hd] at hv;cases hv
  |some y=>rw[hd] at hv;rw[j0 hu hd];exact hv
 case fa f off x =>
  simp only[bu,dn h] at hv ⊢;generalize ab A x=z at *;cases z <;>try (first | exact hv | (rename_i y;cases y <;>exact hv))
  rename_i n p;cases hd:cD A (.ptr n p) with
  |none=>simp only[hd] at hv;cases hv
  |some y=>simp only[hd] at hv;simp only[j0 hu hd];exact hv
 case ia n esz x i =>
  simp only[bu,dn h.l,dn h.r] at hv ⊢;generalize ab A x=z at *;cases z <;>try (first | exact hv | (rename_i y;cases y <;>exact hv))
  rename_i n p;cases hd:cD A (.ptr n p) with
  |none=>simp only[hd] at hv;(repeat' split at hv) <;>cases hv
  |some y=>simp only[hd] at hv;simp only[j0 hu hd];exact hv
 case is esz x i =>
  simp only[bu,dn h.l,dn h.r] at hv ⊢;generalize ab A i=q at *;cases q <;>try (exact hv)
  simp only at hv ⊢;generalize ab A x=z at *;cases z <;>try (first | exact hv | (rename_i y;cases y <;>exact hv))
  ·rename_i n p;cases hd:A.o n with
   |none=>simp only[hd] at hv;cases hv
   |some y=>simp only[hd] at hv;simp only[hu n y hd];exact hv
  ·rename_i n p sz lo k;simp only at hv ⊢;cases hd:cD A (.ptr n p) with
   |none=>simp only[hd] at hv;cases hv
   |some y=>simp only[hd] at hv;simp only[j0 hu hd];exact hv
 case len x =>
  simp only[bu,dn h] at hv ⊢;generalize ab A x=z at *;cases z <;>try (first | exact hv | (rename_i y;cases y <;>exact hv))
  rename_i n p;cases hd:A.o n with
  |none=>simp only[hd] at hv;cases hv
  |some y=>simp only[hd] at hv;simp only[hu n y hd];exact hv
 case cap x =>
  simp only[bu,dn h] at hv ⊢;generalize ab A x=z at *;cases z <;>try (first | exact hv | (rename_i y;cases y <;>exact hv))
  rename_i n p sz lo k;simp only at hv ⊢;cases hd:cD A (.ptr n p) with
  |none=>simp only[hd] at hv;cases hv
  |some y=>simp only[hd] at hv;simp only[j0 hu hd];exact hv
 case bs0 esz=>exact hv
 case sl esz x lo hi mx =>
  simp only[bu,dn h.l,pR h.r.l,pR h.r.r.l,pR h.r.r.r] at hv ⊢;generalize ab A x=z at *;cases z <;>try (first | exact hv | (rename_i y;cases y <;>exact hv))
  rename_i n p sz l0 k;simp only at hv ⊢;cases hd:cD A (.ptr n p) with
  |none=>simp only[hd] at hv;cases hv
  |some y=>simp only[hd] at hv;simp only[j0 hu hd];exact hv
 case va n esz x =>
  simp only[bu,dn h] at hv ⊢;generalize ab A x=z at *;cases z <;>try (first | exact hv | (rename_i y;cases y <;>exact hv))
  rename_i n p;cases hd:cD A (.ptr n p) with
  |none=>simp only[hd] at hv;cases hv
  |some y=>simp only[hd] at hv;simp only[j0 hu hd];exact hv
 case lk ty z ok m k =>
  simp only[bu,dn h.l,dn h.r] at hv ⊢;cases hd:gI A (ab A m) with
  |none=>rw[hd] at hv;cases hv
  |some y=>rw[hd] at hv;rw[ajT hu hd];exact hv
 case ent x =>
  simp only[bu,dn h] at hv ⊢;generalize ab A x=z at *;cases z <;>try (exact hv)
  rename_i n;simp only at hv ⊢;cases hd:A.o n with
  |none=>simp only[hd] at hv;cases hv
  |some y=>simp only[hd] at hv;simp only[hu n y hd];exact hv
 case bs esz ps =>
  simp only[bu,mU h] at hv ⊢;cases hd:ca false A (ps.map (ab A)) with
  |none=>rw[hd] at hv;cases hv
  |some y=>rw[hd] at hv;rw[lZ hu hd];exact hv
 all_goals (simp only[bu] at hv;cases hv)
end
def pass(A:ae)(g:aB):Prop:=match g.guard with | none=>True | some (t,b)=>A.t t=.bool b
def gJ(A:ae)(g:aB):Prop:=match g.guard with | none=>False | some (t,b)=>A.t t=.bool (!b)∨A.t t=.undef
inductive jV (P:Program) (A:ae):cn→I→Prop where
 |pure {op:cn} {v:I} : bu A op=some v→jV P A op v
 |flat {f:FuncId} {args:List aJ} {cargs:List I} {r:I} : ca true A (args.map (ab A))=some cargs→ay P f cargs r→r.flat=true→jV P A (.call f args) r
 |lead {f:FuncId} {args:List aJ} {cargs:List I} {r:I} : ca false A (args.map (ab A))=some cargs→ay P f cargs r→jV P A (.call f args) r
 |uR {x:aJ} {f:FuncId} {caps:List I} {args:List aJ} {cargs:List I} {r:I} : ab A x=.func f caps→ca true A (args.map (ab A)++caps)=some cargs→ay P f cargs r→r.flat=true→jV P A (.eF x args) r
 |uS {x:aJ} {f:FuncId} {caps:List I} {args:List aJ} {cargs:List I} {r:I} : ab A x=.func f caps→ca false A (args.map (ab A)++caps)=some cargs→ay P f cargs r→jV P A (.eF x args) r
def sC(A:ae)(op:cn)(x:I):Prop:=op=.alloc x∨∃ y,op=.box y∧(ab A y).cm=true∧x=ab A y
def sD(A:ae)(op:cn)(n:Nat)(z:ah):Prop:=∃ s x v p b old,op=.br s x v∧ab A x=.ptr n p∧A.o n=some (.box b)∧b.at p=some old∧yK s (ab A v) old∧z=.box (b.dO p (ab A v))
def Rr(A:ae)(dst:Option Nat)(op:cn)(B:ae):Prop:=op.gP=5∧∀ (rest:List aB) (k:ae→cK),bj A dst op rest k=k B
theorem ani{A:ae}{neg:Bool}{x:aJ}{v:I}(h:bu A (.nilS neg x)=some v):kj (ab A x)=false:=by
 simp only[bu] at h;generalize ab A x=q at *;cases q <;>simp only[kj] <;>simp only at h <;>try (cases h;done)
 rename_i sz es;cases es with
 |nil=>simp at h
 |cons=>rfl
inductive fv (P:Program) (g:aB) (A:ae):ae→Prop where
 |skip:gJ A g→fv P g A (A.aP g.dst .undef)
 |val {v:I} : pass A g→jV P A g.op v→fv P g A (A.aP g.dst v)
 |jL {d:Nat} {x:I} : pass A g→g.dst=some d→sC A g.op x→A.o d=none→fv P g A ((A.aS d (.box x)).put d (.ptr d []))
 |br {n:Nat} {z:ah} : pass A g→g.dst=none→sD A g.op n z→fv P g A (A.aS n z)
 |iR {B:ae} : pass A g→Rr A g.dst g.op B→fv P g A B
theorem vt{b' b:Bool}(h:b'≠b):b' = !b:=by cases b <;>cases b' <;>simp_all
section
variable {P:Program} {Y:Value→List I→List (Nat×ah)→cO→Prop} {K:ae→Prop}
theorem fv.LV{A:ae}{g:aB}{rest:List aB}(hp:pass A g)(h:bt P Y true K (bj A g.dst g.op rest (aE rest))):∃ B,fv P g A B∧bt P Y true K (aE rest B):=by
 have pure:bt P Y true K (cP (bu A g.op) fun v=>aE rest (A.aP g.dst v))→∃ B,fv P g A B∧bt P Y true K (aE rest B):=by
  intro h;cases hv:bu A g.op with
  |none=>rw[hv] at h;cases h
  |some v=>rw[hv] at h;exact ⟨_,.val hp (.pure hv),h⟩
 obtain ⟨dst,op,gd⟩:=g;cases op with
 |alloc z =>
  simp only[bj] at h;split at h
  case h_2=>cases h
  split at h
  case h_2=>cases h
  rename_i hd _ ho;exact ⟨_,.jL hp rfl (.inl rfl) ho,h⟩
 |box x =>
  simp only[bj] at h;split at h
  case h_2=>cases h
  split at h
  case h_2=>cases h
  rename_i hd _ ho;split at h
  case isFalse=>cases h
  rename_i hv;exact ⟨_,.jL hp rfl (.inr ⟨x,rfl,hv,rfl⟩) ho,h⟩
 |br s x v =>
  simp only[bj] at h;split at h
  case h_2=>cases h
  split at h
  case h_2=>cases h
  rename_i n p hx;split at h
  case h_2=>cases h
  rename_i b hb;split at h
  case h_2=>cases h
  rename_i old hat;split at h
  case isFalse=>cases h
  rename_i hok;exact ⟨_,.br hp rfl ⟨s,x,v,p,b,old,rfl,hx,hb,hat,hok,rfl⟩,h⟩
 |nilS neg x =>
  simp only[bj] at h;split at h
  ·cases h with | any hdr=>cases hdr
  ·exact pure h
 |dF e esz bytes z s x =>
  simp only[bj] at h;split at h
  ·rename_i n l hs';split at h
   case h_2=>cases h
   rename_i sz ys hx';split at h
   case h_3=>cases h
   case h_2 =>
    rename_i T xs hn;split at h
    case isFalse=>cases h
    rename_i hok;exact ⟨_,.iR hp ⟨rfl,fun rest k=>by simp only[bj,hs',hx',hn,if_pos hok]⟩,h⟩
   rename_i T sz' es hn;split at h
   case isFalse=>cases h
   rename_i hok;exact ⟨_,.iR hp ⟨rfl,fun rest k=>by simp only[bj,hs',hx',hn,if_pos hok]⟩,h⟩
  ·rename_i hno;have hg:∀ (rest:List aB) (k:ae→cK),bj A dst (.dF e esz bytes z s x) rest k=fw A dst esz bytes z (ab A s) (eI A esz (ab A s)) (eI A esz (ab A x)) k:=fun rest k=>by
    simp only[bj]
   simp only[fw] at h hg;split at h
   case h_2=>cases h
   rename_i es ys hse hsx;simp only[hse,hsx] at hg;have grow:¬ bt P Y true K (ib A dst esz bytes z es ys (aE rest)):=fun h=>by
    simp only[ib] at h;split at h
    case h_2=>cases h
    split at h
    case h_2=>cases h
    split at h
    case isFalse=>cases h
    cases h with | any hdr=>cases hdr
   split at h
   ·rename_i hne;simp only[if_pos hne] at hg;exact ⟨_,.iR hp ⟨rfl,hg⟩,h⟩
   ·rename_i hne;simp only[if_neg hne] at hg;split at h
    ·exact absurd h grow
    ·exact absurd h grow
    ·rename_i n p sz lo l hsv;split at h
     case h_2=>cases h
     rename_i b hn;split at h
     case h_2=>cases h
     rename_i fs hat;split at h
     ·rename_i hroom;split at h
      case isFalse=>cases h
      rename_i hok;simp only[hsv,hn,hat,if_pos hroom,if_pos hok] at hg;exact ⟨_,.iR hp ⟨rfl,hg⟩,h⟩
     ·exact absurd h grow
    ·cases h
 |kL f args =>
  simp only[bj] at h;cases h with | ext r hdr=>cases hdr
 |lI e esz bytes z s n =>
  exfalso
  simp only[bj] at h;split at h
  case h_2=>cases h
  simp only[vm] at h;split at h
  case h_2=>cases h
  split at h
  case h_2=>cases h
  split at h
  case h_2=>cases h
  split at h
  case h_2=>cases h
  split at h
  case isFalse=>cases h
  simp only[ib] at h;split at h
  case h_2=>cases h
  split at h
  case h_2=>cases h
  split at h
  case isFalse=>cases h
  cases h with | any hdr=>cases hdr
 |j9 =>
  simp only[bj] at h;split at h
  case h_2=>cases h
  rename_i d;split at h
  case h_2=>cases h
  rename_i hf;exact ⟨_,.iR hp ⟨rfl,fun rest k=>by simp only[bj,hf]⟩,h⟩
 |kB e bytes z n =>
  simp only[bj] at h;split at h
  case h_2=>cases h
  rename_i d;split at h
  case h_2=>cases h
  rename_i hf;split at h
  case h_2=>cases h
  rename_i k m hn;split at h
  case isFalse=>cases h
  rename_i hc;exact ⟨_,.iR hp ⟨rfl,fun rest k=>by simp only[bj,hf,hn,if_pos hc]⟩,h⟩
 |gY ty m key v =>
  simp only[bj] at h;split at h
  case h_2=>cases h
  split at h
  case h_2=>cases h
  rename_i n hm;split at h
  case h_2=>cases h
  rename_i ks vs hn;split at h
  case h_2=>cases h
  rename_i ks' vs' hl;exact ⟨_,.iR hp ⟨rfl,fun rest k=>by simp only[bj,hm,hn,hl]⟩,h⟩
 |kI x =>
  simp only[bj] at h;split at h
  case h_2=>cases h
  rename_i d;split at h
  case h_2=>cases h
  rename_i hf;split at h
  case h_2=>cases h
  rename_i ks vs hx;exact ⟨_,.iR hp ⟨rfl,fun rest k=>by simp only[bj,hf,hx]⟩,h⟩
 |jN x =>
  simp only[bj] at h;split at h
  case h_2=>cases h
  rename_i n hx;split at h
  case h_2=>cases h
  rename_i ks vs left cur hn;split at h
  ·rename_i hl;exact ⟨_,.iR hp ⟨rfl,fun rest k=>by simp only[bj,hx,hn,if_pos hl]⟩,h⟩
  ·cases h with | any hdr=>cases hdr
 |iQ esz z x =>
  simp only[bj] at h;split at h
  case h_2=>cases h
  have hg:∀ (rest:List aB) (k:ae→cK),bj A none (.iQ esz z x) rest k=nF A esz z k (ab A x):=fun rest k=>rfl;simp only[nF] at h hg;split at h
  ·rename_i n p sz lo l hv;split at h
   case h_2=>cases h
   rename_i b hn;split at h
   case h_2=>cases h
   rename_i fs hat;split at h
   case isFalse=>cases h
   rename_i hok;simp only[hv,hn,hat,if_pos hok] at hg;exact ⟨_,.iR hp ⟨rfl,hg⟩,h⟩
  ·rename_i z0 hv;simp only[hv] at hg;exact ⟨_,.iR hp ⟨rfl,hg⟩,h⟩
  ·rename_i z0 hv;simp only[hv] at hg;exact ⟨_,.iR hp ⟨rfl,hg⟩,h⟩
  ·cases h
 |lQ esz x y =>
  have hg:∀ (rest:List aB) (k:ae→cK),bj A dst (.lQ esz x y) rest k=sS A dst esz k (ab A x) (eI A esz (ab A y)):=fun rest k=>rfl;simp only[bj] at h;simp only[sS] at h hg;split at h
  ·rename_i n p sz lo l ys hv hsx;split at h
   case h_2=>cases h
   rename_i b hn;split at h
   case h_2=>cases h
   rename_i fs hat;split at h
   case isFalse=>cases h
   rename_i hok;simp only[hv,hsx,hn,hat,if_pos hok] at hg;exact ⟨_,.iR hp ⟨rfl,hg⟩,h⟩
  ·cases h
 |call f args =>
  simp only[bj] at h;generalize h1:ca true A (args.map (ab A))=a1 at h;generalize h2:ca false A (args.map (ab A))=a2 at h;cases h with
  |flat r hc hf hw=>exact ⟨_,.val hp (.flat h1 hc hf),hw⟩
  |lead r hc hw=>exact ⟨_,.val hp (.lead h2 hc),hw⟩
  |iE ns r hdr=>cases hdr
  |bS aA ρ os cargs post hdr=>cases hdr
 |eF x args =>
  simp only[bj] at h;split at h
  case h_3=>cases h
  case h_2=>cases h with | zT os cargs post hdr=>cases hdr
  rename_i f caps hx;generalize h1:ca true A (args.map (ab A)++caps)=a1 at h;generalize h2:ca false A (args.map (ab A)++caps)=a2 at h;cases h with
  |flat r hc hf hw=>exact ⟨_,.val hp (.uR hx h1 hc hf),hw⟩
  |lead r hc hw=>exact ⟨_,.val hp (.uS hx h2 hc),hw⟩
  |iE ns r hdr=>cases hdr
  |bS aA ρ os cargs post hdr=>cases hdr
 |_=>exact pure (by simpa only[bj] using h)
theorem fv.yA{A:ae}{g:aB}{rest:List aB}(h:bt P Y true K (aE (g::rest) A)):∃ B,fv P g A B∧bt P Y true K (aE rest B):=by
 simp only[aE] at h;split at h
 ·rename_i hg;exact fv.LV (by simp only[pass,hg]) h
 ·rename_i t b hg;split at h
  ·rename_i b' hb;split at h
   ·rename_i hbb;subst hbb;exact fv.LV (by simp only[pass,hg];exact hb) h
   ·rename_i hbb;refine ⟨_,.skip (by simp only[gJ,hg];exact .inl (by rw[hb,vt hbb])),h⟩
  ·rename_i hb;exact ⟨_,.skip (by simp only[gJ,hg];exact .inr hb),h⟩
  ·cases h
theorem oC{A:ae}{g:aB}{rest:List aB}(hp:pass A g):aE (g::rest) A=bj A g.dst g.op rest (aE rest):=by
 simp only[aE];cases hg:g.guard with
 |none=>rfl
 |some tb =>
  obtain ⟨t,b⟩:=tb;simp only[pass,hg] at hp;simp only[hp,if_true]
theorem fv.zM{A B:ae}{g:aB}{rest:List aB}(h:fv P g A B)(hw:bt P Y true K (aE rest B)):bt P Y true K (aE (g::rest) A):=by
 cases h with
 |skip hn =>
  simp only[aE];cases hg:g.guard with
  |none=>simp only[gJ,hg] at hn
  |some tb =>
   obtain ⟨t,b⟩:=tb;simp only[gJ,hg] at hn;rcases hn with hn | hn
   ·simp only[hn];rw[if_neg (by cases b <;>simp)];exact hw
   ·simp only[hn];exact hw
 |val hp hv =>
  rw[oC hp];obtain ⟨dst,op,gd⟩:=g;cases hv with
  |pure hv =>
   have hv':bu A op=some _:=hv;cases op <;>try (simp only[bj,hv',cP] <;>first | exact hw | (simp only[bu] at hv';cases hv');done)
   all_goals first
    |(simp only[bu] at hv';cases hv';done)
    |(simp only[bj,ani hv',zz6,if_false,hv',cP];exact hw)
  |flat h1 h2 h3=>simp only[bj,h1];exact .flat _ h2 h3 hw
  |lead h1 h2=>simp only[bj,h1];exact .lead _ h2 hw
  |uR h0 h1 h2 h3=>simp only[bj,h0,h1];exact .flat _ h2 h3 hw
  |uS h0 h1 h2=>simp only[bj,h0,h1];exact .lead _ h2 hw
 |jL hp hd hm ho =>
  rw[oC hp];obtain ⟨dst,op,gd⟩:=g;simp only at hd;subst hd;rcases hm with hm | ⟨y,hm,hv,rfl⟩ <;>simp only at hm <;>subst hm
  ·simp only[bj,ho];exact hw
  ·simp only[bj,ho,hv,if_true];exact hw
 |br hp hd hm =>
  rw[oC hp];obtain ⟨dst,op,gd⟩:=g;simp only at hd;subst hd;obtain ⟨s,x,v,p,b,old,h1,h2,h3,h4,h5,rfl⟩:=hm;simp only at h1;subst h1;simp only[bj,h2,h3,h4,if_pos h5];exact hw
 |iR hp hm =>
  rw[oC hp,hm.2];exact hw
theorem jV.cM{A A':ae}{op:cn}{v:I}(h:jV P A op v)(hu:eC A A')(ha:er A A' op.de):jV P A' op v:=by
 cases h with
 |pure h=>exact .pure (MG hu ha h)
 |flat h1 h2 h3=>exact .flat (by rw[mU ha];exact lZ hu h1) h2 h3
 |lead h1 h2=>exact .lead (by rw[mU ha];exact lZ hu h1) h2
 |uR h0 h1 h2 h3=>simp only[cn.de] at ha;exact .uR (by rw[dn ha.l];exact h0) (by rw[mU ha.r];exact lZ hu h1) h2 h3
 |uS h0 h1 h2=>simp only[cn.de] at ha;exact .uS (by rw[dn ha.l];exact h0) (by rw[mU ha.r];exact lZ hu h1) h2
theorem jV.iE{A A':ae}{op:cn}{v:I}(h:jV P A op v)(hc:op.gP=0)(ha:er A A' op.de):jV P A' op v:=by
 cases h with
 |pure h=>exact .pure (by rw[yW hc ha];exact h)
 |_=>simp[cn.gP] at hc
theorem oc{A A':ae}{g:aB}(ha:er A A' g.de)(h:pass A g):pass A' g:=by
 unfold pass at *;cases hg:g.guard with
 |none=>trivial
 |some tb=>simp only[hg] at h ⊢;rw[ha tb.1 (by simp[aB.de,hg])];exact h
theorem qh{A A':ae}{g:aB}(ha:er A A' g.de)(h:gJ A g):gJ A' g:=by
 unfold gJ at *;cases hg:g.guard with
 |none=>simp only[hg] at h
 |some tb=>simp only[hg] at h ⊢;rw[ha tb.1 (by simp[aB.de,hg])];exact h
theorem aB.kE{A A':ae}{g:aB}(ha:er A A' g.de):er A A' g.op.de:=fun k hk=>ha k (List.mem_append_left _ hk)
def lH(P:Program)(g:aB)(A:ae)(v:I):Prop:=(gJ A g∧v=.undef)∨(pass A g∧jV P A g.op v)
theorem lH.step{A:ae}{g:aB}{v:I}(h:lH P g A v):fv P g A (A.aP g.dst v):=by
 rcases h with ⟨h,rfl⟩ | ⟨h,k⟩
 ·exact .skip h
 ·exact .val h k
theorem lH.cM{A A':ae}{g:aB}{v:I}(h:lH P g A v)(hu:eC A A')(ha:er A A' g.de):lH P g A' v:=by
 rcases h with ⟨h,rfl⟩ | ⟨h,k⟩
 ·exact .inl ⟨qh ha h,rfl⟩
 ·exact .inr ⟨oc ha h,k.cM hu (aB.kE ha)⟩
theorem lH.iE{A A':ae}{g:aB}{v:I}(h:lH P g A v)(hc:g.op.gP=0)(ha:er A A' g.de):lH P g A' v:=by
 rcases h with ⟨h,rfl⟩ | ⟨h,k⟩
 ·exact .inl ⟨qh ha h,rfl⟩
 ·exact .inr ⟨oc ha h,k.iE hc (aB.kE ha)⟩
theorem fv.zH{A B:ae}{g:aB}(h:fv P g A B)(hc:g.op.gP≤2):∃ v,lH P g A v∧B=A.aP g.dst v:=by
 cases h with
 |skip h=>exact ⟨_,.inl ⟨h,rfl⟩,rfl⟩
 |val h k=>exact ⟨_,.inr ⟨h,k⟩,rfl⟩
 |jL h1 h2 h3 h4=>rcases h3 with h3 | ⟨y,h3,_⟩ <;>(rw[h3] at hc;simp[cn.gP] at hc)
 |br h1 h2 h3=>obtain ⟨s,x,v,p,b,old,h4,_⟩:=h3;rw[h4] at hc;simp[cn.gP] at hc
 |iR h1 h3=>rw[h3.1] at hc;omega
theorem qo{A:ae}{a b:Option Nat}{v u:I}(h:∀ d,a=some d→b≠some d):(A.aP a v).aP b u=(A.aP b u).aP a v:=by
 cases a with
 |none=>rfl
 |some d=>cases b with
  |none=>rfl
  |some e =>
   have hne:d≠e:=fun he=>h d rfl (by rw[he]);simp only[ae.aP,ae.put,ae.mk.injEq,and_true]
   funext k
   by_cases h1:k=e <;>by_cases h2:k=d <;>simp_all
theorem iZ{A:ae}{d:Option Nat}{v:I} : (A.aP d v).o=A.o:=by cases d <;>rfl
theorem nh{A:ae}{d:Option Nat}{v:I}{l:List Nat}(h:∀ k,d=some k→k∉l):er A (A.aP d v) l:=by
 cases d with
 |none=>exact fun _ _=>rfl
 |some e =>
  intro k hk;have:k≠e:=fun he=>h e rfl (he▸hk);simp[ae.aP,ae.put,this]
theorem er.symm{A A':ae}{l:List Nat}(h:er A A' l):er A' A l:=fun k hk=>(h k hk).symm
theorem sC.same{A A':ae}{op:cn}{x:I}(h:sC A op x)(ha:er A A' op.de):sC A' op x:=by
 rcases h with h | ⟨y,h1,h2,h3⟩
 ·exact .inl h
 ·subst h1;have:=dn (x:=y) ha;exact .inr ⟨y,rfl,by rw[this];exact h2,by rw[this];exact h3⟩
theorem sD.same{A A':ae}{op:cn}{n:Nat}{z:ah}(h:sD A op n z)(ho:A'.o=A.o)(ha:er A A' op.de):sD A' op n z:=by
 obtain ⟨s,x,v,p,b,old,h1,h2,h3,h4,h5,h6⟩:=h;subst h1;simp only[cn.de] at ha;have e1:=dn ha.l;have e2:=dn ha.r;exact ⟨s,x,v,p,b,old,rfl,by rw[e1];exact h2,by rw[ho];exact h3,h4,by rw[e2];exact h5,by rw[e2];exact h6⟩
theorem ai9{g h:aB}(hi:nS g h=true):vO g.op.gP h.op.gP=true∧(∀ d,g.dst=some d→d∉h.de)∧(∀ d,g.dst=some d→h.dst≠some d)∧(∀ d,h.dst=some d→d∉g.de):=by
 simp only[nS,zz2] at hi;obtain ⟨⟨h1,h2⟩,h3⟩:=hi;refine ⟨h1,fun d hd =>?_,fun d hd =>?_,fun d hd =>?_⟩
 ·rw[hd] at h2;simp at h2;exact h2.1
 ·rw[hd] at h2;simp at h2;exact h2.2
 ·rw[hd] at h3;simpa using h3
theorem fv.swap{A B C:ae}{g h:aB}(hi:nS g h=true)(h1:fv P g A B)(h2:fv P h B C):∃ B',fv P h A B'∧fv P g B' C:=by
 obtain ⟨hc,i1,i2,i3⟩:=ai9 hi;simp only[vO,Bool.or_eq_true,zz2,decide_eq_true_eq,beq_iff_eq] at hc;have hg2:g.op.gP≤2:=by rcases hc with hc | hc <;>omega
 obtain ⟨v,hv,rfl⟩:=h1.zH hg2;have ag:er (A.aP g.dst v) A h.de:=(nh i1).symm;have cM:eC (A.aP g.dst v) A:=fun n x hx=>by rwa [iZ] at hx
 cases h2 with
 |skip hn =>
  exact ⟨_,.skip (qh ag hn),by
   rw[qo i2];exact (hv.cM (by intro n x hx;rwa [iZ]) (nh i3)).step⟩
 |val hp hu =>
  exact ⟨_,.val (oc ag hp) (hu.cM cM (aB.kE ag)),by
   rw[qo i2];exact (hv.cM (by intro n x hx;rwa [iZ]) (nh i3)).step⟩
 |jL hp hd hm ho =>
  rename_i d x;rw[iZ] at ho;refine ⟨_,.jL (oc ag hp) hd (hm.same (aB.kE ag)) ho,?_⟩;have e:((A.aP g.dst v).aS d (.box x)).put d (.ptr d [])=((A.aS d (.box x)).put d (.ptr d [])).aP g.dst v:=by
   cases hgd:g.dst with
   |none=>rfl
   |some e =>
    have hne:e≠d:=fun he=>i2 e hgd (by rw[hd,he]);simp only[ae.aP,ae.put,ae.aS,ae.mk.injEq,and_true]
    funext k
    by_cases h1:k=e <;>by_cases h2:k=d <;>simp_all
  rw[e];refine (hv.cM (fun n y hy =>?_) (fun k hk =>?_)).step
  ·have:n≠d:=fun he=>by rw[he,ho] at hy;cases hy
   simp only[ae.put,ae.aS,this,if_false];exact hy
  ·have:k≠d:=fun he=>i3 d hd (he▸hk);simp only[ae.put,ae.aS,this,if_false]
 |br hp hd hm =>
  rename_i n z;have hc0:g.op.gP=0:=by
   obtain ⟨s,x,v,p,b,old,h4,_⟩:=hm;rcases hc with hc | hc
   ·rw[h4] at hc;exact absurd hc.2 (by simp[cn.gP])
   ·exact hc.1
  refine ⟨_,.br (oc ag hp) hd (hm.same iZ.symm (aB.kE ag)),?_⟩;have e:(A.aP g.dst v).aS n z=(A.aS n z).aP g.dst v:=by cases g.dst <;>rfl
  rw[e];exact (lH.iE (A':=A.aS n z) hv hc0 (fun _ _=>rfl)).step
 |iR hp hm =>
  exfalso
  rw[hm.1] at hc;omega
theorem bt.swap{A:ae}{g h:aB}{rest:List aB}(hi:nS g h=true)(hw:bt P Y true K (aE (g::h::rest) A)):bt P Y true K (aE (h::g::rest) A):=by
 obtain ⟨B,h1,h2⟩:=fv.yA hw;obtain ⟨C,h3,h4⟩:=fv.yA h2;obtain ⟨B',h5,h6⟩:=fv.swap hi h1 h3;exact h5.zM (h6.zM h4)
theorem bt.qT{g:aB} : ∀ {l:List aB} {r:List aB} {A:ae},(∀ j∈l,nS j g=true)→bt P Y true K (aE (l++g::r) A)→bt P Y true K (aE (g::(l++r)) A)
 | [],r,A,_,h=>h
 |j::l,r,A,hi,h=>by
  obtain ⟨B,h1,h2⟩:=fv.yA (g:=j) (rest:=l++g::r) h;have h3:=bt.qT (l:=l) (r:=r) (fun k hk=>hi k (by simp[hk])) h2;exact bt.swap (hi j (by simp)) (h1.zM h3)
end
def eP(o:Oper):List Nat:=(o.after.toList.filter fun e=>Region.binds .any e).map (·.on)
def pw(cl:List Nat):List Nat→Nat
 | []=>0
 |k::ks=>(2^k ||| cl.getD k 0) ||| pw cl ks
def sU(on:List (List Nat))(gs:List aB)(cl:List Nat):Bool :=
 (List.range gs.length).all fun i=>(on.getD i []).all (fun k=>decide (k<i))&&Nat.beq (cl.getD i 0) (pw cl (on.getD i [])) &&
  (List.range i).all fun j=>(cl.getD i 0).testBit j||nS (gs.getD j default) (gs.getD i default)
theorem zQ{cl:List Nat}{j:Nat} : ∀ {l:List Nat},(pw cl l).testBit j=true→j∈l∨∃ k∈l,(cl.getD k 0).testBit j=true
 | [],h=>by simp[pw] at h
 |k::ks,h=>by
  simp only[pw,Nat.testBit_or,Bool.or_eq_true,Nat.testBit_two_pow,decide_eq_true_eq] at h;rcases h with (h | h) | h
  ·exact .inl (by simp[h])
  ·exact .inr ⟨k,by simp,h⟩
  ·rcases zQ h with h | ⟨m,h1,h2⟩
   ·exact .inl (by simp[h])
   ·exact .inr ⟨m,by simp[h1],h2⟩
structure uY (l:List Oper) (gs:List aB):Prop where
 pI:∀ i o,l[i]?=some o→∀ k∈eP o,k<i
 xL:∀ (S:Nat→Prop),(∀ i o,l[i]?=some o→S i→∀ k∈eP o,S k)→∀ i o g j,l[i]?=some o→gs[i]?=some g→(∀ k∈eP o,S k)→j<i→¬ S j→nS (gs.getD j default) g=true
theorem ZW{l:List Oper}{gs:List aB}{cl:List Nat}(hlen:gs.length=l.length)(h:sU (l.map eP) gs cl=true):uY l gs:=by
 simp only[sU,zx2,zw1] at h;have bF:∀ i o,l[i]?=some o→∃ g,gs[i]?=some g∧(∀ k∈eP o,k<i)∧(∀ j,(cl.getD i 0).testBit j=true→j∈eP o∨∃ k∈eP o,(cl.getD k 0).testBit j=true)∧∀ j,j<i→(cl.getD i 0).testBit j=true∨nS (gs.getD j default) g=true:=by
  intro i o ho;have hi:i<l.length:=(zy6.1 ho).1;have h1:=h i (by omega);have hon:(l.map eP).getD i []=eP o:=by simp[zz0,ho]
  have hgi:i<gs.length:=by omega
  have hg:gs[i]?=some gs[i]:=zz9 hgi;have hgd:gs.getD i default=gs[i]:=by simp[zz0,hg]
  rw[hon,hgd] at h1;simp only[zz2,zx2,decide_eq_true_eq,Bool.or_eq_true,zw1] at h1;have hb:=Nat.eq_of_beq_eq_true h1.1.2;exact ⟨_,hg,h1.1.1,fun j hj=>zQ (by rw[←hb];exact hj),h1.2⟩
 refine ⟨fun i o ho=>(bF i o ho).choose_spec.2.1,?_⟩;intro S hS i o g j ho hg hon hj hnj;have key:∀ n i o,i≤n→l[i]?=some o→(∀ k∈eP o,S k)→∀ j,(cl.getD i 0).testBit j=true→S j:=by
  intro n
  induction n with
  |zero =>
   intro i o hi ho hon j hj;obtain ⟨g,_,h1,h2,_⟩:=bF i o ho;rcases h2 j hj with h | ⟨k,hk,_⟩
   ·exact hon j h
   ·have:=h1 k hk;omega
  |succ n ih =>
   intro i o hi ho hon j hj;obtain ⟨g,_,h1,h2,_⟩:=bF i o ho;rcases h2 j hj with h | ⟨k,hk,hjk⟩
   ·exact hon j h
   ·have hki:=h1 k hk;have hkl:k<l.length:=Nat.lt_trans hki (zy6.1 ho).1;obtain ⟨ok,hok⟩:∃ ok,l[k]?=some ok:=⟨l[k],zz9 hkl⟩
    exact ih k ok (by omega) hok (hS k ok hok (hon k hk)) j hjk
 obtain ⟨g',hg',_,_,h3⟩:=bF i o ho;rw[hg,u8] at hg';subst hg';rcases h3 j hj with h | h
 ·exact absurd (key i i o (zz7 _) ho hon j h) hnj
 ·exact h
def ju(listed:Array Bool)(n:Nat):List Nat:=(List.range n).filter fun i => !listed.getD i true
def o6(gs:List aB)(listed:Array Bool)(n:Nat):List aB:=(ju listed n).map fun i=>gs.getD i default
theorem OI{i n:Nat}(h:i<n):List.range n=List.range i++i::(List.range (n-(i+1))).map (i+1 + ·):=by
 conv=>lhs;rw[show n=(i+1)+(n-(i+1)) by omega,List.range_add]
 rw[List.range_succ];simp
theorem al8{listed:Array Bool}{i n:Nat}(h:i<n)(hs:listed.size=n)(hu:listed.getD i true=false):∃ l1 l2,ju listed n=l1++i::l2∧ju (listed.setIfInBounds i true) n=l1++l2∧∀ j∈l1,j<i∧listed.getD j true=false:=by
 have same:∀ j,j≠i→(listed.setIfInBounds i true).getD j true=listed.getD j true:=fun j hj=>getD_set_ne true (Ne.symm hj);have hit:(listed.setIfInBounds i true).getD i true=true:=by simp[hs,h]
 refine ⟨(List.range i).filter fun j => !listed.getD j true,((List.range (n-(i+1))).map (i+1 + ·)).filter fun j => !listed.getD j true,?_,?_,?_⟩
 ·simp only[ju];rw[OI h,List.filter_append,zx4];simp only[hu,Bool.not_false,if_true]
 ·simp only[ju];rw[OI h,List.filter_append,zx4];simp only[hit,Bool.not_true,zz6,if_false]
  congr 1
  ·refine List.filter_congr fun j hj =>?_;rw[same j (by have:=zw1.1 hj;omega)]
  ·refine List.filter_congr fun j hj =>?_;obtain ⟨k,_,rfl⟩:=zx9.1 hj;rw[same _ (by omega)]
 ·intro j hj;simp only[zu0,zw1,Bool.not_eq_true'] at hj;exact hj
theorem OO{n:Nat} : ju (Array.replicate n false) n=List.range n:=by
 simp only[ju];refine List.filter_eq_self.2 fun i hi =>?_;have:=zw1.1 hi;simp[this]
theorem ajU(gs:List aB):((List.range gs.length).map fun i=>gs.getD i default)=gs:=by
 apply List.ext_getElem
 ·simp
 ·intro i h1 h2;simp[zz0,h2]
section
variable {c:cU}
theorem nE{P:Program}{n:Nat}{bX:Array Oper} : ∀ {l:List Oper} {gs:List aB},kQ P n bX l=some gs→gs.length=l.length∧∀ (i:Nat) (o:Oper),l[i]?=some o→∃ g,gs[i]?=some g∧pK P n bX o=some g
 | [],gs,h=>by simp only[kQ,u8] at h;subst h;exact ⟨rfl,fun i o ho=>by simp at ho⟩
 |o::l,gs,h=>by
  simp only[kQ] at h;split at h
  case h_2=>cases h
  rename_i g gs' hg hgs;simp only[u8] at h;subst h;obtain ⟨h1,h2⟩:=nE (l:=l) hgs;refine ⟨by simp[h1],fun i o' ho =>?_⟩;cases i with
  |zero=>simp only[List.getElem?_cons_zero,u8] at ho;subst ho;exact ⟨g,rfl,hg⟩
  |succ i=>simpa using h2 i o' (by simpa using ho)
theorem ah9{K:ae→Prop}{bX:Array Oper}{Q:Exit→Act→World→Prop}{o:Oper}{g:aB}{rest:List aB}{A:ae}{a:Act}{w:World}{Kw:Act→World→Prop}(hg:pK c.P c.n bX o=some g)(hwp:bt c.P c.Y true K (aE (g::rest) A))(hs:cA c A a w)
  (hK:∀ B a' w',bt c.P c.Y true K (aE rest B)→cA c B a' w'→Kw a' w'):if Region.wanted o (yielded bX a.tmps) then o.wpIn c.bp 9 c.P a w Kw Q else (∀ f,o.about c.P w a.eval=some f→c.bp.fn f)∧Kw (a.put o.dst undef) w:=by
 obtain ⟨h1,h2,h3,h4⟩:=vC hg;have step:bt c.P c.Y true K (bj A g.dst g.op rest (aE rest))→o.wpIn c.bp 9 c.P a w Kw Q:=fun h =>
  xt h1 h2.symm (by rw[h2];exact h3) h hs (fun B a' w' hw hs'=>hK B a' w' hw hs')
 simp only[aE] at hwp;rcases h4 with ⟨h5,h6⟩ | ⟨j,b,t,h5,h6,h7⟩
 ·rw[h6] at hwp;have hw:Region.wanted o (yielded bX a.tmps)=true:=by simp[Region.wanted,h5]
  rw[hw,if_pos rfl];exact step hwp
 ·rw[h7] at hwp;simp only at hwp;split at hwp
  ·rename_i b' hb';rw[xC hs h5 h6 hb'];split at hwp
   ·rename_i hbb;subst hbb;simp only[BEq.rfl,if_true];exact step hwp
   ·rename_i hbb;have:(b'==b)=false:=by simpa using hbb
    rw[this];simp only[zz6,if_false];exact ⟨fun f _=>oI c f,hK _ _ _ hwp (by rw[h2];exact hs.qn h3)⟩
  ·rename_i hb';rw[xD hs h5 h6 hb'];simp only[zz6,if_false];exact ⟨fun f _=>oI c f,hK _ _ _ hwp (by rw[h2];exact hs.qn h3)⟩
  ·cases hwp
theorem RL{K:ae→Prop}{bX:Array Oper}{gs:List aB}{Q:Exit→Act→World→Prop}(hQ:∀ B a w,K B→cA c B a w→Q .normal a w)(hgs:kQ c.P c.n bX bX.toList=some gs)(hd:uY bX.toList gs) :
  ∀ (fuel:Nat) (listed:Array Bool) (A:ae) (a:Act) (w:World),listed.size=bX.size→(∀ i o,bX.toList[i]?=some o→listed.getD i false=true→∀ k∈eP o,listed.getD k false=true)→(ju listed bX.size).length≤fuel →
   bt c.P c.Y true K (aE (o6 gs listed bX.size) A)→cA c A a w→wpAnyIn c.bp 9 c.P .any bX Q fuel listed a w:=by
 obtain ⟨hlen,hat⟩:=nE hgs;have onOf_mem:∀ (o:Oper) (e:Edge),e∈o.after→Region.binds .any e=true→e.on∈eP o:=fun o e he hb=>by
  simp only[eP,zx9,zu0];exact ⟨e,⟨by simpa using he,hb⟩,rfl⟩
 have of_onOf:∀ (o:Oper) (k:Nat),k∈eP o→∃ e∈o.after,Region.binds .any e=true∧e.on=k:=fun o k hk=>by
  simp only[eP,zx9,zu0] at hk;obtain ⟨e,⟨h1,h2⟩,h3⟩:=hk;exact ⟨e,by simpa using h1,h2,h3⟩
 have last:∀ (listed:Array Bool) (A:ae) (a:Act) (w:World),listed.size=bX.size→Region.ready .any bX listed=[]→bt c.P c.Y true K (aE (o6 gs listed bX.size) A)→cA c A a w→Q .normal a w:=by
  intro listed A a w hsz hr hwp hs;have hnone:ju listed bX.size=[]:=by
   have all:∀ n,∀ i,i<n→i<bX.size→listed.getD i true=true:=by
    intro n
    induction n with
    |zero=>intro i hi;omega
    |succ n ih =>
     intro i hi his;cases hb:listed.getD i true with
     |true=>rfl
     |false =>
      exfalso
      have ho:bX[i]?=some bX[i]:=Array.getElem?_eq_getElem his;have:i∈Region.ready .any bX listed:=mem_ready.2 ⟨hb,bX[i],ho,fun e he hbd=>by
       have hlt:=hd.pI i bX[i] (by simp) e.on (onOf_mem _ e he hbd);have h1:=ih e.on (by omega) (by omega);have h2:e.on<listed.size:=by omega
       simpa[Array.getD_eq_getD_getElem?,h2] using h1⟩
      rw[hr] at this;cases this
   simp only[ju];refine List.filter_eq_nil_iff.2 fun i hi =>?_;have:=all (i+1) i (by omega) (zw1.1 hi);simp only[this,Bool.not_true,zz6,not_false_eq_true]
  simp only[o6,hnone,zx1,aE] at hwp;cases hwp with
  |done hk=>exact hQ A a w hk hs
 intro fuel
 induction fuel with
 |zero =>
  intro listed A a w hsz hcl hcnt hwp hs;have hnone:ju listed bX.size=[]:=zv1.1 (by omega);have hr:Region.ready .any bX listed=[]:=by
   refine List.eq_nil_iff_forall_not_mem.2 fun i hi =>?_;obtain ⟨h1,o,ho,_⟩:=mem_ready.1 hi;have:i∈ju listed bX.size:=by
    simp only[ju,zu0,zw1,h1,Bool.not_false,and_true];exact (zw2.1 ho).1
   rw[hnone] at this;cases this
  exact ⟨hr,last listed A a w hsz hr hwp hs⟩
 |succ fuel ih =>
  intro listed A a w hsz hcl hcnt hwp hs;refine ⟨fun hr=>last listed A a w hsz hr hwp hs,fun i hi =>?_⟩;obtain ⟨hun,o,ho,hall⟩:=mem_ready.1 hi;have hin:i<bX.size:=(zw2.1 ho).1;obtain ⟨l1,l2,e1,e2,hl1⟩:=al8 hin hsz hun;have hol:bX.toList[i]?=some o:=by simpa using ho
  obtain ⟨g,hgi,hcg⟩:=hat i o hol;have hon:∀ k∈eP o,listed.getD k false=true:=fun k hk=>by
   obtain ⟨e,h1,h2,h3⟩:=of_onOf o k hk;exact h3▸hall e h1 h2
  have hgd:gs.getD i default=g:=by simp[zz0,hgi]
  have hwp':bt c.P c.Y true K (aE (g::o6 gs (listed.setIfInBounds i true) bX.size) A):=by
   simp only[o6,e1,zx5,zz8,hgd] at hwp;simp only[o6,e2,zx5];refine bt.qT (fun j hj =>?_) hwp;obtain ⟨k,hk,rfl⟩:=zx9.1 hj;obtain ⟨hk1,hk2⟩:=hl1 k hk;refine hd.xL (fun k=>listed.getD k false=true) hcl i o g k hol hgi hon hk1 ?_;have hks:k<listed.size:=by omega
   simp[Array.getD_eq_getD_getElem?,hks] at hk2 ⊢;exact hk2
  unfold wpOpIn;rw[ho];refine ah9 hcg hwp' hs fun B a' w' hw hs'=>ih _ B a' w' (by simpa using hsz) ?_ ?_ hw hs'
  ·intro m om hom hm k hk;by_cases hmi:m=i
   ·subst hmi;rw[hol,u8] at hom;subst hom;exact getD_set_true (hon k hk)
   ·rw[getD_set_ne false (Ne.symm hmi)] at hm;exact getD_set_true (hcl m om hom hm k hk)
  ·have:(ju listed bX.size).length=(ju (listed.setIfInBounds i true) bX.size).length+1:=by
    rw[e1,e2];simp;omega
   omega
theorem al7{K:ae→Prop}{bX:Array Oper}{gs:List aB}{Q:Exit→Act→World→Prop}{id:Nat}{A:ae}{a:Act}{w:World}(hm:c.P.follows .mixedOrders=true)(hQ:∀ B a w,K B→cA c B a w→Q .normal a w)(hgs:kQ c.P c.n bX bX.toList=some gs)(hd:uY bX.toList gs)
  (hwp:bt c.P c.Y true K (aE gs A)) (hs:cA c A a w):(Code.region id bX true).wpIn c.bp 9 c.P Q a w:=by
 refine wpIn_region_any hm (RL hQ hgs hd bX.size (Array.replicate bX.size false) A a _ (by simp) ?_ ?_ ?_ ?_)
 ·intro i o _ h
  exfalso
  simp only[Array.getD_eq_getD_getElem?,Array.getElem?_replicate] at h;split at h <;>simp at h
 ·rw[OO];simp
 ·have hl:=(nE hgs).1;simp only[zv0] at hl;simp only[o6,OO];rw[←hl,ajU];exact hwp
 ·obtain ⟨D,E,hs⟩:=hs;exact ⟨D,E,hs.grow (w' := { w with drawn:=w.drawn+1 }) ⟨rfl,rfl,rfl,zz7 _,fun _ _=>rfl⟩ (fun _ _ h=>h) (fun _ _ h _=>h) (fun b o h=>hs.dv b o h)⟩
end
inductive aO where
 |bV (on:Option (List (List Nat))) (gs:List aB)
 |seq (x y:aO)
 |cond (b:aJ) (x y:aO)
 |block (id:Nat) (x:aO)
 |loop (x:aO)
 |exit (id:Nat)
 |ret
 |skip
 |scope (x:aO)
 |label
 |lJ
 |kd (f:aJ) (ps:List Nat) (x y:aO)
 deriving Inhabited
def fr(P:Program)(n:Nat):Code→Option aO
 | .region _ bX draw=>match kQ P n bX bX.toList with
  |some gs=>if (!draw||P.follows .mixedOrders)=true then some (.bV (bif draw then some (bX.toList.map eP) else none) gs) else none
  |none=>some .lJ
 | .seq x y=>match fr P n x,fr P n y with
  |some x,some y=>some (.seq x y)
  |_,_=>none
 | .cond b x y=>match bK P 0 b,fr P n x,fr P n y with
  |some b,some x,some y=>some (.cond b x y)
  |_,_,_=>none
 | .block id x=>match fr P n x with
  |some x=>some (.block id x)
  |none=>none
 | .loop x=>match fr P n x with
  |some x=>some (.loop x)
  |none=>none
 | .exit id=>some (.exit id)
 | .ret=>some .ret
 | .skip=>some .skip
 | .scope x=>match fr P n x with
  |some x=>some (.scope x)
  |none=>none
 | .label _=>some .label
 | .rangeFunc f ps x y=>match bK P 0 f,fr P n x,fr P n y with
  |some f,some x,some y=>if (ps.toList.all fun p=>p<n)=true then some (.kd f ps.toList x y) else none
  |_,_,_=>none
 |_=>none
def Ll(c:cU)(Q:Exit→ae→Prop):Exit→Act→World→Prop:=fun e a w=>∃ A,Q e A∧cA c A a w
def J(c:cU)(x:aO)(Q:Exit→ae→Prop)(A:ae):Prop :=
 ∀ code,fr c.P c.n code=some x→∀ a w,cA c A a w→code.wpIn c.bp 9 c.P (Ll c Q) a w
def ar(k:ae→Prop)(Q:Exit→ae→Prop):Exit→ae→Prop
 | .normal,A=>k A
 |e,A=>Q e A
def bO(id:Nat)(Q:Exit→ae→Prop):Exit→ae→Prop
 | .exit id',A=>if id'=id then Q .normal A else Q (.exit id') A
 |e,A=>Q e A
section
variable {c:cU} {A:ae} {Q:Exit→ae→Prop}
def ZB(d:Option (List (List Nat)))(gs:List aB)(cl:List Nat):Bool:=match d with
 |none=>true
 |some on=>sU on gs cl
theorem J.bV{d:Option (List (List Nat))}{gs:List aB}{cl:List Nat}(hd:ZB d gs cl=true)(h:∀ K:ae→Prop,(∀ B,Q .normal B→K B)→bt c.P c.Y d.isSome K (aE gs A)):J c (.bV d gs) Q A:=by
 intro code hc a w hs;cases code <;>simp only[fr] at hc <;>try (first | (cases hc;done) | ((repeat' split at hc) <;>cases hc;done))
 rename_i id bX draw;split at hc
 ·rename_i gs' hgs;split at hc
  case isFalse=>cases hc
  rename_i hok;simp only[u8,aO.bV.injEq] at hc;obtain ⟨rfl,rfl⟩:=hc;cases draw with
  |false=>exact wpIn_region_list (tt (K:=Q .normal) (fun B a w hk hs=>⟨B,hk,hs⟩) bX.toList gs' A a w hgs (h _ fun _ hb=>hb) hs)
  |true =>
   simp only[Bool.not_true,Bool.false_or] at hok;exact al7 (K:=Q .normal) hok (fun B a w hk hs=>⟨B,hk,hs⟩) hgs (ZW (nE hgs).1 hd) (h _ fun _ hb=>hb) hs
 ·cases hc
theorem J.seq{x y:aO}(h:J c x (ar (fun B=>J c y Q B) Q) A):J c (.seq x y) Q A:=by
 intro code hc a w hs;cases code <;>simp only[fr] at hc <;>try (first | (cases hc;done) | ((repeat' split at hc) <;>cases hc;done))
 rename_i cx cy;split at hc
 ·rename_i x' y' hx hy;simp only[u8,aO.seq.injEq] at hc;obtain ⟨rfl,rfl⟩:=hc;refine wpIn_seq (wpIn_mono (h cx hx a w hs) ?_);rintro e a' w' ⟨B,hq,hs'⟩;cases e <;>simp only[ar,Exit.then] at * <;>first | exact hq cy hy a' w' hs' | exact ⟨B,hq,hs'⟩
 ·cases hc
theorem J.cond{b:aJ}{x y:aO}{t:Bool}(hb:ab A b=.bool t)(h1:t=true→J c x Q A)(h2:t=false→J c y Q A):J c (.cond b x y) Q A:=by
 intro code hc a w hs;cases code <;>simp only[fr] at hc <;>try (first | (cases hc;done) | ((repeat' split at hc) <;>cases hc;done))
 rename_i cb cx cy;split at hc
 ·rename_i b' x' y' hb' hx hy;simp only[u8,aO.cond.injEq] at hc;obtain ⟨rfl,rfl,rfl⟩:=hc;obtain ⟨D,E,hs'⟩:=hs;have hv:=ct hs' hb';rw[hb] at hv;exact wpIn_cond_split (mz hv) (fun ht=>h1 ht cx hx a w ⟨D,E,hs'⟩) (fun ht=>h2 ht cy hy a w ⟨D,E,hs'⟩)
 ·cases hc
theorem J.block{id:Nat}{x:aO}(h:J c x (bO id Q) A):J c (.block id x) Q A:=by
 intro code hc a w hs;cases code <;>simp only[fr] at hc <;>try (first | (cases hc;done) | ((repeat' split at hc) <;>cases hc;done))
 rename_i id' cx;split at hc
 ·rename_i x' hx;simp only[u8,aO.block.injEq] at hc;obtain ⟨rfl,rfl⟩:=hc;refine wpIn_block (wpIn_mono (h cx hx a w hs) ?_);rintro e a' w' ⟨B,hq,hs'⟩;cases e <;>simp only[bO,Exit.inBlock] at * <;>first
   |exact ⟨B,hq,hs'⟩
   |(split at hq
     ·rename_i he;rw[if_pos he];exact ⟨B,hq,hs'⟩
     ·rename_i he;rw[if_neg he];exact ⟨B,hq,hs'⟩)
 ·cases hc
theorem J.exit{id:Nat}(h:Q (.exit id) A):J c (.exit id) Q A:=by
 intro code hc a w hs;cases code <;>simp only[fr] at hc <;>try (first | (cases hc;done) | ((repeat' split at hc) <;>cases hc;done))
 simp only[u8,aO.exit.injEq] at hc;subst hc;exact wpIn_exit ⟨A,h,hs⟩
theorem J.ret(h:Q .ret A):J c .ret Q A:=by
 intro code hc a w hs;cases code <;>simp only[fr] at hc <;>try (first | (cases hc;done) | ((repeat' split at hc) <;>cases hc;done))
 exact wpIn_ret ⟨A,h,hs⟩
theorem J.skip(h:Q .normal A):J c .skip Q A:=by
 intro code hc a w hs;cases code <;>simp only[fr] at hc <;>try (first | (cases hc;done) | ((repeat' split at hc) <;>cases hc;done))
 exact wpIn_skip ⟨A,h,hs⟩
theorem Ej{p:Nat→Prop}(h:∃ n,p n):∃ n,p n∧∀ m,p m→n≤m:=by
 obtain ⟨n,hn⟩:=h
 induction n using Nat.strongRecOn with
 |_ n ih =>
  by_cases hm:∃ m,m<n∧p m
  ·obtain ⟨m,h1,h2⟩:=hm;exact ih m h1 h2
  ·exact ⟨n,hn,fun m hp=>Nat.le_of_not_lt fun hlt=>hm ⟨m,hlt,hp⟩⟩
open Classical in
noncomputable def least(p:Nat→Prop):Nat:=if h:∃ n,p n then (Ej h).choose else 0
theorem Lf{p:Nat→Prop}(h:∃ n,p n):p (least p)∧∀ m,p m→least p≤m:=by
 simp only[least,dif_pos h];exact (Ej h).choose_spec
theorem ant{bp:Fence}{N:Nat}{P:Program}{code:Code}{QQ:Exit→Act→World→Prop}(ai:Nat→Act→World→Prop)(round:∀ n a w,ai n a w→code.wpIn bp N P (Exit.then (fun a' w'=>∃ m,m<n∧ai m a' w') QQ) a w) :
  ∀ n a w,ai n a w→(Code.loop code).wpIn bp N P QQ a w:=by
 intro n a w h;refine wpIn_loop (fun a w=>∃ n,ai n a w) (fun a w=>least fun n=>ai n a w) ⟨n,h⟩ ?_;intro a w hI;have hm:=(Lf hI).1;refine wpIn_mono (round _ a w hm) ?_;intro e a' w' hq;cases e <;>simp only[Exit.then] at hq ⊢ <;>try exact hq
 obtain ⟨m,h1,h2⟩:=hq;exact ⟨⟨m,h2⟩,Nat.lt_of_le_of_lt ((Lf ⟨m,h2⟩).2 m h2) h1⟩
def aC(A B:ae):Prop:=∀ (c:cU) (a:Act) (w:World),cA c A a w→cA c B a w
theorem aC.refl(A:ae):aC A A:=fun _ _ _ h=>h
theorem aC.trans{A B C:ae}(h:aC A B)(k:aC B C):aC A C:=fun c a w hs=>k c a w (h c a w hs)
theorem J.sub{x:aO}{B:ae}(hsub:aC A B)(h:J c x Q B):J c x Q A:=fun code hc a w hs=>h code hc a w (hsub c a w hs)
theorem J.mono{x:aO}{Q':Exit→ae→Prop}(h:J c x Q A)(hq:∀ e B,Q e B→Q' e B):J c x Q' A :=
 fun code hc a w hs=>wpIn_mono (h code hc a w hs) fun e a' w' ⟨B,h1,h2⟩=>⟨B,hq e B h1,h2⟩
theorem J.loop{σ:Type}(S:σ→ae)(C:σ→Prop)(m:σ→Nat)(s0:σ){x:aO}(h0:C s0)(hsub:aC A (S s0))
  (round:∀ s,C s→J c x (ar (fun B=>∃ s',C s'∧m s'<m s∧aC B (S s')) Q) (S s)):J c (.loop x) Q A:=by
 intro code hc a w hs;cases code <;>simp only[fr] at hc <;>try (first | (cases hc;done) | ((repeat' split at hc) <;>cases hc;done))
 rename_i cx;split at hc
 ·rename_i x' hx;simp only[u8,aO.loop.injEq] at hc;subst hc;refine ant (fun n a w=>∃ s,C s∧m s=n∧cA c (S s) a w) ?_ (m s0) a w ⟨s0,h0,rfl,hsub c a w hs⟩;rintro n a w ⟨s,hC,rfl,hs⟩;refine wpIn_mono (round s hC cx hx a w hs) ?_;rintro e a' w' ⟨B,hq,hs'⟩;cases e <;>simp only[ar,Exit.then] at * <;>first
   |exact ⟨B,hq,hs'⟩
   |(obtain ⟨s',h1,h2,h3⟩:=hq;exact ⟨m s',h2,s',h1,rfl,h3 c a' w' hs'⟩)
 ·cases hc
end
inductive a7 where
 |tmp (t:Nat)
 |cell (a:Nat) (s:Option Nat)
def ji(P:Program):List ResultVar→Option (List a7)
 | []=>some []
 | .tmp t::l=>(ji P l).map (.tmp t :: ·)
 | .cell a t::l=>match fY P t,ji P l with
  |some s,some l=>some (.cell a s::l)
  |_,_=>none
def uA(A:ae):a7→Option I
 | .tmp t=>bl true A (A.t t)
 | .cell a s=>match cD A (A.t a) with
  |some x=>if b8 s x then bl true A x else none
  |none=>none
def fk(A:ae):List a7→Option (List I)
 | []=>some []
 |r::rs=>match uA A r,fk A rs with
  |some x,some xs=>some (x::xs)
  |_,_=>none
def ln:List I→I
 | [x]=>x
 |xs=>.tuple xs
def pq(args:List I):ae:=⟨fun t=>args.getD t .undef,fun _=>none⟩
def jS(rs:List a7)(r:I):Exit→ae→Prop
 | .ret,A=>∃ xs,fk A rs=some xs∧ln xs=r
 | .normal,A=>∃ xs,fk A rs=some xs∧ln xs=r
 |_,_=>False
def qE(args:List I)(os:List (Nat×ah)):ae:=⟨fun t=>args.getD t .undef,aj os⟩
theorem am5{P:Program}{n:Nat}{w:World}{D:aR}{E:aZ}{Y:Value→List I→List (Nat×ah)→cO→Prop}{args:List I}{os:List (Nat×ah)}{vs:List Value}(hD:∀ b o,D b o→b<w.heap.size)(ho:lE (fun _=>True) w D E (aj os))
  (hv:aH w D E args vs) (hn:vs.length≤n) (hos:∀ m,al os m=true→n≤m∧1000000≤m) (hy:pC ⟨P,w,D,n,dD E,E,Y,none⟩) :
  aX ⟨P,w,D,n,dD E,E,Y,none⟩ (qE args os) { tmps:=vs.toArray++Array.replicate (n-vs.toArray.size) undef,defers:=[] } w D E:=by
 refine ⟨by simp;omega,⟨[],rfl,.nil,fun _ h=>by simp at h⟩,fun t =>?_,fU.refl _ _,fun _ _ h _=>h,hD,fun m =>?_,ho.cZ,fun m e h=>.inr ⟨e,h,.refl e⟩,fun m hm =>?_,fun _ _ h=>h,hy,.refl _ _⟩
 ·have key:∀ (args:List I) (vs:List Value) (t:Nat),aH w D E args vs→aY w D E (args.getD t .undef) (vs.getD t undef):=by
   intro args
   induction args with
   |nil=>intro vs t h;simp only[aH] at h;subst h;simp[aY]
   |cons x xs ih =>
    intro vs t h;simp only[aH] at h;obtain ⟨v,rest,cs,rfl,h1,h2,h3⟩:=h;cases t with
    |zero=>simpa using m9 h1 h2
    |succ t=>simpa using ih rest t h3
  have:=key args vs t hv;have e:(vs.toArray++Array.replicate (n-vs.toArray.size) undef).getD t undef=vs.getD t undef:=by
   simp only[Array.getD_eq_getD_getElem?,zz0];rcases Nat.lt_or_ge t vs.length with h | h
   ·rw[Array.getElem?_append_left (by simpa using h)];simp
   ·rw[Array.getElem?_append_right (by simpa using h),List.getElem?_eq_none h];simp only[Array.getElem?_replicate];split <;>rfl
  simp only[qE];rw[e];exact this
 ·have h:=ho.bS m;simp only[qE];cases hx:aj os m with
  |none=>rw[hx] at h;exact h
  |some x =>
   rw[hx] at h;cases x with
   |box x =>
    obtain ⟨b,cs,T,k1,_,k3⟩:=h;exact ⟨b,cs,T,k1,.inr ⟨m,_,k1,rfl⟩,k3⟩
   |bY T sz es =>
    obtain ⟨aF,k1,k2,k3⟩:=h;refine ⟨aF,k1,k2,?_⟩;cases aF with
    |none=>exact k3
    |some bc =>
     obtain ⟨b,cap⟩:=bc;obtain ⟨cs,pre,rest,_,k4⟩:=k3;exact ⟨cs,pre,rest,.inr ⟨m,_,k1,rfl⟩,k4⟩
   |cT T xs =>
    obtain ⟨aF,k1,k2,k3⟩:=h;refine ⟨aF,k1,k2,?_⟩;cases aF with
    |none=>exact k3
    |some bc =>
     obtain ⟨b,cap⟩:=bc;obtain ⟨cs,rest,_,k4⟩:=k3;exact ⟨cs,rest,.inr ⟨m,_,k1,rfl⟩,k4⟩
   |dU x =>
    obtain ⟨b,k1,_,k3⟩:=h;exact ⟨b,k1,.inr ⟨m,_,k1,rfl⟩,k3⟩
   |cB ks vs =>
    obtain ⟨b,es,ck,k1,_,k3⟩:=h;exact ⟨b,es,ck,k1,.inr ⟨m,_,k1,rfl⟩,k3⟩
   |it ks vs left cur =>
    obtain ⟨r,b,es,ck,si,se,la,k1,_,k3⟩:=h;exact ⟨r,b,es,ck,si,se,la,k1,.inr ⟨m,_,k1,rfl⟩,k3⟩
 ·have h:=ho.bS m;refine hos m ?_;cases hx:aj os m with
  |none=>rw[hx] at h;exact absurd h hm
  |some x=>simp[al,hx]
def r3(tmps:Array Value):ResultVar→Sem Value
 | .tmp t=>pure (tmps.getD t undef)
 | .cell a t=>do loadVar t (←asAddr (tmps.getD a undef))
theorem amj(fn:Func)(tmps:Array Value):results fn tmps=(do
  let vs ←fn.results.mapM (r3 tmps)
  pure (if h:vs.size=1 then vs[0] else .tuple vs)):=by
 unfold results;rfl
def uq(A:ae):a7→Option I
 | .tmp t=>some (A.t t)
 | .cell a s=>match cD A (A.t a) with
  |some x=>if b8 s x then some x else none
  |none=>none
def nk(A A0:ae)(os:List (Nat×ah)):List a7→List I→Prop
 | [],[]=>True
 |r::rs,y::ys=>(∃ x,uq A r=some x∧((y=x∧x.cm=true∧x.only (al os)=true)∨bl true A0 x=some y))∧nk A A0 os rs ys
 |_,_=>False
def ae.lv(A:ae)(os:List (Nat×ah)):ae:=⟨A.t,fun n=>if al os n then none else A.o n⟩
def lG(rs:List a7)(post:cO)(A:ae):Prop :=
 ∃ (os:List (Nat×ah)) (xs:List I),(∀ n x,aj os n=some x→A.o n=some x∧x.only (al os)=true∧x.eX=true)∧nk A (A.lv os) os rs xs∧post (ln xs) os
def og(rs:List a7)(post:cO):Exit→ae→Prop
 | .ret,A=>lG rs post A
 | .normal,A=>lG rs post A
 |_,_=>False
theorem ze{c:cU}{A:ae}{a:Act}{w:World}{D:aR}{E:aZ}(hs:aX c A a w D E){A0:ae}(hu:eC A0 A){os:List (Nat×ah)}{D':aR}{E':aZ}(hw:iM true A0 D E D')(aw:∀ n,al os n=true→E' n=E n)(hE':∀ n,al os n=false→E' n=none) :
  ∀ (rs:List ResultVar) (ls:List a7) (xs:List I),ji c.P rs=some ls→nk A A0 os ls xs→∃ vs:List Value,(rs.mapM (r3 a.tmps)).run c.P w=.ok vs w∧aH w D' E' xs vs
 | [],ls,xs,hc,hr=>by
  simp only[ji,u8] at hc;subst hc;cases xs with
  |nil=>exact ⟨[],by simp,by simp[aH]⟩
  |cons x xs=>simp[nk] at hr
 |r::rs,ls,xs,hc,hr=>by
  have hl:dX w D E' w D' E':=⟨hw.df,fun _ _ _ _ h=>h,fun _ _ _ h=>h,fun _ aF l h=>⟨aF,l,h,zz7 _,fun _=>rfl⟩,fun _ _ h=>h,fun _ _ h=>h,fun _ _ _ _ h=>h⟩
  have fin1:∀ {x y:I} {v:Value},aY w D E x v→((y=x∧x.cm=true∧x.only (al os)=true)∨bl true A0 x=some y)→∃ cs,bL y v cs∧af w D' E' y cs:=by
   intro x y v hv hf;rcases hf with ⟨rfl,h1,h2⟩ | hf
   ·have h3:=aY.bN hl (aY.dJ aw h2 hv);cases y <;>simp only[aY] at h3 <;>first | (simp[I.cm] at h1;done) | exact h3
   ·have h1:aH w D E [x] [v]:=nq [x] [v] (.cons hv .nil) (by
     intro z hz;simp only[List.mem_singleton] at hz;subst hz;cases z <;>simp_all[bl,I.cm])
    have h2:=mX (E':=E') hs hu hw [x] [y] [v] h1 (by simp[ca,hf]);simp only[aH] at h2;obtain ⟨v',rest,cs,e,k1,k2,_⟩:=h2;simp only[List.cons.injEq] at e;obtain ⟨rfl,_⟩:=e;exact ⟨cs,k1,k2⟩
  cases r with
  |tmp t =>
   simp only[ji,zz1] at hc;obtain ⟨ls',hl',rfl⟩:=hc;cases xs with
   |nil=>simp[nk] at hr
   |cons y ys =>
    simp only[nk] at hr;obtain ⟨⟨x,h1,h2⟩,h3⟩:=hr;simp only[uq,u8] at h1;subst h1;obtain ⟨vs,k1,k2⟩:=ze hs hu hw aw hE' rs ls' ys hl' h3;obtain ⟨cs,k3,k4⟩:=fin1 (hs.eA t) h2;refine ⟨a.tmps.getD t undef::vs,?_,?_⟩
    ·simp only[List.mapM_cons,Sem.run_bind,r3,Sem.run_pure,Result.andThen_ok,k1]
    ·simp only[aH];exact ⟨_,vs,cs,rfl,k3,k4,k2⟩
  |cell ad t =>
   simp only[ji] at hc;split at hc
   ·rename_i s ls' hk hl';simp only[u8] at hc;subst hc;cases xs with
    |nil=>simp[nk] at hr
    |cons y ys =>
     simp only[nk] at hr;obtain ⟨⟨x,h1,h2⟩,h3⟩:=hr;obtain ⟨vs,k1,k2⟩:=ze hs hu hw aw hE' rs ls' ys hl' h3;simp only[uq] at h1;split at h1
     ·rename_i z hz;split at h1
      ·rename_i hok;simp only[u8] at h1;subst h1;obtain ⟨b,off,cs,q1,q2,q3⟩:=hs.AX (hs.eA ad) hz;obtain ⟨v,q4,q5⟩:=O6 hk hok q2 q3;obtain ⟨cs',k3,k4⟩:=fin1 q5 h2;refine ⟨v::vs,?_,?_⟩
       ·have e:(r3 a.tmps (.cell ad t)).run c.P w=.ok v w:=by
         simp only[r3,Sem.run_bind,q1,asAddr,Sem.run_pure,Result.andThen_ok,q4]
        simp only[List.mapM_cons,Sem.run_bind,Sem.run_pure,Result.andThen_ok,k1,e]
       ·simp only[aH];exact ⟨_,vs,cs',rfl,k3,k4,k2⟩
      ·cases h1
     ·cases h1
   ·cases hc
theorem aX.Wt{c:cU}{A:ae}{a:Act}{w:World}{D:aR}{E:aZ}(h:aX c A a w D E){B:Nat}{ds:List Deferred}(hd:a.defers = { target:=.collected B,args := #[] } :: ds) :
  w.heap[B]?=some (.deferred (some []))∧aX c A { a with defers:=ds } (w.putObj B (.deferred none)) D E:=by
 obtain ⟨Bs,h1,h2,h3⟩:=h.e8;rw[hd] at h1;cases Bs with
 |nil=>cases h1
 |cons B' Bs =>
  simp only[zz8,List.cons.injEq,Deferred.mk.injEq,Target.collected.injEq,and_true] at h1;obtain ⟨rfl,rfl⟩:=h1;have hB:=h3 B (by simp);have hlt:B<w.heap.size:=(zw2.1 hB.2).1;have hl:dX w D E (w.putObj B (.deferred none)) D E :=
   ⟨fun _ _ h=>h,fun b o v _ hv=>vL hB.2 rfl hv,fun _ _ _ h=>h,fun _ aF l h=>⟨aF,l,h,zz7 _,fun _=>rfl⟩,fun _ _ h=>h,fun _ _ h=>h,fun b es ck _ hm=>(World.putObj_heap_other (fun e=>by rw[e,hB.2] at hm;cases hm)).trans hm⟩
  have hne:∀ {b:Nat} {cs:Array Value} {T:TypeId},w.heap[b]?=some (.cells cs T (0,0))→(w.putObj B (.deferred none)).heap[b]?=w.heap[b]?:=fun {b cs T} hb =>
   World.putObj_heap_other (fun e=>by rw[e,hB.2] at hb;cases hb)
  refine ⟨hB.2,h.sz,⟨Bs,rfl,(List.nodup_cons.1 h2).2,fun B2 hB2=>⟨(h3 B2 (by simp[hB2])).1,?_⟩⟩,fun t=>aY.bN hl (h.eA t),h.eb.trans ⟨rfl,rfl,rfl,by simp,fun k hk =>?_⟩,h.df,fun b o hd=>by have:=h.dv b o hd;simpa using this,fun n =>?_,h.cZ,h.ed,h.fj,h.cM,h.fp,h.lA hl⟩
  ·rw[World.putObj_heap_other (fun e=>(List.nodup_cons.1 h2).1 (by rw[←e];exact hB2))];exact (h3 B2 (by simp[hB2])).2
  ·exact World.putObj_heap_other (fun e=>hk (e▸.inl hB.1))
  ·refine (h.bS n).bN hl rfl fun e b he hb=>⟨?_,fun _ h=>h⟩
   have hob:=h.bS n;unfold dc at hob;split at hob
   ·rw[hob] at he;cases he
   ·obtain ⟨b',cs,T,k1,_,k3,_⟩:=hob;rw[k1,u8] at he;subst he;simp only[bW.aF,u8] at hb;subst hb;exact hne k3
   ·obtain ⟨aF,k1,_,k3⟩:=hob;rw[k1,u8] at he;subst he;split at k3
    ·simp[bW.aF] at hb
    ·obtain ⟨cs,pre,rest,_,k5,_⟩:=k3;simp only[bW.aF,u8] at hb;subst hb;exact hne k5
   ·obtain ⟨b',k1,_,k3,k4,_⟩:=hob;rw[k1,u8] at he;subst he;simp only[bW.aF,u8] at hb;subst hb;exact World.putObj_heap_other (fun e=>by rw[e,hB.2] at k3;cases k3;cases k4)
   ·obtain ⟨b',es,ck,k1,_,k3,_⟩:=hob;rw[k1,u8] at he;subst he;cases hb;exact World.putObj_heap_other (fun e=>by rw[e,hB.2] at k3;cases k3)
   ·obtain ⟨r,b',es,ck,si,se,la,k1,_,k3,_⟩:=hob;rw[k1,u8] at he;subst he;cases hb;exact World.putObj_heap_other (fun e=>by rw[e,hB.2] at k3;cases k3)
   ·obtain ⟨aF,k1,_,k3⟩:=hob;rw[k1,u8] at he;subst he;split at k3
    ·simp[bW.aF] at hb
    ·obtain ⟨cs,m,_,k5,_⟩:=k3;simp only[bW.aF,u8] at hb;subst hb;exact hne k5
def vg(w:World)(D:aR)(E:aZ)(post:cO)(v:Value)(w':World):Prop :=
 ∃ D' E' r os',post r os'∧aY w' D' E' r v∧lE (fun b=>w.heap.size≤b∨dD E b) w' D' E' (aj os') ∧
  fU (fun b=>w.heap.size≤b∨dD E b) w w'∧(∀ b o,D b o→D' b o)∧(∀ b o,D' b o→b<w'.heap.size)∧(∀ b o,D' b o→b<w.heap.size→¬ dD E b→D b o) ∧
  (∀ n e,E n=some e→al os' n=true→∃ e',E' n=some e'∧e.le e')∧iL w D w'
theorem aX.Lg{P:Program}{n:Nat}{w:World}{D:aR}{E:aZ}{Y:Value→List I→List (Nat×ah)→cO→Prop}{kH:Option Nat}{A:ae}{a:Act}{w':World}{D':aR}{E':aZ}
  (hs:aX ⟨P,w,D,n,dD E,E,Y,kH⟩ A a w' D' E') {os:List (Nat×ah)} (h1:∀ n x,aj os n=some x→A.o n=some x∧x.only (al os)=true∧x.eX=true) :
  ∃ D2 E2,iM true (A.lv os) D' E' D2∧(∀ n,al os n=true→E2 n=E' n)∧(∀ n,al os n=false→E2 n=none)∧lE (fun b=>w.heap.size≤b∨dD E b) w' D2 E2 (aj os) ∧
   fU (fun b=>w.heap.size≤b∨dD E b) w w'∧(∀ b o,D b o→D2 b o)∧(∀ b o,D2 b o→b<w'.heap.size)∧(∀ b o,D2 b o→b<w.heap.size→¬ dD E b→D b o) ∧
   (∀ n e,E n=some e→al os n=true→∃ e',E2 n=some e'∧e.le e')∧iL w D w':=by
 obtain ⟨c,hc⟩:∃ c:cU,c=⟨P,w,D,n,dD E,E,Y,kH⟩:=⟨_,rfl⟩
 rw[←hc] at hs;have hM:c.fq=fun b=>w.heap.size≤b∨dD E b:=by rw[hc];rfl
 obtain ⟨E2,hE2⟩:∃ E2:aZ,E2=fun n=>if al os n then E' n else none:=⟨_,rfl⟩
 obtain ⟨D2,hD2⟩:∃ D2:aR,D2=fun b o=>b<w'.heap.size∧(D' b o∨(¬ dD E2 b∧c.fq b)):=⟨_,rfl⟩
 have e2:∀ n,al os n=true→E2 n=E' n:=fun n hn=>by rw[hE2];simp only[hn,if_true]
 have cut:∀ n e,E2 n=some e→al os n=true∧E' n=some e:=fun n e he=>by
  rw[hE2] at he;simp only at he;split at he
  ·exact ⟨by assumption,he⟩
  ·cases he
 have up2:∀ b o,D' b o→D2 b o:=fun b o hd=>by
  rw[hD2];exact ⟨hs.dv b o hd,.inl hd⟩
 have down:∀ b o,D2 b o→dD E2 b→D' b o:=fun b o hd hb=>by
  rw[hD2] at hd;rcases hd.2 with h | h
  ·exact h
  ·exact absurd hb h.1
 have hu:eC (A.lv os) A:=fun n x hx=>by
  simp only[ae.lv] at hx;split at hx
  ·cases hx
  ·exact hx
 have notOwn:∀ n e b,(A.lv os).o n≠none→E' n=some e→e.aF=some b→¬ dD E2 b:=fun n e b hn he hb ho=>by
  obtain ⟨m,e',k1,k3⟩:=ho;obtain ⟨k1,k2⟩:=cut m e' k1;have:=hs.cZ n m e _ b he k2 hb k3;subst this;simp[ae.lv,k1] at hn
 have hw:iM true (A.lv os) D' E' D2:=by
  refine ⟨up2,fun n T sz es b cap hn aw o _ =>?_,fun _ n x b aQ hn aw o _ =>?_,fun _ n ks vs b hn aw =>?_⟩
  ·rw[hD2];refine ⟨hs.gh aw rfl,.inr ⟨notOwn n _ b (by rw[hn];simp) aw rfl,?_⟩⟩;obtain ⟨aF,k1,k2,k3⟩:=hs.bY (hu n _ hn);rw[aw] at k1;simp only[u8,bW.rw.injEq,and_true] at k1;subst k1;obtain ⟨_,_,_,k4,_⟩:=k3;exact k4
  ·rw[hD2];refine ⟨hs.gh aw rfl,.inr ⟨notOwn n _ b (by rw[hn];simp) aw rfl,?_⟩⟩;obtain ⟨b',cs,T,k1,k2,_⟩:=hs.box (hu n _ hn);rw[k1] at aw;simp only[u8,bW.aA.injEq] at aw;obtain ⟨rfl,_⟩:=aw;exact k2
  ·rw[hD2];refine ⟨hs.gh aw rfl,.inr ⟨notOwn n _ b (by rw[hn];simp) aw rfl,?_⟩⟩;obtain ⟨b',es,ck,k1,k2,_⟩:=hs.map (hu n _ hn);rw[k1] at aw;cases aw;exact k2
 have hst:iL w D w':=by
  have:=hs.fQ;rw[hc] at this;exact this
 refine ⟨D2,E2,hw,e2,fun n hn=>by rw[hE2];simp[hn],⟨fun m =>?_,fun m m' e e' b g1 g2 g3 g4 =>?_⟩,?_,fun b o hd=>up2 b o (hs.cM b o (by rw[hc];exact hd)),fun b o hd=>by rw[hD2] at hd;exact hd.1,fun b o hd hlt hno =>?_,fun m e hm hin =>?_,hst⟩
 ·cases hx:aj os m with
  |none=>simp only[dc];rw[hE2];simp[al,hx]
  |some x =>
   have hm:al os m=true:=by simp[al,hx]
   obtain ⟨k1,k2,k3⟩:=h1 m x hx;have ho:=hs.bS m;rw[k1] at ho;have hl2:dX w' D' E2 w' D2 E2:=⟨up2,fun _ _ _ _ h=>h,fun _ _ _ h=>h,fun _ aF l h=>⟨aF,l,h,zz7 _,fun _=>rfl⟩,fun _ _ h=>h,fun _ _ h=>h,fun _ _ _ _ h=>h⟩
   have nD:∀ e b,E' m=some e→e.aF=some b→∀ o,D2 b o→D' b o:=fun e b he hb o hd=>down b o hd ⟨m,e,(e2 m hm).trans he,hb⟩;cases x with
   |bY T sz es =>
    obtain ⟨aF,q1,q2,q3⟩:=ho;refine ⟨aF,(e2 m hm).trans q1,q2,?_⟩;cases aF with
    |none=>exact q3
    |some bc =>
     obtain ⟨b,cap⟩:=bc;obtain ⟨cs,pre,rest,g1,g2,g3,g4,g5,g6,g7,g8⟩:=q3;exact ⟨cs,pre,rest,by rw[←hM];exact g1,g2,g3,aI.bN hl2 _ _ (aI.dJ e2 _ _ (by simpa[ah.only] using k2) g4),g5,g6,g7,fun o hd=>g8 o (nD _ b q1 rfl o hd)⟩
   |box y =>
    obtain ⟨b',cs,T,q1,q2,q3,q4,q5⟩:=ho;exact ⟨b',cs,T,(e2 m hm).trans q1,by rw[←hM];exact q2,q3,af.bN hl2 _ _ (af.dJ e2 _ _ (by simpa[ah.only] using k2) q4),fun o hd=>q5 o (nD _ b' q1 rfl o hd)⟩
   |dU o =>
    obtain ⟨b',q1,q2,q3,q4,q5⟩:=ho;exact ⟨b',(e2 m hm).trans q1,by rw[←hM];exact q2,q3,q4,fun o hd=>q5 o (nD _ b' q1 rfl o hd)⟩
   |cB ks vs =>
    obtain ⟨b',es,ck,q1,q2,q3,q4,q5,q6,q7⟩:=ho;simp only[ah.only,zz2] at k2;exact ⟨b',es,ck,(e2 m hm).trans q1,by rw[←hM];exact q2,q3,q4,aH.bN hl2 _ _ (aH.dJ e2 _ _ k2.1 q5),aH.bN hl2 _ _ (aH.dJ e2 _ _ k2.2 q6),fun o hd=>q7 o (nD _ b' q1 rfl o hd)⟩
   |it ks vs left cur=>cases k3
   |cT T xs =>
    obtain ⟨aF,q1,q2,q3⟩:=ho;refine ⟨aF,(e2 m hm).trans q1,q2,?_⟩;cases aF with
    |none=>exact q3
    |some bc =>
     obtain ⟨b,cap⟩:=bc;obtain ⟨cs,r,g1,g2,g3,g4,g5,g6,g7⟩:=q3;exact ⟨cs,r,by rw[←hM];exact g1,g2,g3,g4,g5,g6,fun o hd=>g7 o (nD _ b q1 rfl o hd)⟩
 ·exact hs.cZ m m' e e' b (cut m e g1).2 (cut m' e' g2).2 g3 g4
 ·rw[←hM];have:=hs.eb;rw[hc] at this ⊢;exact this
 ·rw[hD2] at hd;have hnm:¬ c.fq b:=by
    rw[hM];rintro (h | h);· omega
    ·exact hno h
  rcases hd.2 with h | h
  ·have:=hs.df b o h hnm;rw[hc] at this;exact this
  ·exact absurd h.2 hnm
 ·rw[e2 m hin];have ho:A.o m≠none:=by
   cases hx:aj os m with
   |none=>simp[al,hx] at hin
   |some x=>rw[(h1 m x hx).1];simp
  rcases hs.ed m e (by rw[hc];exact hm) with h | h
  ·have hob:=hs.bS m;cases hx:A.o m with
   |none=>exact absurd hx ho
   |some x=>rw[hx] at hob;exact absurd h (tX hob)
  ·exact h
theorem aX.ajE{P:Program}{n:Nat}{w:World}{D:aR}{E:aZ}{Y:Value→List I→List (Nat×ah)→cO→Prop}{rs:List a7}{post:cO}{fn:Func}{A:ae}{a:Act}{w':World}{D':aR}{E':aZ}
  (hs:aX ⟨P,w,D,n,dD E,E,Y,none⟩ A a w' D' E') (hrs:ji P fn.results.toList=some rs) (h:lG rs post A):∃ v,(results fn a.tmps).run P w'=.ok v w'∧vg w D E post v w':=by
 obtain ⟨os,xs,h1,h2,h3⟩:=h;obtain ⟨D2,E2,hw,e2,e2n,q1,q2,q3,q4,q5,q6⟩:=hs.Lg h1;have hu:eC (A.lv os) A:=fun n x hx=>by
  simp only[ae.lv] at hx;split at hx
  ·cases hx
  ·exact hx
 obtain ⟨vs,k1,k2⟩:=ze hs hu (os:=os) (E':=E2) hw e2 e2n fn.results.toList rs xs hrs h2;have hres:(results fn a.tmps).run P w'=.ok (if h:vs.toArray.size=1 then vs.toArray[0] else .tuple vs.toArray) w':=by
  rw[amj,Sem.run_bind,Array.mapM_eq_mapM_toList,Sem.run_map,k1];rfl
 refine ⟨_,hres,D2,E2,ln xs,os,h3,?_,q1,q2,q3,q4,q5,q6⟩
 match xs,vs,k2 with
 | [x],vs,k2 =>
  simp only[aH] at k2;obtain ⟨v,rest,cs,rfl,q1,q2,rfl⟩:=k2;simpa[ln] using m9 q1 q2
 | [],vs,k2 =>
  simp only[aH] at k2;subst k2;simp[ln,aY,aH]
 |x::y::xs,vs,k2 =>
  have hl:vs.length≠1:=by
   simp only[aH] at k2;obtain ⟨v,rest,cs,rfl,_,_,v2,rest2,cs2,rfl,_⟩:=k2;simp
  simp only[ln,aY];exact ⟨vs,by simp[hl],k2⟩
theorem Lh{P:Program}{n:Nat}{w:World}{D:aR}{E:aZ}{Y:Value→List I→List (Nat×ah)→cO→Prop}{rs:List a7}{post:cO}{fn:Func}{A:ae}{D':aR}{E':aZ}(hrs:ji P fn.results.toList=some rs)(h:lG rs post A) :
  ∀ (ds:List Deferred) (a:Act) (w':World),a.defers=ds→aX ⟨P,w,D,n,dD E,E,Y,none⟩ A a w' D' E'→LeavesInM Fence.wide 9 P fn a.tmps (fun e w'=>∃ v,e=.returned v∧vg w D E post v w') ds .returning w'
 | [],a,w',_,hs=>by
  obtain ⟨v,h1,h2⟩:=hs.ajE hrs h;exact ⟨v,h1,v,rfl,h2⟩
 |d::ds,a,w',hd,hs=>by
  obtain ⟨Bs,h1,_⟩:=hs.e8;rw[hd] at h1;cases Bs with
  |nil=>cases h1
  |cons B Bs =>
   simp only[zz8,List.cons.injEq] at h1;obtain ⟨rfl,rfl⟩:=h1;obtain ⟨k1,k2⟩:=hs.Wt hd;exact ⟨by simp,.inl ⟨B,_,rfl,run_takeDeferred k1,Lh hrs h _ { a with defers:=Bs.map _ } _ rfl k2⟩⟩
theorem zq{w:World}{D:aR}{E:aZ} : ∀ {args:List I} {vs:List Value},aH w D E args vs→vs.length=args.length
 | [],vs,h=>by simp only[aH] at h;subst h;rfl
 |x::xs,vs,h=>by
  simp only[aH] at h;obtain ⟨v,rest,cs,rfl,_,_,h3⟩:=h;simp[zq h3]
def kN(P:Program)(f:FuncId)(Y:Value→List I→List (Nat×ah)→cO→Prop)(args:List I)(os:List (Nat×ah))(post:cO):Prop :=
 ij P f=true∧∀ (w:World) (D:aR) (E:aZ) (vs:List Value),(∀ n,pC ⟨P,w,D,n,dD E,E,Y,none⟩)→(∀ b o,D b o→b<w.heap.size)→lE (fun _=>True) w D E (aj os)→aH w D E args vs →
  Calls P f vs.toArray w fun e w'=>∃ v,e=.returned v∧vg w D E post v w'
theorem kN.tY{P:Program}{f:FuncId}{fn:Func}{body:Code}{x:aO}{rs:List a7}{Y:Value→List I→List (Nat×ah)→cO→Prop}{args:List I}{os:List (Nat×ah)}{post:cO}(hf:P.funcs[f]?=some fn)(hb:fn.body=some body)(hcall:ij P f=true)(hc:fr P fn.ntmps body=some x)
  (hrs:ji P fn.results.toList=some rs) (hn:args.length≤fn.ntmps) (hos:∀ m,al os m=true→fn.ntmps≤m∧1000000≤m) (h:∀ (w:World) (D:aR) (E:aZ),J ⟨P,w,D,fn.ntmps,dD E,E,Y,none⟩ x (og rs post) (qE args os)):kN P f Y args os post:=by
 refine ⟨hcall,fun w D E vs hy hD ho hv =>?_⟩;have hlen:=zq hv;have hsim:=am5 (P:=P) (n:=fn.ntmps) (Y:=Y) hD ho hv (by omega) hos (hy fn.ntmps);refine (callsIn_wide (n:=9)).1 (callsIn_of_wp_marks hf hb trivial ?_);refine wpIn_mono (h w D E body hc _ w ⟨D,E,hsim⟩) ?_;rintro e a w' ⟨A,hq,D',E',hs⟩;cases e <;>simp only[og] at hq <;>first
  |exact Lh hrs hq a.defers a w' rfl hs
  |cases hq
theorem anA{P:Program}{w:World}{D:aR}{E:aZ}{n:Nat} : pC ⟨P,w,D,n,dD E,E,iV,none⟩:=fun _ _ _ _ h=>h.elim
theorem cC.LU{P:Program}{f:FuncId}{args:List I}{os:List (Nat×ah)}{post:cO}(h:kN P f iV args os post):cC P f args os post :=
 ⟨h.1,fun w D E vs _ hD ho hv=>(h.2 w D E vs (fun _=>anA) hD ho hv).mono fun e w' ⟨v,he,D',E',r,os',k⟩=>⟨v,D',E',r,os',he,k⟩⟩
theorem ay.ak7{P:Program}{f:FuncId}{args:List I}{r:I}(h:cC P f args [] (fun r' os'=>r'=r∧os'=[])):ay P f args r:=by
 refine ⟨h.1,fun w D vs hD hv =>?_⟩;have hh:lE (fun _=>True) w D dS (aj []):=⟨fun n=>rfl,fun n m e e' b h=>by simp[dS] at h⟩
 refine (h.2 w D dS vs trivial hD hh hv).mono fun e w' hq =>?_;obtain ⟨v,D',E',r',os',he,⟨h1,h2⟩,k1,k2,k3,k4,k5,k6,_⟩:=hq;subst h1 h2;refine ⟨v,D',he,?_,?_,k5,fun b o hd hlt=>k6 b o hd hlt fun ⟨n,e,h,_⟩=>by simp[dS] at h⟩
 ·have:E'=dS:=by funext n;exact k2.bS n
  rw[←this];exact k1
 ·exact k3.R5 fun k hk hm=>by
   rcases hm with hm | ⟨n,e,h,_⟩
   ·omega
   ·simp[dS] at h
theorem amx(A:ae):A.lv []=A:=rfl
theorem OV{A:ae} : ∀ {rs:List a7} {xs:List I},fk A rs=some xs→nk A (A.lv []) [] rs xs
 | [],xs,h=>by simp only[fk,u8] at h;subst h;trivial
 |r::rs,xs,h=>by
  simp only[fk] at h;split at h
  ·rename_i x xs' h1 h2;simp only[u8] at h;subst h;refine ⟨?_,OV h2⟩;rw[amx];cases r with
   |tmp t=>exact ⟨_,rfl,.inr h1⟩
   |cell a s =>
    simp only[uA,uq] at h1 ⊢;split at h1
    ·rename_i y hy;split at h1
     ·rename_i hok;exact ⟨y,by simp[hok],.inr h1⟩
     ·cases h1
    ·cases h1
  ·cases h
theorem amk{rs:List a7}{r:I}{e:Exit}{A:ae}(h:jS rs r e A):og rs (fun r' os'=>r'=r∧os'=[]) e A:=by
 cases e <;>simp only[jS] at h <;>first
  |exact h.elim
  |(obtain ⟨xs,h1,h2⟩:=h
    exact ⟨[],xs,fun n x hx=>by simp[aj] at hx,OV h1,h2,rfl⟩)
theorem ay.tY{P:Program}{f:FuncId}{fn:Func}{body:Code}{x:aO}{rs:List a7}{args:List I}{r:I}(hf:P.funcs[f]?=some fn)(hb:fn.body=some body)(hcall:ij P f=true)(hc:fr P fn.ntmps body=some x)
  (hrs:ji P fn.results.toList=some rs) (hn:args.length≤fn.ntmps) (h:∀ (w:World) (D:aR) (E:aZ),J ⟨P,w,D,fn.ntmps,dD E,E,iV,none⟩ x (jS rs r) (pq args)):ay P f args r:=by
 refine ay.ak7 (cC.LU (kN.tY hf hb hcall hc hrs hn (fun m hm=>by simp[al,aj] at hm) fun w D E =>?_));exact (h w D E).mono fun e B hq=>amk hq
end Go.Abs
namespace Go.Abs
open Go Go.RowKit
def aT(ts:List (Nat×I)):List (Nat×I)→Prop
 | []=>True
 |(k,v)::r=>b7 ts k=v∧aT ts r
def bC(os:List (Nat×ah)):List (Nat×ah)→Prop
 | []=>True
 |(k,v)::r=>aj os k=some v∧bC os r
def bB(p:Nat→Bool):List (Nat×I)→Prop
 | []=>True
 |(_,v)::r=>v.only p=true∧bB p r
theorem zE{ts:List (Nat×I)} : ∀ {ts':List (Nat×I)},aT ts ts'→∀ k,b7 ts' k=.du∨b7 ts' k=b7 ts k
 | [],_,k=>.inl rfl
 |(j,v)::r,h,k=>by
  simp only[aT] at h;simp only[b7];split
  ·rename_i hk;subst hk;exact .inr h.1.symm
  ·exact zE h.2 k
theorem PF{os:List (Nat×ah)} : ∀ {os':List (Nat×ah)},bC os os'→∀ k,aj os' k=none∨aj os' k=aj os k
 | [],_,k=>.inl rfl
 |(j,v)::r,h,k=>by
  simp only[bC] at h;simp only[aj];split
  ·rename_i hk;subst hk;exact .inr h.1.symm
  ·exact PF h.2 k
theorem Mj{p:Nat→Bool} : ∀ {ts:List (Nat×I)},bB p ts→∀ k,(b7 ts k).only p=true
 | [],_,k=>by simp[b7,I.only]
 |(j,v)::r,h,k=>by
  simp only[bB] at h;simp only[b7];split
  ·exact h.1
  ·exact Mj h.2 k
theorem Mi{p:Nat→Bool} : ∀ {os:List (Nat×ah)},a6 p os→∀ k x,aj os k=some x→x.only p=true
 | [],_,k,x,hx=>by simp[aj] at hx
 |(j,v)::r,h,k,x,hx=>by
  simp only[a6] at h;simp only[aj] at hx;split at hx
  ·simp only[u8] at hx;subst hx;exact h.1
  ·exact Mi h.2 k x hx
theorem aC.bI{ts ts':List (Nat×I)}{os os':List (Nat×ah)}(h1:aT ts ts')(h2:bC os os')(h3:bB (al os') ts')(h4:a6 (al os') os'):aC (au ts os) (au ts' os'):=by
 rintro c a w ⟨D,E,hs⟩;have hp:∀ n,al os' n=true→(if al os' n then E n else none)=E n:=fun n hn=>by simp[hn]
 refine ⟨D,fun n=>if al os' n then E n else none,hs.sz,hs.e8,fun t =>?_,hs.eb,hs.df,hs.dv,fun n =>?_,fun n m e e' b h1 h2 h3 h4 =>?_,fun n e hn =>?_,hs.fj,hs.cM,hs.fp,hs.fQ⟩
 ·have:=zE h1 t;rcases this with h | h
  ·simp only[au];rw[h];simp[aY]
  ·refine aY.dJ (p:=al os') hp (Mj h3 t) ?_;have:=hs.eA t;simp only[au] at *;rw[h];exact this
 ·have ho:=hs.bS n;simp only[au] at *;rcases PF h2 n with h | h
  ·rw[h];simp[dc,al,h]
  ·rw[h];by_cases hin:aj os n=none
   ·rw[hin];simp[dc,al,h,hin]
   ·have aw:(if al os' n then E n else none)=E n:=hp n (by simp[al,h];cases hh:aj os n <;>simp_all);cases hx:aj os n with
    |none=>exact absurd hx hin
    |some x =>
     have hon:=Mi h4 n x (h.trans hx);rw[hx] at ho;cases x with
     |box x =>
      obtain ⟨b,cs,T,k1,k2,k3,k4,k5⟩:=ho;exact ⟨b,cs,T,aw.trans k1,k2,k3,af.dJ hp _ _ (by simpa[ah.only] using hon) k4,k5⟩
     |bY T sz es =>
      obtain ⟨aF,k1,k2,k3⟩:=ho;refine ⟨aF,aw.trans k1,k2,?_⟩;cases aF with
      |none=>exact k3
      |some bc =>
       obtain ⟨b,cap⟩:=bc;obtain ⟨cs,pre,rest,q1,q2,q3,q4,q5⟩:=k3;exact ⟨cs,pre,rest,q1,q2,q3,aI.dJ hp _ _ (by simpa[ah.only] using hon) q4,q5⟩
     |cT T xs =>
      obtain ⟨aF,k1,k2,k3⟩:=ho;exact ⟨aF,aw.trans k1,k2,k3⟩
     |dU x =>
      obtain ⟨b,k1,k2⟩:=ho;exact ⟨b,aw.trans k1,k2⟩
     |cB ks vs =>
      obtain ⟨b,es,ck,k1,k2,k3,k4,k5,k6,k7⟩:=ho;simp only[ah.only,zz2] at hon;exact ⟨b,es,ck,aw.trans k1,k2,k3,k4,aH.dJ hp _ _ hon.1 k5,aH.dJ hp _ _ hon.2 k6,k7⟩
     |it ks vs left cur =>
      obtain ⟨r,b,es,ck,si,se,la,k1,k2,k3,k4,k5,k6,k7⟩:=ho;simp only[ah.only,zz2] at hon;exact ⟨r,b,es,ck,si,se,la,aw.trans k1,k2,k3,k4,aH.dJ hp _ _ hon.1 k5,aH.dJ hp _ _ hon.2 k6,k7⟩
 ·refine hs.cZ n m e e' b ?_ ?_ h3 h4
  ·split at h1
   ·exact h1
   ·cases h1
  ·split at h2
   ·exact h2
   ·cases h2
 ·by_cases hi:al os' n=true
  ·simp only[hi,if_true];exact hs.ed n e hn
  ·simp only[hi];exact .inl rfl
def bg:Nat→List I→List (Nat×I)
 |_,[]=>[]
 |k,a::as=>(k,a)::bg (k+1) as
theorem Lq:∀ (as:List I) (k t:Nat),b7 (bg k as) t=if t<k then .du else (as[t-k]?).getD .du
 | [],k,t=>by simp[bg,b7]
 |a::as,k,t=>by
  simp only[bg,b7,Lq as (k+1) t];by_cases h:t=k
  ·subst h;simp
  ·rw[if_neg h];by_cases h2:t<k
   ·rw[if_pos (by omega),if_pos h2]
   ·rw[if_neg (by omega),if_neg h2,show t-k=(t-(k+1))+1 from by omega];simp
theorem PD(args:List I)(os:List (Nat×ah)):aC (qE args os) (au (bg 0 args) os):=by
 rintro c a w ⟨D,E,hs⟩;refine ⟨D,E,hs.sz,hs.e8,fun t =>?_,hs.eb,hs.df,hs.dv,hs.bS,hs.cZ,hs.ed,hs.fj,hs.cM,hs.fp,hs.fQ⟩;have:=hs.eA t;simp only[au,Lq,qE,Nat.not_lt_zero,if_false,Nat.sub_zero] at *;cases h:args[t]? with
 |none=>simp[aY]
 |some x=>simpa[zz0,h] using this
theorem am4(args:List I):aC (pq args) (au (bg 0 args) []):=PD args []
theorem tM(ts:List (Nat×I))(os:List (Nat×ah))(d:Nat)(v:I):(au ts os).put d v=au ((d,v)::ts) os:=rfl
theorem aj4(ts:List (Nat×I))(os:List (Nat×ah))(d:Nat)(v:I):(au ts os).aP (some d) v=au ((d,v)::ts) os:=rfl
theorem aj3(A:ae)(v:I):A.aP none v=A:=rfl
theorem oU(ts:List (Nat×I))(os:List (Nat×ah))(d:Nat)(x:ah):(au ts os).aS d x=au ts ((d,x)::os):=rfl
theorem aj5(ts:List (Nat×I))(os:List (Nat×ah))(k:Nat):(au ts os).t k=b7 ts k:=rfl
theorem aj2(ts:List (Nat×I))(os:List (Nat×ah))(k:Nat):(au ts os).o k=aj os k:=rfl
theorem aV(j:Nat)(v:I)(r:List (Nat×I))(k:Nat):b7 ((j,v)::r) k=if k=j then v else b7 r k:=rfl
theorem cg(j:Nat)(v:ah)(r:List (Nat×ah))(k:Nat):aj ((j,v)::r) k=if k=j then some v else aj r k:=rfl
theorem tG(k:Nat):aj [] k=none:=rfl
theorem aaf(A:ae)(k:Nat):ab A (.t k)=A.t k:=rfl
theorem aae(A:ae)(x:I):ab A (.c x)=x:=rfl
noncomputable def di(d:Option Nat)(rest:List aB)(A:ae)(v:I):cK:=aE rest (A.aP d v)
theorem ajq(d:Option Nat)(rest:List aB)(A:ae)(v:I):di d rest A v=aE rest (A.aP d v):=rfl
theorem Sq(v:I)(k:I→cK):cP (some v) k=k v:=rfl
theorem RN(A:ae):aE [] A=.done A:=rfl
noncomputable def bQ(A:ae)(d:Option Nat)(op:cn)(rest:List aB):cK:=bj A d op rest (aE rest)
noncomputable def il(x:I)(b:Bool)(d:Option Nat)(op:cn)(rest:List aB)(A:ae):cK :=
 match x with
 | .bool b'=>if b'=b then bQ A d op rest else aE rest (A.aP d .undef)
 | .undef=>aE rest (A.aP d .undef)
 |_=>.fail
theorem bt.guard{P:Program}{Y:Value→List I→List (Nat×ah)→cO→Prop}{dr:Bool}{K:ae→Prop}{x b:Bool}{d:Option Nat}{op:cn}{rest:List aB}{A:ae}(h1:x=b→bt P Y dr K (bQ A d op rest))(h2:x = !b→bt P Y dr K (aE rest (A.aP d .undef))):bt P Y dr K (il (.bool x) b d op rest A):=by
 unfold il;by_cases h:x=b
 ·simp only[if_pos h];exact h1 h
 ·simp only[if_neg h];exact h2 (by cases x <;>cases b <;>simp_all)
def I.dH:I→Option (List I)
 | .agg fs=>some fs
 |_=>none
def pH(p:List Nat):Option I→Option I
 |some f=>f.at p
 |none=>none
def gu(i:Nat)(p:List Nat):Option (List I)→Option I
 |some fs=>pH p fs[i]?
 |none=>none
theorem iO(c:I):c.at []=some c:=by cases c <;>rfl
theorem R3(c:I)(i:Nat)(p:List Nat):c.at (i::p)=gu i p c.dH:=by
 cases c <;>first | rfl | (rename_i fs;simp only[I.at,gu,I.dH,pH])
def uH(fs:List I)(i:Nat)(p:List Nat)(v:I):Option I→I
 |some f=>.agg (fs.set i (f.dO p v))
 |none=>.agg fs
def r5(c:I)(i:Nat)(p:List Nat)(v:I):Option (List I)→I
 |some fs=>uH fs i p v fs[i]?
 |none=>c
theorem fI(c v:I):c.dO [] v=v:=by cases c <;>rfl
theorem Pf(c:I)(i:Nat)(p:List Nat)(v:I):c.dO (i::p) v=r5 c i p v c.dH:=by
 cases c <;>first | rfl | (rename_i fs;simp only[I.dO,r5,I.dH];cases fs[i]? <;>rfl)
def ff(p:List Nat):Option ah→Option I
 |some (.box c)=>c.at p
 |_=>none
def gR(A:ae):I→Option I
 | .ref x=>some x
 | .ptr n p=>ff p (A.o n)
 |_=>none
theorem lS(A:ae)(x:I):cD A x=gR A x:=by
 cases x <;>first | rfl | (rename_i n p;simp only[cD,gR];cases A.o n with | none=>rfl | some y=>cases y <;>rfl)
def dQ(s:Option Nat)(x:I):Option I:=if b8 s x=true then some x else none
def hE(s:Option Nat):Option I→Option I
 |some x=>dQ s x
 |none=>none
open Classical in
noncomputable def ef(fs:List I)(f off:Nat)(y:I):Option I:=if f<fs.length∧I.sizes (fs.take f)=off then some y else none
noncomputable def ri(n:Nat)(p:List Nat)(f off:Nat):Option (List I)→Option I
 |some fs=>ef fs f off (.ptr n (p++[f]))
 |none=>none
noncomputable def pS(fs:List I)(f off:Nat):Option I→Option I
 |some v=>ef fs f off (.ref v)
 |none=>none
noncomputable def rj(f off:Nat):Option (List I)→Option I
 |some fs=>pS fs f off fs[f]?
 |none=>none
def fE:Option I→Option (List I)
 |some x=>x.dH
 |none=>none
noncomputable def lX(A:ae)(f off:Nat):I→Option I
 | .ref c=>rj f off c.dH
 | .ptr n p=>ri n p f off (fE (ff p (A.o n)))
 |_=>none
theorem alS(A:ae)(f off:Nat)(x:aJ):bu A (.fa f off x)=lX A f off (ab A x):=by
 simp only[bu];generalize ab A x=y;cases y with
 |ref c =>
  cases c <;>simp only[lX,I.dH,rj]
  rename_i fs;cases h:fs[f]? with
  |none=>simp[pS]
  |some v =>
   have hl:f<fs.length:=(zy6.1 h).1;simp only[pS,ef,hl,true_and]

 |ptr n p =>
  simp only[lX,lS,gR];cases ff p (A.o n) with
  |none=>simp[fE,ri]
  |some c =>
   cases c <;>simp only[fE,I.dH,ri]
   simp only[ef]

 |_=>simp only[lX]
noncomputable def td(f off:Nat)(s:Option Nat):Option (List I)→Option I
 |some fs=>match fs[f]? with
  |some v=>(ef fs f off v).bind (dQ s)
  |none=>none
 |none=>none
theorem alT(A:ae)(f off:Nat)(s:Option Nat)(x:aJ):bu A (.fl f off s x)=td f off s (ab A x).dH:=by
 simp only[bu];generalize ab A x=y;cases y <;>simp only[td,I.dH]
 rename_i fs;cases h:fs[f]? with
 |none=>rfl
 |some v =>
  have hl:f<fs.length:=(zy6.1 h).1;simp only[ef,hl,true_and];by_cases h1:I.sizes (fs.take f)=off <;>by_cases h2:b8 s v=true <;>simp[h1,h2,dQ]
open Classical in
noncomputable def fN(k:Int)(n:Nat)(y:Option I):Option I:=if 0≤k∧k<n then y else none
noncomputable def fM(n esz:Nat)(fs:List I)(y:Option I):Option I:=if iT n esz fs=true then y else none
noncomputable def rv(n esz:Nat)(k:Int):Option (List I)→Option I
 |some fs=>fM n esz fs ((fs[k.toNat]?).map .ref)
 |none=>none
noncomputable def ru(n esz m:Nat)(p:List Nat)(k:Int):Option (List I)→Option I
 |some fs=>fM n esz fs (some (.ptr m (p++[k.toNat])))
 |none=>none
noncomputable def oN(A:ae)(n esz:Nat)(k:Int):I→Option I
 | .ref c=>fN k n (rv n esz k c.dH)
 | .ptr m p=>fN k n (ru n esz m p k (fE (ff p (A.o m))))
 |_=>none
noncomputable def rr(A:ae)(n esz:Nat)(x:I):I→Option I
 | .int _ k=>oN A n esz k x
 |_=>none
theorem alU(A:ae)(n esz:Nat)(x i:aJ):bu A (.ia n esz x i)=rr A n esz (ab A x) (ab A i):=by
 simp only[bu];generalize ab A x=y;generalize ab A i=z;cases z <;>simp only[rr]
 rename_i kk k;cases y with
 |ref c =>
  simp only[oN,fN];split
  ·cases c <;>simp only[I.dH,rv,fM]
  ·rfl
 |ptr m p =>
  simp only[oN,fN,lS,gR];split
  ·cases ff p (A.o m) with
   |none=>simp[fE,ru]
   |some c=>cases c <;>simp only[fE,I.dH,ru,fM]
  ·rfl
 |_=>simp only[oN];split <;>rfl
open Classical in
noncomputable def mb(m:Nat)(p:List Nat)(sz lo l esz:Nat)(k:Int):Option (List I)→Option I
 |some _=>if sz=esz∧0≤k∧k<l then some (.ptr m (p++[lo+k.toNat])) else none
 |none=>none
open Classical in
noncomputable def iF(A:ae)(esz:Nat)(k:Int):I→Option I
 | .slice sz es=>if sz=esz∧0≤k∧k<es.length then (es[k.toNat]?).map .ref else none
 | .own m l=>match A.o m with
  |some (.bY _ sz es)=>if l=es.length∧sz=esz∧0≤k∧k<es.length then (es[k.toNat]?).map .ref else none
  |_=>none
 | .view m p sz lo l=>mb m p sz lo l esz k (fE (ff p (A.o m)))
 |_=>none
noncomputable def l9(A:ae)(esz:Nat)(x:I):I→Option I
 | .int _ k=>iF A esz k x
 |_=>none
theorem alV(A:ae)(esz:Nat)(x i:aJ):bu A (.is esz x i)=l9 A esz (ab A x) (ab A i):=by
 simp only[bu];generalize ab A x=y;generalize ab A i=z;cases z <;>simp only[l9]
 cases y <;>simp only[iF]
 ·split <;>simp_all
 ·rename_i m p sz lo l;simp only[lS,gR];cases ff p (A.o m) with
  |none=>rfl
  |some c=>cases c <;>simp only[fE,I.dH,mb]
noncomputable def rB(n esz:Nat)(s:Option Nat)(k:Int):Option (List I)→Option I
 |some fs=>fN k n (fM n esz fs (hE s fs[k.toNat]?))
 |none=>none
noncomputable def rC(n esz:Nat)(s:Option Nat)(x:I):I→Option I
 | .int _ k=>rB n esz s k x.dH
 |_=>none
theorem alW(A:ae)(n esz:Nat)(s:Option Nat)(x i:aJ):bu A (.ix n esz s x i)=rC n esz s (ab A x) (ab A i):=by
 simp only[bu];generalize ab A x=y;generalize ab A i=z;cases z <;>simp only[rC]
 rename_i kk k;cases y <;>simp only[I.dH,rB]
 case agg fs =>
  simp only[fN,fM];split
  ·split
   ·cases fs[k.toNat]? <;>rfl
   ·rfl
  ·rfl
 all_goals (split <;>rfl)
def jK(A:ae):I→Option I
 | .slice _ es=>some (.int .i64 es.length)
 | .nils _=>some (.int .i64 0)
 | .c0 _=>some (.int .i64 0)
 | .own m l=>match A.o m with | some (.bY _ _ es)=>if l=es.length then some (.int .i64 es.length) else none | _=>none
 | .view _ _ _ _ k=>some (.int .i64 k)
 |_=>none
theorem alY(A:ae)(x:aJ):bu A (.len x)=jK A (ab A x):=by
 simp only[bu];generalize ab A x=y;cases y <;>rfl
open Classical in
noncomputable def py(n esz:Nat)(fs:List I)(y:I):Option I:=if iT n esz fs=true∧n≤maxLen∧n≠0 then some y else none
noncomputable def sf(n esz m:Nat)(p:List Nat):Option (List I)→Option I
 |some fs=>py n esz fs (.view m p esz 0 n)
 |none=>none
noncomputable def PT(n esz:Nat):Option (List I)→Option I
 |some fs=>py n esz fs (.slice esz fs)
 |none=>none
noncomputable def px(A:ae)(n esz:Nat):I→Option I
 | .ptr m p=>sf n esz m p (fE (ff p (A.o m)))
 | .ref c=>PT n esz c.dH
 |_=>none
theorem al0(A:ae)(n esz:Nat)(x:aJ):bu A (.va n esz x)=px A n esz (ab A x):=by
 simp only[bu];generalize ab A x=y;cases y with
 |ptr m p =>
  simp only[px,lS,gR];cases ff p (A.o m) with
  |none=>simp[fE,sf]
  |some c=>cases c <;>simp only[fE,I.dH,sf,py] <;>(split <;>simp_all)
 |ref c=>cases c <;>simp only[px,I.dH,PT,py] <;>(split <;>simp_all)
 |_=>simp only[px]
theorem alX(A:ae)(s:Option Nat)(x:aJ):bu A (.ld s x)=hE s (gR A (ab A x)):=by
 simp only[bu,lS];cases gR A (ab A x) <;>simp only[hE,dQ]
noncomputable def rP(A:ae)(d:Option Nat)(a b:aJ)(rest:List aB):I→cK
 | .bool t=>aE rest (A.aP d (if t then ab A a else ab A b))
 |_=>.fail
noncomputable def sd(op:UnOp)(x:I):Option I:=match op,x with
  | .not,.bool b=>some (.bool !b)
  | .neg,.int k n=>some (.int k (k.wrap (0-n)))
  | .xor,.int k n=>some (.int k (pN k n))
  |_,_=>none
def we(i:Nat):I→Option I
 | .tuple fs=>fs[i]?
 |_=>none
def vQ(k:IntKind):I→Option I
 | .int _ n=>some (.int k (k.wrap n))
 |_=>none
noncomputable def vj(A:ae)(d:Nat)(z:I)(rest:List aB):Option ah→cK
 |none=>aE rest ((A.aS d (.box z)).put d (.ptr d []))
 |some _=>.fail
noncomputable def sN(A:ae)(d:Nat)(z:I)(rest:List aB)(v:Bool):cK:=if v=true then aE rest ((A.aS d (.box z)).put d (.ptr d [])) else .fail
noncomputable def sM(A:ae)(d:Nat)(z:I)(rest:List aB):Option ah→cK
 |none=>sN A d z rest z.cm
 |some _=>.fail
open Classical in
noncomputable def dR(A:ae)(s:Option Nat)(n:Nat)(p:List Nat)(b v:I)(rest:List aB):Option I→cK
 |some old=>if yK s v old then aE rest (A.aS n (.box (b.dO p v))) else .fail
 |none=>.fail
noncomputable def uN(A:ae)(s:Option Nat)(n:Nat)(p:List Nat)(v:I)(rest:List aB):Option ah→cK
 |some (.box b)=>dR A s n p b v rest (b.at p)
 |_=>.fail
noncomputable def uM(A:ae)(s:Option Nat)(v:I)(rest:List aB):I→cK
 | .ptr n p=>uN A s n p v rest (A.o n)
 |_=>.fail
noncomputable def sQ(A:ae)(d:Option Nat)(args:List I)(rest:List aB):I→cK
 | .func f caps=>.call f (args++caps) (ca true A (args++caps)) (ca false A (args++caps)) d rest A
 | .raw v=>.pL v args d rest A
 |_=>.fail
section
variable (d:Option Nat) (rest:List aB) (A:ae)
theorem Rz(op:cn):aE (⟨d,op,none⟩::rest) A=bQ A d op rest:=rfl
theorem RA(op:cn)(t:Nat)(b:Bool):aE (⟨d,op,some (t,b)⟩::rest) A=il (A.t t) b d op rest A:=rfl
theorem aiv(op:cn):il (.bool true) true d op rest A=bQ A d op rest:=by simp[il]
theorem ais(op:cn):il (.bool false) false d op rest A=bQ A d op rest:=by simp[il]
theorem aiu(op:cn):il (.bool true) false d op rest A=aE rest (A.aP d .undef):=by simp[il]
theorem ait(op:cn):il (.bool false) true d op rest A=aE rest (A.aP d .undef):=by simp[il]
theorem aiw(op:cn)(b:Bool):il .undef b d op rest A=aE rest (A.aP d .undef):=rfl
theorem akU(x:aJ):bQ A d (.mv x) rest=aE rest (A.aP d (ab A x)):=rfl
theorem akY(c a b:aJ):bQ A d (.pick c a b) rest=rP A d a b rest (ab A c):=by
 simp only[bQ,bj,bu];cases ab A c <;>simp only[cP,rP]
theorem akv(op:BinOp)(x y:aJ):bQ A d (.bin op x y) rest=cP (cJ op (ab A x) (ab A y)) (di d rest A):=rfl
theorem akF(ty:cN)(neg:Bool)(x y:aJ):bQ A d (.eqv ty neg x y) rest=cP ((cv ty (ab A x) (ab A y)).map fun b=>.bool (if neg then !b else b)) (di d rest A):=rfl
theorem ak3(op:UnOp)(x:aJ):bQ A d (.un op x) rest=cP (sd op (ab A x)) (di d rest A):=rfl
theorem akD(k:IntKind)(x:aJ):bQ A d (.conv k x) rest=cP (vQ k (ab A x)) (di d rest A):=by
 simp only[bQ,bj,bu];cases ab A x <;>rfl
theorem akM(s:Option Nat)(x:aJ):bQ A d (.ld s x) rest=cP (hE s (gR A (ab A x))) (di d rest A):=by rw[←alX];rfl
theorem akH(f off:Nat)(x:aJ):bQ A d (.fa f off x) rest=cP (lX A f off (ab A x)) (di d rest A):=by rw[←alS];rfl
theorem akI(f off:Nat)(s:Option Nat)(x:aJ):bQ A d (.fl f off s x) rest=cP (td f off s (ab A x).dH) (di d rest A):=by rw[←alT];rfl
theorem akJ(n esz:Nat)(x i:aJ):bQ A d (.ia n esz x i) rest=cP (rr A n esz (ab A x) (ab A i)) (di d rest A):=by rw[←alU];rfl
theorem akK(esz:Nat)(x i:aJ):bQ A d (.is esz x i) rest=cP (l9 A esz (ab A x) (ab A i)) (di d rest A):=by rw[←alV];rfl
theorem akL(n esz:Nat)(s:Option Nat)(x i:aJ):bQ A d (.ix n esz s x i) rest=cP (rC n esz s (ab A x) (ab A i)) (di d rest A):=by rw[←alW];rfl
theorem akN(x:aJ):bQ A d (.len x) rest=cP (jK A (ab A x)) (di d rest A):=by rw[←alY];rfl
theorem ak4(n esz:Nat)(x:aJ):bQ A d (.va n esz x) rest=cP (px A n esz (ab A x)) (di d rest A):=by rw[←al0];rfl
theorem akw(zs:List I)(ps:List (Nat×aJ)):bQ A d (.bld zs ps) rest=cP ((dZ zs (ps.map fun p=>(p.1,ab A p.2))).map .agg) (di d rest A):=rfl
theorem akG(x:aJ)(i:Nat):bQ A d (.ext x i) rest=cP (we i (ab A x)) (di d rest A):=by
 simp only[bQ,bj,bu];cases ab A x <;>rfl
theorem akQ(f:FuncId)(caps:List aJ):bQ A d (.mk f caps) rest=cP (if ((caps.map (ab A)).all fun y=>y.cm)=true then some (.func f (caps.map (ab A))) else none) (di d rest A):=rfl
theorem akt(d:Nat)(z:I):bQ A (some d) (.alloc z) rest=vj A d z rest (A.o d):=by
 simp only[bQ,bj];cases A.o d <;>rfl
theorem akx(d:Nat)(x:aJ):bQ A (some d) (.box x) rest=sM A d (ab A x) rest (A.o d):=by
 simp only[bQ,bj];cases A.o d <;>simp only[sM,sN]
theorem ak2(s:Option Nat)(x v:aJ):bQ A none (.br s x v) rest=uM A s (ab A v) rest (ab A x):=by
 simp only[bQ,bj];cases ab A x <;>simp only[uM]
 rename_i n p;cases A.o n with
 |none=>rfl
 |some y =>
  cases y <;>simp only[uN]
  rename_i b;cases b.at p <;>simp only[dR]
theorem akz(f:FuncId)(args:List aJ):bQ A d (.call f args) rest=.call f (args.map (ab A)) (ca true A (args.map (ab A))) (ca false A (args.map (ab A))) d rest A:=rfl
theorem akA(x:aJ)(args:List aJ):bQ A d (.eF x args) rest=sQ A d (args.map (ab A)) rest (ab A x):=by
 simp only[bQ,bj];cases ab A x <;>rfl
end
end Go.Abs
namespace Go.Abs
open Go Go.RowKit
mutual
/-- Closed,and as a result is told: no nil slice but as the empty one. -/
def I.done:I→Bool
 | .agg fs=>I.eS fs
 | .slice _ es=>I.bZ es
 | .ref x=>x.bD
 | .func _ caps=>I.eS caps
 | .iface _ v=>v.bD
 | .cX ks vs=>I.bZ ks&&I.bZ vs
 | .bool _ | .int _ _ | .c7 _ | .nilp | .dw | .ea | .raw _=>true
 |_=>false
def I.eS:List I→Bool
 | []=>true
 |x::xs=>x.done&&I.eS xs
end
mutual
theorem vU:∀ x:I,x.done=true→x.bD=true
 | .agg fs,h=>by simp only[I.done,I.bD] at *;exact kr fs h
 | .slice _ es,h=>by simpa only[I.done,I.bD] using h
 | .ref x,h=>by simpa only[I.done,I.bD] using h
 | .func _ caps,h=>by simp only[I.done,I.bD] at *;exact kr caps h
 | .iface _ v,h=>by simpa only[I.done,I.bD] using h
 | .bool _,_ | .int _ _,_ | .c7 _,_ | .nilp,_ | .dw,_ | .ea,_ | .raw _,_=>by simp[I.bD]
 | .cX _ _,h=>by simpa only[I.done,I.bD] using h
 | .nils _,h | .c0 _,h | .ptr _ _,h | .own _ _,h | .view _ _ _ _ _,h | .mref _,h | .dC _,h | .undef,h | .du,h | .tuple _,h=>by simp[I.done] at h
theorem kr:∀ xs:List I,I.eS xs=true→I.bZ xs=true
 | [],_=>rfl
 |x::xs,h=>by
  simp only[I.eS,I.bZ,zz2] at *;exact ⟨vU x h.1,kr xs h.2⟩
end
mutual
theorem Et(aA:Bool)(A:ae):∀ x:I,x.done=true→bl aA A x=some x
 | .agg fs,h=>by simp only[I.done,bl] at *;rw[j5 aA A fs h];rfl
 | .slice _ es,h=>by simp only[I.done] at h;simp[bl,h]
 | .ref x,h=>by simp only[I.done] at h;simp[bl,h]
 | .func _ caps,h=>by simp only[I.done,bl] at *;rw[j5 aA A caps h];rfl
 | .iface _ v,h=>by simp only[I.done] at h;simp[bl,h]
 | .bool _,_ | .int _ _,_ | .c7 _,_ | .nilp,_ | .dw,_ | .ea,_ | .raw _,_=>by simp[bl]
 | .cX _ _,h=>by simp only[I.done] at h;simp[bl,h]
 | .nils _,h | .c0 _,h | .ptr _ _,h | .own _ _,h | .view _ _ _ _ _,h | .mref _,h | .dC _,h | .undef,h | .du,h | .tuple _,h=>by simp[I.done] at h
theorem j5(aA:Bool)(A:ae):∀ xs:List I,I.eS xs=true→ca aA A xs=some xs
 | [],_=>by simp[ca]
 |x::xs,h=>by
  simp only[I.eS,zz2] at h;simp only[ca,Et aA A x h.1,j5 aA A xs h.2]
end
theorem ZU{x:I}(h:x.done=true):x.cm=true:=by cases x <;>simp_all[I.done,I.cm]
class Enc (α:Type) where
 enc:α→I
 sz:Nat
 aQ:cR
 gz:Bool
 done:∀ x,(enc x).done=true
 size:∀ x,(enc x).size=sz
 kJ:∀ x,(enc x).aQ=aQ
 agg:∀ x,(enc x).isAgg=gz
open Enc (enc)
instance:Enc Int where
 enc n:=.int .i64 n
 sz:=1
 aQ:=.one
 gz:=false
 done _:=rfl
 size _:=by simp[I.size]
 kJ _:=by simp[I.aQ]
 agg _:=rfl
instance:Enc Bool where
 enc b:=.bool b
 sz:=1
 aQ:=.one
 gz:=false
 done _:=rfl
 size _:=by simp[I.size]
 kJ _:=by simp[I.aQ]
 agg _:=rfl
theorem kR{α:Type}[Enc α](l:List α):I.bZ (l.map enc)=true:=by
 induction l with
 |nil=>rfl
 |cons x l ih=>simp only[zz8,I.bZ,vU _ (Enc.done x),ih,zw5]
theorem ZV{α:Type}[Enc α](l:List α):I.eS (l.map enc)=true:=by
 induction l with
 |nil=>rfl
 |cons x l ih=>simp only[zz8,I.eS,Enc.done x,ih,zw5]
theorem amF{α:Type}[Enc α](l:List α):I.sizes (l.map enc)=l.length*Enc.sz α:=by
 rw[I.jd (sz:=Enc.sz α) _ (by simp only[zx9];rintro x ⟨y,_,rfl⟩;exact Enc.size y)];simp
theorem r6{α:Type}[Enc α](l:List α):I.cS (l.map enc)=List.replicate l.length (Enc.aQ α):=by
 induction l with
 |nil=>rfl
 |cons x l ih=>simp only[zz8,I.cS,Enc.kJ x,ih,List.length_cons,List.replicate_succ]
instance {α:Type} [Enc α]:Enc (List α) where
 enc l:=.slice (Enc.sz α) (l.map enc)
 sz:=1
 aQ:=.one
 gz:=false
 done l:=by simp only[I.done];exact kR l
 size _:=by simp[I.size]
 kJ _:=by simp[I.aQ]
 agg _:=rfl
structure aW (n:Nat) (α:Type) where
 l:List α
 h:l.length=n
instance {n:Nat} {α:Type} [Enc α]:Enc (aW n α) where
 enc x:=.agg (x.l.map enc)
 sz:=n*Enc.sz α
 aQ:=.ep (List.replicate n (Enc.aQ α))
 gz:=true
 done x:=by simp only[I.done];exact ZV x.l
 size x:=by simp only[I.size,amF,x.h]
 kJ x:=by simp only[I.aQ,r6,x.h]
 agg _:=rfl
section
variable {α:Type} [Enc α]
theorem c8(aA:Bool)(A:ae)(x:α):bl aA A (enc x)=some (enc x):=Et aA A _ (Enc.done x)
theorem dG(x:α):(enc x).bD=true:=vU _ (Enc.done x)
theorem bh(p:Nat→Bool)(x:α):(enc x).only p=true:=nf p _ (dG x)
theorem dN(x:α):(enc x).cm=true:=ZU (Enc.done x)
theorem mT(x:α):b8 none (enc x) = !(Enc.gz α):=by simp[b8,Enc.agg]
theorem fL(n:Nat)(x:α):b8 (some n) (enc x)=(Enc.gz α&&Enc.sz α==n):=by simp[b8,Enc.agg,Enc.size]
theorem gH(x:α):(enc x).size=Enc.sz α:=Enc.size x
theorem eL(x:α):(enc x).aQ=Enc.aQ α:=Enc.kJ x
theorem gT(n:Int):(enc n:I)=.int .i64 n:=rfl
theorem D5(n:Bool):(enc n:I)=.bool n:=rfl
theorem gG(l:List α):(enc l:I)=.slice (Enc.sz α) (l.map enc):=rfl
theorem kV:Enc.sz Int=1:=rfl
theorem kU(n:Nat):Enc.sz (aW n α)=n*Enc.sz α:=rfl
theorem v7:Enc.sz (List α)=1:=rfl
theorem vZ(n:Nat):Enc.gz (aW n α)=true:=rfl
theorem nJ:Enc.gz (List α)=false:=rfl
theorem sY:Enc.aQ Int=.one:=rfl
theorem D8:Enc.aQ (List α)=.one:=rfl
theorem sX(n:Nat):Enc.aQ (aW n α)=.ep (List.replicate n (Enc.aQ α)):=rfl
theorem wc(n esz:Nat)(l:List α)(h:l.length=n)(h2:Enc.sz α=esz):iT n esz (l.map enc)=true:=by
 simp only[iT,zy2,h,BEq.rfl,Bool.true_and,zx2,zx9];rintro x ⟨y,_,rfl⟩;simp[Enc.size,h2]
theorem RK(l:List α):∀ x∈l.map (enc (α:=α)),x.size=Enc.sz α:=by
 simp only[zx9];rintro x ⟨y,_,rfl⟩;exact Enc.size y
end
theorem cF(n:Int)(h1:-9223372036854775808≤n)(h2:n≤9223372036854775807):IntKind.i64.wrap n=n:=IntWalk.i64_in n ⟨h1,h2⟩
theorem ay.mk{P:Program}{f:FuncId}{fn:Func}{x:aO}{rs:List a7}{args:List I}{r:I}(hf:P.funcs[f]?=some fn)(hcall:ij P f=true)(hc:(fn.body.bind (fr P fn.ntmps))=some x)
  (hrs:ji P fn.results.toList=some rs) (hn:args.length≤fn.ntmps) (h:∀ (w:World) (D:aR) (E:aZ),J ⟨P,w,D,fn.ntmps,dD E,E,iV,none⟩ x (jS rs r) (au (bg 0 args) [])):ay P f args r:=by
 obtain ⟨body,hb,hc'⟩:=Option.bind_eq_some_iff.1 hc;exact ay.tY hf hb hcall hc' hrs hn (fun w D E=>(h w D E).sub (am4 args))
end Go.Abs
namespace Go.Abs
open Go Go.RowKit
open Enc (enc)
def ak(x:I)(p q:Prop):Prop:=match x with
 | .bool t=>(t=true→p)∧(t=false→q)
 |_=>False
theorem J.bM{c:cU}{A:ae}{Q:Exit→ae→Prop}{b:aJ}{x y:aO}(h:ak (ab A b) (J c x Q A) (J c y Q A)):J c (.cond b x y) Q A:=by
 generalize hb:ab A b=v at h;unfold ak at h;split at h
 ·exact J.cond hb h.1 h.2
 ·exact h.elim
def oh(r:I):Option (List I)→Prop
 |some xs=>ln xs=r
 |none=>False
theorem amm(rs:List a7)(r:I)(A:ae):jS rs r .ret A=oh r (fk A rs):=by
 simp only[jS,oh];cases fk A rs <;>simp
theorem aml(rs:List a7)(r:I)(A:ae):jS rs r .normal A=oh r (fk A rs):=by
 simp only[jS,oh];cases fk A rs <;>simp
def r2(s:Option Nat)(A:ae):Option I→Option I
 |some x=>if b8 s x=true then bl true A x else none
 |none=>none
def lO:Option I→Option (List I)→Option (List I)
 |some x,some xs=>some (x::xs)
 |_,_=>none
theorem amf(A:ae):fk A []=some []:=rfl
theorem amg(A:ae)(t:Nat)(rs:List a7):fk A (.tmp t::rs)=lO (bl true A (A.t t)) (fk A rs):=by
 simp only[fk,uA];cases bl true A (A.t t) <;>cases fk A rs <;>rfl
theorem ame(A:ae)(a:Nat)(s:Option Nat)(rs:List a7):fk A (.cell a s::rs)=lO (r2 s A (gR A (A.t a))) (fk A rs):=by
 simp only[fk,uA,lS];cases gR A (A.t a) with
 |none=>cases fk A rs <;>rfl
 |some x =>
  by_cases h:b8 s x=true
  ·simp only[r2,if_pos h];cases bl true A x <;>cases fk A rs <;>rfl
  ·simp only[r2,if_neg h];cases fk A rs <;>rfl
def s9(aA:Bool)(A:ae):Option I→Option I
 |some x=>if x.bD=true then some (.ref x) else (ej A 9 x).map .ref
 |none=>none
theorem aaB(A:ae)(n:Nat)(p:List Nat):bl true A (.ptr n p)=s9 true A (ff p (A.o n)):=by
 simp only[bl,lS,gR,if_true,s9];cases ff p (A.o n) <;>rfl
open Classical in
noncomputable def lY(sz lo k:Nat):Option (List I)→Option I
 |some fs=>if I.bZ ((fs.drop lo).take k)=true then some (.slice sz ((fs.drop lo).take k)) else none
 |none=>none
theorem aaF(A:ae)(n:Nat)(p:List Nat)(sz lo k:Nat):bl true A (.view n p sz lo k)=lY sz lo k (fE (ff p (A.o n))):=by
 simp only[bl,lS,gR,if_true];cases ff p (A.o n) with
 |none=>rfl
 |some c=>cases c <;>simp only[fE,I.dH,lY] <;>(split <;>simp_all)
open Classical in
noncomputable def oH(k:Nat):Option ah→Option I
 |some (.bY _ sz es)=>if k=es.length∧I.bZ es=true then some (.slice sz es) else none
 |_=>none
theorem aaA(aA:Bool)(A:ae)(n k:Nat):bl aA A (.own n k)=oH k (A.o n):=by
 simp only[bl];cases A.o n with
 |none=>rfl
 |some y=>cases y <;>simp only[oH] <;>(split <;>simp_all)
theorem aau(aA:Bool)(A:ae)(fs:List I):bl aA A (.agg fs)=(ca aA A fs).map .agg:=by simp only[bl]
theorem aaw(aA:Bool)(A:ae)(f:FuncId)(fs:List I):bl aA A (.func f fs)=(ca aA A fs).map (.func f):=by simp only[bl]
theorem aax(aA:Bool)(A:ae)(k:IntKind)(n:Int):bl aA A (.int k n)=some (.int k n):=by simp only[bl]
theorem aav(aA:Bool)(A:ae)(n:Bool):bl aA A (.bool n)=some (.bool n):=by simp only[bl]
theorem aaE(aA:Bool)(A:ae)(n:ByteArray):bl aA A (.c7 n)=some (.c7 n):=by simp only[bl]
theorem aaz(aA:Bool)(A:ae)(n:Nat):bl aA A (.nils n)=some (.slice n []):=by simp only[bl]
theorem aaD(aA:Bool)(A:ae)(n:Nat)(es:List I):bl aA A (.slice n es)=if I.bZ es=true then some (.slice n es) else none:=by simp only[bl]
theorem aaC(aA:Bool)(A:ae)(x:I):bl aA A (.ref x)=if x.bD=true then some (.ref x) else none:=by simp only[bl]
theorem aaI(aA:Bool)(A:ae):ca aA A []=some []:=by simp only[ca]
theorem aaH(aA:Bool)(A:ae)(x:I)(xs:List I):ca aA A (x::xs)=lO (bl aA A x) (ca aA A xs):=by
 simp only[ca];cases bl aA A x <;>cases ca aA A xs <;>rfl
theorem Wu(fs:List I):(I.agg fs).bD=I.bZ fs:=by simp only[I.bD]
theorem WA(n:Nat)(fs:List I):(I.slice n fs).bD=I.bZ fs:=by simp only[I.bD]
theorem Wz(x:I):(I.ref x).bD=x.bD:=by simp only[I.bD]
theorem Wy(k:IntKind)(n:Int):(I.int k n).bD=true:=by simp only[I.bD]
theorem Wv(n:Bool):(I.bool n).bD=true:=by simp only[I.bD]
theorem WB(n:ByteArray):(I.c7 n).bD=true:=by simp only[I.bD]
theorem Ww(f:FuncId)(fs:List I):(I.func f fs).bD=I.bZ fs:=by simp only[I.bD]
theorem WE:I.bZ []=true:=by simp only[I.bZ]
theorem WC(x:I)(xs:List I):I.bZ (x::xs)=(x.bD&&I.bZ xs):=by simp only[I.bZ]
theorem R7(k:IntKind)(a b:Int):cJ .add (.int k a) (.int k b)=some (.int k (k.wrap (a+b))):=by simp[cJ]
theorem Sn(k:IntKind)(a b:Int):cJ .sub (.int k a) (.int k b)=some (.int k (k.wrap (a-b))):=by simp[cJ]
theorem Sf(k:IntKind)(a b:Int):cJ .mul (.int k a) (.int k b)=some (.int k (k.wrap (a*b))):=by simp[cJ]
theorem Sj(k:IntKind)(a b:Int):cJ .quo (.int k a) (.int k b)=if b=0 then none else some (.int k (k.wrap (a.tdiv b))):=by simp[cJ]
theorem Sk(k:IntKind)(a b:Int):cJ .rem (.int k a) (.int k b)=if b=0 then none else some (.int k (a.tmod b)):=by simp[cJ]
theorem R8(k:IntKind)(a b:Int):cJ .and (.int k a) (.int k b)=some (.int k (k.wrap ((BitVec.ofInt k.bits a &&& BitVec.ofInt k.bits b).toNat:Int))):=by simp[cJ]
theorem Si(k:IntKind)(a b:Int):cJ .or (.int k a) (.int k b)=some (.int k (k.wrap ((BitVec.ofInt k.bits a ||| BitVec.ofInt k.bits b).toNat:Int))):=by simp[cJ]
theorem Sp(k:IntKind)(a b:Int):cJ .xor (.int k a) (.int k b)=some (.int k (k.wrap ((BitVec.ofInt k.bits a ^^^ BitVec.ofInt k.bits b).toNat:Int))):=by simp[cJ]
theorem R9(k:IntKind)(a b:Int):cJ .andNot (.int k a) (.int k b)=some (.int k (k.wrap ((BitVec.ofInt k.bits a &&& ~~~ BitVec.ofInt k.bits b).toNat:Int))):=by simp[cJ]
theorem Sl(k k':IntKind)(a b:Int):cJ .shl (.int k a) (.int k' b)=if 0≤b then some (.int k (k.wrap (a*2^(min b.toNat k.bits)))) else none:=by simp[cJ]
theorem Sm(k k':IntKind)(a b:Int):cJ .shr (.int k a) (.int k' b)=if 0≤b then some (.int k (a.fdiv (2^(min b.toNat k.bits)))) else none:=by simp[cJ]
theorem Sa(k:IntKind)(a b:Int):cJ .eql (.int k a) (.int k b)=some (.bool (a==b)):=by simp[cJ]
theorem Sg(k:IntKind)(a b:Int):cJ .neq (.int k a) (.int k b)=some (.bool (a != b)):=by simp[cJ]
theorem Se(k:IntKind)(a b:Int):cJ .lss (.int k a) (.int k b)=some (.bool (decide (a<b))):=by simp[cJ]
theorem Sd(k:IntKind)(a b:Int):cJ .leq (.int k a) (.int k b)=some (.bool (decide (a≤b))):=by simp[cJ]
theorem Sc(k:IntKind)(a b:Int):cJ .gtr (.int k a) (.int k b)=some (.bool (decide (b<a))):=by simp[cJ]
theorem Sb(k:IntKind)(a b:Int):cJ .geq (.int k a) (.int k b)=some (.bool (decide (b≤a))):=by simp[cJ]
theorem pD :
  (∀ ts os d v,(au ts os).put d v=au ((d,v)::ts) os)∧(∀ ts os d v,(au ts os).aP (some d) v=au ((d,v)::ts) os)∧(∀ (A:ae) v,A.aP none v=A) ∧
  (∀ ts os d x,(au ts os).aS d x=au ts ((d,x)::os))∧(∀ ts os k,(au ts os).t k=b7 ts k)∧(∀ ts os k,(au ts os).o k=aj os k) ∧
  (∀ j v r k,b7 ((j,v)::r) k=if k=j then v else b7 r k)∧(∀ j v r k,aj ((j,v)::r) k=if k=j then some v else aj r k)∧(∀ k,aj [] k=none) ∧
  (∀ A k,ab A (.t k)=A.t k)∧(∀ A x,ab A (.c x)=x)∧(∀ d rest A v,di d rest A v=aE rest (A.aP d v))∧(∀ v k,cP (some v) k=k v)∧(∀ A,aE [] A=.done A) :=
 ⟨tM,aj4,aj3,oU,aj5,aj2,aV,cg,tG,aaf,aae,ajq,Sq,RN⟩
theorem Mp :
  (∀ d rest A op,aE (⟨d,op,none⟩::rest) A=bQ A d op rest)∧(∀ d rest A op t b,aE (⟨d,op,some (t,b)⟩::rest) A=il (A.t t) b d op rest A) ∧
  (∀ d rest A op,il (.bool true) true d op rest A=bQ A d op rest)∧(∀ d rest A op,il (.bool false) false d op rest A=bQ A d op rest) ∧
  (∀ d rest A op,il (.bool true) false d op rest A=aE rest (A.aP d .undef))∧(∀ d rest A op,il (.bool false) true d op rest A=aE rest (A.aP d .undef))∧(∀ d rest A op b,il .undef b d op rest A=aE rest (A.aP d .undef)) ∧
  (∀ d rest A x,bQ A d (.mv x) rest=aE rest (A.aP d (ab A x)))∧(∀ d rest A c a b,bQ A d (.pick c a b) rest=rP A d a b rest (ab A c)) ∧
  (∀ A d a b rest,rP A d a b rest (.bool true)=aE rest (A.aP d (ab A a)))∧(∀ A d a b rest,rP A d a b rest (.bool false)=aE rest (A.aP d (ab A b))) ∧
  (∀ d rest A op x y,bQ A d (.bin op x y) rest=cP (cJ op (ab A x) (ab A y)) (di d rest A)) ∧
  (∀ d rest A ty neg x y,bQ A d (.eqv ty neg x y) rest=cP ((cv ty (ab A x) (ab A y)).map fun b=>.bool (if neg then !b else b)) (di d rest A)) ∧
  (∀ d rest A op x,bQ A d (.un op x) rest=cP (sd op (ab A x)) (di d rest A))∧(∀ b,sd .not (.bool b)=some (.bool !b))∧(∀ k n,sd .neg (.int k n)=some (.int k (k.wrap (0-n))))∧(∀ k n,sd .xor (.int k n)=some (.int k (pN k n))) ∧
  (∀ d rest A k x,bQ A d (.conv k x) rest=cP (vQ k (ab A x)) (di d rest A))∧(∀ k k' n,vQ k (.int k' n)=some (.int k (k.wrap n))) ∧
  (∀ d rest A s x,bQ A d (.ld s x) rest=cP (hE s (gR A (ab A x))) (di d rest A))∧(∀ d rest A f off x,bQ A d (.fa f off x) rest=cP (lX A f off (ab A x)) (di d rest A)) ∧
  (∀ d rest A f off s x,bQ A d (.fl f off s x) rest=cP (td f off s (ab A x).dH) (di d rest A))∧(∀ d rest A n esz x i,bQ A d (.ia n esz x i) rest=cP (rr A n esz (ab A x) (ab A i)) (di d rest A)) ∧
  (∀ d rest A esz x i,bQ A d (.is esz x i) rest=cP (l9 A esz (ab A x) (ab A i)) (di d rest A))∧(∀ d rest A n esz s x i,bQ A d (.ix n esz s x i) rest=cP (rC n esz s (ab A x) (ab A i)) (di d rest A)) ∧
  (∀ d rest A x,bQ A d (.len x) rest=cP (jK A (ab A x)) (di d rest A))∧(∀ d rest A n esz x,bQ A d (.va n esz x) rest=cP (px A n esz (ab A x)) (di d rest A)) ∧
  (∀ d rest A zs ps,bQ A d (.bld zs ps) rest=cP ((dZ zs (ps.map fun p=>(p.1,ab A p.2))).map .agg) (di d rest A))∧(∀ d rest A x i,bQ A d (.ext x i) rest=cP (we i (ab A x)) (di d rest A))∧(∀ i fs,we i (.tuple fs)=fs[i]?) ∧
  (∀ d rest A f caps,bQ A d (.mk f caps) rest=cP (if ((caps.map (ab A)).all fun y=>y.cm)=true then some (.func f (caps.map (ab A))) else none) (di d rest A)) ∧
  (∀ rest A d z,bQ A (some d) (.alloc z) rest=vj A d z rest (A.o d))∧(∀ A d z rest,vj A d z rest none=aE rest ((A.aS d (.box z)).put d (.ptr d []))) ∧
  (∀ rest A d x,bQ A (some d) (.box x) rest=sM A d (ab A x) rest (A.o d))∧(∀ A d z rest,sM A d z rest none=sN A d z rest z.cm)∧(∀ A d z rest,sN A d z rest true=aE rest ((A.aS d (.box z)).put d (.ptr d []))) ∧
  (∀ rest A s x v,bQ A none (.br s x v) rest=uM A s (ab A v) rest (ab A x))∧(∀ A s v rest n p,uM A s v rest (.ptr n p)=uN A s n p v rest (A.o n))∧(∀ A s n p v rest b,uN A s n p v rest (some (.box b))=dR A s n p b v rest (b.at p)) ∧
  (∀ d rest A f args,bQ A d (.call f args) rest=.call f (args.map (ab A)) (ca true A (args.map (ab A))) (ca false A (args.map (ab A))) d rest A) ∧
  (∀ d rest A x args,bQ A d (.eF x args) rest=sQ A d (args.map (ab A)) rest (ab A x))∧(∀ A d args rest f caps,sQ A d args rest (.func f caps)=.call f (args++caps) (ca true A (args++caps)) (ca false A (args++caps)) d rest A) :=
 ⟨Rz,RA,aiv,ais,aiu,ait,aiw,akU,akY,fun _ _ _ _ _=>rfl,fun _ _ _ _ _=>rfl,akv,akF,ak3,fun _=>rfl,fun _ _=>rfl,fun _ _=>rfl,akD,fun _ _ _=>rfl,akM,akH,akI,akJ,akK,akL,akN,ak4,akw,akG,fun _ _=>rfl,akQ,
  akt,fun _ _ _ _=>rfl,akx,fun _ _ _ _=>rfl,fun _ _ _ _=>rfl,ak2,fun _ _ _ _ _ _=>rfl,fun _ _ _ _ _ _ _=>rfl,akz,akA,fun _ _ _ _ _ _=>rfl⟩
theorem ez{A:ae}{s:Option Nat}{n:Nat}{p:List Nat}{b v old:I}{rest:List aB}(h1:v.cm=true)(h2:b8 s v=true)(h3:v.aQ=old.aQ):dR A s n p b v rest (some old)=aE rest (A.aS n (.box (b.dO p v))):=by
 simp only[dR];rw[if_pos ⟨h1,h2,h3⟩]
theorem PU :
  (∀ A x,gR A (.ref x)=some x)∧(∀ A n p,gR A (.ptr n p)=ff p (A.o n))∧(∀ p c,ff p (some (.box c))=c.at p)∧(∀ c:I,c.at []=some c)∧(∀ (c:I) i p,c.at (i::p)=gu i p c.dH) ∧
  (∀ i p fs,gu i p (some fs)=pH p fs[i]?)∧(∀ p f,pH p (some f)=f.at p)∧(∀ c v:I,c.dO [] v=v)∧(∀ (c:I) i p v,c.dO (i::p) v=r5 c i p v c.dH)∧(∀ c i p v fs,r5 c i p v (some fs)=uH fs i p v fs[i]?) ∧
  (∀ fs i p v f,uH fs i p v (some f)=.agg (fs.set i (f.dO p v)))∧(∀ fs,(I.agg fs).dH=some fs)∧(∀ x:I,fE (some x)=x.dH) ∧
  (∀ s x,hE s (some x)=if b8 s x=true then some x else none) ∧
  (∀ A f off c,lX A f off (.ref c)=rj f off c.dH)∧(∀ A f off n p,lX A f off (.ptr n p)=ri n p f off (fE (ff p (A.o n))))∧(∀ f off fs,rj f off (some fs)=pS fs f off fs[f]?)∧(∀ fs f off v,pS fs f off (some v)=ef fs f off (.ref v)) ∧
  (∀ n p f off fs,ri n p f off (some fs)=ef fs f off (.ptr n (p++[f])))∧(∀ A n esz x kk k,rr A n esz x (.int kk k)=oN A n esz k x)∧(∀ A n esz k c,oN A n esz k (.ref c)=fN k n (rv n esz k c.dH)) ∧
  (∀ A n esz k m p,oN A n esz k (.ptr m p)=fN k n (ru n esz m p k (fE (ff p (A.o m)))))∧(∀ n esz k fs,rv n esz k (some fs)=fM n esz fs ((fs[k.toNat]?).map .ref))∧(∀ n esz m p k fs,ru n esz m p k (some fs)=fM n esz fs (some (.ptr m (p++[k.toNat])))) ∧
  (∀ A esz x kk k,l9 A esz x (.int kk k)=iF A esz k x)∧(∀ n esz s x kk k,rC n esz s x (.int kk k)=rB n esz s k x.dH)∧(∀ n esz s k fs,rB n esz s k (some fs)=fN k n (fM n esz fs (hE s fs[k.toNat]?))) ∧
  (∀ A n esz m p,px A n esz (.ptr m p)=sf n esz m p (fE (ff p (A.o m))))∧(∀ n esz m p fs,sf n esz m p (some fs)=py n esz fs (.view m p esz 0 n)) ∧
  (∀ A sz es,jK A (.slice sz es)=some (.int .i64 es.length))∧(∀ A n,jK A (.nils n)=some (.int .i64 0))∧(∀ A n,jK A (.c0 n)=some (.int .i64 0)) :=
 ⟨fun _ _=>rfl,fun _ _ _=>rfl,fun _ _=>rfl,iO,R3,fun _ _ _=>rfl,fun _ _=>rfl,fI,Pf,fun _ _ _ _ _=>rfl,fun _ _ _ _ _=>rfl,fun _=>rfl,fun _=>rfl,fun _ _=>rfl,fun _ _ _ _=>rfl,fun _ _ _ _ _=>rfl,fun _ _ _=>rfl,fun _ _ _ _=>rfl,
  fun _ _ _ _ _=>rfl,fun _ _ _ _ _ _=>rfl,fun _ _ _ _ _=>rfl,fun _ _ _ _ _ _=>rfl,fun _ _ _ _=>rfl,fun _ _ _ _ _ _=>rfl,fun _ _ _ _ _=>rfl,fun _ _ _ _ _ _=>rfl,fun _ _ _ _ _=>rfl,fun _ _ _ _ _=>rfl,fun _ _ _ _ _=>rfl,fun _ _ _=>rfl,fun _ _=>rfl,fun _ _=>rfl⟩
theorem Er :
  (∀ A n p,bl true A (.ptr n p)=s9 true A (ff p (A.o n)))∧(∀ A x,s9 true A (some x)=if x.bD=true then some (.ref x) else (ej A 9 x).map .ref)∧(∀ A n p sz lo k,bl true A (.view n p sz lo k)=lY sz lo k (fE (ff p (A.o n)))) ∧
  (∀ A n p,bl false A (.ptr n p)=none)∧(∀ A n p sz lo k,bl false A (.view n p sz lo k)=none)∧(∀ x,lO none x=none)∧(∀ x,lO x none=none) ∧
  (∀ aA A n k,bl aA A (.own n k)=oH k (A.o n))∧(∀ aA A fs,bl aA A (.agg fs)=(ca aA A fs).map .agg)∧(∀ aA A f fs,bl aA A (.func f fs)=(ca aA A fs).map (.func f))∧(∀ aA A k n,bl aA A (.int k n)=some (.int k n))∧(∀ aA A b,bl aA A (.bool b)=some (.bool b)) ∧
  (∀ aA A s,bl aA A (.c7 s)=some (.c7 s))∧(∀ aA A n,bl aA A (.nils n)=some (.slice n []))∧(∀ aA A n es,bl aA A (.slice n es)=if I.bZ es=true then some (.slice n es) else none)∧(∀ aA A x,bl aA A (.ref x)=if x.bD=true then some (.ref x) else none) ∧
  (∀ aA A,ca aA A []=some [])∧(∀ aA A x xs,ca aA A (x::xs)=lO (bl aA A x) (ca aA A xs))∧(∀ x xs,lO (some x) (some xs)=some (x::xs)) ∧
  (∀ fs,(I.agg fs).bD=I.bZ fs)∧(∀ n fs,(I.slice n fs).bD=I.bZ fs)∧(∀ x,(I.ref x).bD=x.bD)∧(∀ k n,(I.int k n).bD=true)∧(∀ n,(I.bool n).bD=true)∧(∀ n,(I.c7 n).bD=true)∧(∀ f fs,(I.func f fs).bD=I.bZ fs) ∧
  I.bZ []=true∧(∀ x xs,I.bZ (x::xs)=(x.bD&&I.bZ xs)) ∧
  (∀ rs r A,jS rs r .ret A=oh r (fk A rs))∧(∀ rs r A,jS rs r .normal A=oh r (fk A rs))∧(∀ r xs,oh r (some xs)=(ln xs=r))∧(∀ A,fk A []=some [])∧(∀ A t rs,fk A (.tmp t::rs)=lO (bl true A (A.t t)) (fk A rs)) ∧
  (∀ A a s rs,fk A (.cell a s::rs)=lO (r2 s A (gR A (A.t a))) (fk A rs))∧(∀ s A x,r2 s A (some x)=if b8 s x=true then bl true A x else none)∧(∀ x,ln [x]=x)∧(∀ x y xs,ln (x::y::xs)=.tuple (x::y::xs)) :=
 ⟨aaB,fun _ _=>rfl,aaF,fun _ _ _=>rfl,fun _ _ _ _ _ _=>rfl,fun _=>rfl,fun x=>by cases x <;>rfl,aaA,aau,aaw,aax,aav,aaE,aaz,aaD,aaC,aaI,aaH,fun _ _=>rfl,Wu,WA,Wz,Wy,Wv,WB,Ww,WE,WC,
  amm,aml,fun _ _=>rfl,amf,amg,ame,fun _ _ _=>rfl,fun _=>rfl,fun _ _ _=>rfl⟩
theorem AY :
  (∀ k a b,cJ .add (.int k a) (.int k b)=some (.int k (k.wrap (a+b))))∧(∀ k a b,cJ .sub (.int k a) (.int k b)=some (.int k (k.wrap (a-b))))∧(∀ k a b,cJ .mul (.int k a) (.int k b)=some (.int k (k.wrap (a*b)))) ∧
  (∀ k a b,cJ .quo (.int k a) (.int k b)=if b=0 then none else some (.int k (k.wrap (a.tdiv b))))∧(∀ k a b,cJ .rem (.int k a) (.int k b)=if b=0 then none else some (.int k (a.tmod b))) ∧
  (∀ k a b,cJ .and (.int k a) (.int k b)=some (.int k (k.wrap ((BitVec.ofInt k.bits a &&& BitVec.ofInt k.bits b).toNat:Int))))∧(∀ k a b,cJ .or (.int k a) (.int k b)=some (.int k (k.wrap ((BitVec.ofInt k.bits a ||| BitVec.ofInt k.bits b).toNat:Int)))) ∧
  (∀ k a b,cJ .xor (.int k a) (.int k b)=some (.int k (k.wrap ((BitVec.ofInt k.bits a ^^^ BitVec.ofInt k.bits b).toNat:Int))))∧(∀ k a b,cJ .andNot (.int k a) (.int k b)=some (.int k (k.wrap ((BitVec.ofInt k.bits a &&& ~~~ BitVec.ofInt k.bits b).toNat:Int)))) ∧
  (∀ k k' a b,cJ .shl (.int k a) (.int k' b)=if 0≤b then some (.int k (k.wrap (a*2^(min b.toNat k.bits)))) else none)∧(∀ k k' a b,cJ .shr (.int k a) (.int k' b)=if 0≤b then some (.int k (a.fdiv (2^(min b.toNat k.bits)))) else none) ∧
  (∀ k a b,cJ .eql (.int k a) (.int k b)=some (.bool (a==b)))∧(∀ k a b,cJ .neq (.int k a) (.int k b)=some (.bool (a != b)))∧(∀ k a b,cJ .lss (.int k a) (.int k b)=some (.bool (decide (a<b))))∧(∀ k a b,cJ .leq (.int k a) (.int k b)=some (.bool (decide (a≤b)))) ∧
  (∀ k a b,cJ .gtr (.int k a) (.int k b)=some (.bool (decide (b<a))))∧(∀ k a b,cJ .geq (.int k a) (.int k b)=some (.bool (decide (b≤a)))) :=
 ⟨R7,Sn,Sf,Sj,Sk,R8,Si,Sp,R9,Sl,Sm,Sa,Sg,Se,Sd,Sc,Sb⟩
end Go.Abs
namespace Go.Abs
open Go Go.RowKit
open Enc (enc)
section
variable {α:Type} [Enc α]
theorem ajG(A:ae)(l:List α):jK A (enc l)=some (.int .i64 l.length):=by simp[gG,jK]
theorem K4{A:ae}(esz:Nat){k:Int}{l:List α}(h:0≤k∧k.toNat<l.length)(hs:Enc.sz α=esz):iF A esz k (enc l)=some (.ref (enc l[k.toNat])):=by
 simp only[gG,iF,hs,zy2,true_and];rw[if_pos ⟨h.1,by omega⟩];simp[h.2]
theorem ft{A:ae}(esz:Nat){k:Nat}{l:List α}(h:k<l.length)(hs:Enc.sz α=esz):iF A esz k (enc l)=some (.ref (enc l[k])):=by
 have:=K4 (A:=A) esz (k:=(k:Int)) (l:=l) ⟨by omega,by simpa using h⟩ hs;simpa using this
theorem aW.lt{α:Type}{n:Nat}(x:aW n α){k:Nat}(h:k<n):k<x.l.length:=by rw[x.h];exact h
theorem jH{n:Nat}(esz:Nat){k:Nat}(x:aW n α){y:Option I}(h:k<n)(hs:Enc.sz α=esz):fN (k:Int) n (fM n esz (x.l.map enc) y)=y:=by
 simp only[fN,fM,wc n esz x.l x.h hs,if_true];rw[if_pos ⟨by omega,by omega⟩]
theorem gw{n:Nat}(esz:Nat){k:Int}(x:aW n α){y:Option I}(h:0≤k∧k<n)(hs:Enc.sz α=esz):fN k n (fM n esz (x.l.map enc) y)=y:=by
 simp only[fN,fM,wc n esz x.l x.h hs,if_true];rw[if_pos h]
theorem aiy{n k:Nat}(x:aW n α)(h:k<n):(x.l.map enc)[k]?=some (enc (x.l[k]'(x.lt h))):=by
 simp[x.lt h]
theorem R2{n k:Nat}{p:List Nat}{x:aW n α}(h:k<n):gu k p (some (x.l.map enc))=(enc (x.l[k]'(x.lt h))).at p:=by
 have hl:=x.lt h;simp[gu,pH,hl]
theorem alf(k:IntKind)(n:Int):hE none (some (.int k n))=some (.int k n):=by simp[hE,dQ,b8,I.isAgg]
theorem ald(b:Bool):hE none (some (.bool b))=some (.bool b):=by simp[hE,dQ,b8,I.isAgg]
theorem alg(z:Nat)(es:List I):hE none (some (.slice z es))=some (.slice z es):=by simp[hE,dQ,b8,I.isAgg]
theorem ale(f:FuncId)(es:List I):hE none (some (.func f es))=some (.func f es):=by simp[hE,dQ,b8,I.isAgg]
end
mutual
/-- What every value in memory keeps to: whole numbers within their kind,slices no longer than a slice can be. -/
def I.wf:I→Prop
 | .agg fs=>I.iB fs
 | .int k n=>k.min≤n∧n≤k.max
 | .c7 s=>s.size≤maxLen
 | .slice _ es=>es.length≤maxLen∧I.iB es
 | .ref c=>c.wf
 | .func _ caps=>I.iB caps
 | .iface _ v=>v.wf
 |_=>True
def I.iB:List I→Prop
 | []=>True
 |x::xs=>x.wf∧I.iB xs
end
mutual
theorem uu{w:World}{D:aR}{E:aZ} : ∀ (x:I) (cs:List Value),af w D E x cs→x.wf
 | .agg fs,cs,h=>by simp only[af,I.wf] at *;exact za fs cs h
 | .int k n,cs,h=>by simp only[af,I.wf] at *;exact h.2
 | .c7 s,cs,h=>by simp only[af,I.wf] at *;exact h.2
 | .slice sz es,cs,h=>by
  simp only[af,I.wf] at *;obtain ⟨a,cap,_,h1,h2,h3,_⟩:=h;refine ⟨by omega,?_⟩;rcases h3 with rfl | ⟨b,off,cs',_,_,h4⟩
  ·simp[I.iB]
  ·exact za es cs' h4
 | .ref c,cs,h=>by simp only[af,I.wf] at *;obtain ⟨b,off,cs',_,_,h⟩:=h;exact uu c cs' h
 | .func f caps,cs,h=>by simp only[af,I.wf] at *;obtain ⟨vs,_,h⟩:=h;exact uF caps vs h
 | .iface t v,cs,h=>by simp only[af,I.wf] at *;obtain ⟨u,cs',_,_,h⟩:=h;exact uu v cs' h
 | .bool _,_,_ | .nilp,_,_ | .dw,_,_ | .ea,_,_ | .raw _,_,_ | .nils _,_,_ | .c0 _,_,_ | .ptr _ _,_,_ | .own _ _,_,_ | .view _ _ _ _ _,_,_ | .mref _,_,_ | .dC _,_,_ | .cX _ _,_,_ | .undef,_,_ | .du,_,_ | .tuple _,_,_=>by simp[I.wf]
theorem za{w:World}{D:aR}{E:aZ} : ∀ (xs:List I) (cs:List Value),aI w D E xs cs→I.iB xs
 | [],_,_=>by simp[I.iB]
 |x::xs,cs,h=>by
  simp only[aI,I.iB] at *;obtain ⟨c1,c2,_,h1,h2⟩:=h;exact ⟨uu x c1 h1,za xs c2 h2⟩
theorem uF{w:World}{D:aR}{E:aZ} : ∀ (xs:List I) (vs:List Value),aH w D E xs vs→I.iB xs
 | [],_,_=>by simp[I.iB]
 |x::xs,vs,h=>by
  simp only[aH,I.iB] at *;obtain ⟨v,rest,cs,_,_,h1,h2⟩:=h;exact ⟨uu x cs h1,uF xs rest h2⟩
end
theorem anq{α:Type}[Enc α](l:List α):I.iB (l.map enc)↔∀ x∈l,(enc x:I).wf:=by
 induction l with
 |nil=>simp[I.iB]
 |cons x l ih=>simp[I.iB,ih]
theorem lC{α:Type}[Enc α](l:List α):(enc l:I).wf↔l.length≤maxLen∧∀ x∈l,(enc x:I).wf:=by
 simp only[gG,I.wf,zy2,anq]
theorem anp(n:Int):(enc n:I).wf↔-9223372036854775808≤n∧n≤9223372036854775807:=by
 change IntKind.i64.min≤n∧n≤IntKind.i64.max↔_
 simp[IntKind.min,IntKind.max,IntKind.bits,IntKind.signed]
theorem ay.wf{P:Program}{f:FuncId}{args:List I}{r:I}(hc:ij P f=true)(h:I.iB args→ay P f args r):ay P f args r :=
 ⟨hc,fun w D vs h1 h2=>(h (uF _ _ h2)).2 w D vs h1 h2⟩
theorem ay.bn{P:Program}{f:FuncId}{fn:Func}{x:aO}{rs:List a7}{args:List I}{r:I}(hf:P.funcs[f]?=some fn)(hcall:ij P f=true)(hc:(fn.body.bind (fr P fn.ntmps))=some x)
  (hrs:ji P fn.results.toList=some rs) (hn:args.length≤fn.ntmps) (h:I.iB args→∀ (w:World) (D:aR) (E:aZ),J ⟨P,w,D,fn.ntmps,dD E,E,iV,none⟩ x (jS rs r) (au (bg 0 args) [])):ay P f args r :=
 ay.wf hcall fun hw=>ay.mk hf hcall hc hrs hn (h hw)
theorem bd{α:Type}[Enc α] :
  (∀ A (l:List α),jK A (enc l)=some (.int .i64 l.length))∧(∀ n (x:aW n α),(enc x).dH=some (x.l.map enc)) :=
 ⟨ajG,fun _ _=>rfl⟩
theorem lh:(∀ k n,hE none (some (.int k n))=some (.int k n))∧(∀ b,hE none (some (.bool b))=some (.bool b))∧(∀ z es,hE none (some (.slice z es))=some (.slice z es))∧(∀ f es,hE none (some (.func f es))=some (.func f es)) :=
 ⟨alf,ald,alg,ale⟩
end Go.Abs
namespace Go.Abs
open Go Go.RowKit
open Enc (enc)
def qf(neg:Bool):I→Option I
 | .nils _=>some (.bool (!neg))
 | .slice _ es=>if es.isEmpty then none else some (.bool neg)
 | .view _ _ _ _ _=>some (.bool neg)
 |_=>none
def Lj:I→Option I
 | .c7 s=>some (.int .i64 s.size)
 |_=>none
open Classical in
noncomputable def pk(n:Nat)(p:List Nat)(sz l0 k esz:Nat)(lo hi mx:Option I):Option (List I)→Option I
 |some fs=>if sz=esz then iA n p sz l0 k fs.length lo hi mx else none
 |none=>none
noncomputable def pj(A:ae)(esz:Nat)(lo hi mx:Option I):I→Option I
 | .slice sz es=>if sz=esz then ke sz es lo hi mx else none
 | .nils sz=>if sz=esz then ke sz [] lo hi mx else none
 | .c0 sz=>if sz=esz then ke sz [] lo hi mx else none
 | .view n p sz l0 k=>pk n p sz l0 k esz lo hi mx (fE (ff p (A.o n)))
 |_=>none
open Classical in
noncomputable def iC(esz:Nat):Option (List I)→Option I
 |some es=>if (es.all fun e=>e.size==esz)=true∧I.bZ es=true then some (.slice esz es) else none
 |none=>none
open Classical in
noncomputable def qP(A:ae)(d:Option Nat)(e esz bytes n l T sz':Nat)(es:List I)(rest:List aB):I→cK
 | .slice sz ys=>if yD e esz bytes l sz ys T sz' es then aE rest ((A.aS n (.bY e esz (es++ys))).aP d (.own n (es.length+ys.length))) else .fail
 |_=>.fail
open Classical in
noncomputable def pE(A:ae)(d:Option Nat)(e esz bytes:Nat)(z:I)(n l T:Nat)(xs:List Int)(rest:List aB):I→cK
 | .slice _ ys=>if yE e esz bytes l ys T xs z then aE rest ((A.aS n (.cT e (xs++ry ys))).aP d (.own n (xs.length+ys.length))) else .fail
 |_=>.fail
noncomputable def qO(A:ae)(d:Option Nat)(e esz bytes:Nat)(z:I)(n l:Nat)(x:I)(rest:List aB):Option ah→cK
 |some (.bY T sz' es)=>qP A d e esz bytes n l T sz' es rest x
 |some (.cT T xs)=>pE A d e esz bytes z n l T xs rest x
 |_=>.fail
noncomputable def ic(A:ae)(d:Option Nat)(e esz bytes:Nat)(z x:I)(rest:List aB):I→cK
 | .own n l=>qO A d e esz bytes z n l x rest (A.o n)
 |s=>fw A d esz bytes z s (eI A esz s) (eI A esz x) (aE rest)
section
variable (d:Option Nat) (rest:List aB) (A:ae)
noncomputable def qg(neg:Bool)(x:I):Bool→cK
 |true=>.any (fun m=>m<2) (fun m=>aE rest (A.aP d (.bool (m==0))))
 |false=>cP (qf neg x) (di d rest A)
theorem akW(neg:Bool)(x:aJ):bQ A d (.nilS neg x) rest=qg d rest A neg (ab A x) (kj (ab A x)):=by
 simp only[bQ,bj,bu];cases kj (ab A x)
 ·simp only[zz6,if_false,qg,qf];cases ab A x <;>rfl
 ·rfl
theorem akO(x:aJ):bQ A d (.lenT x) rest=cP (Lj (ab A x)) (di d rest A):=by
 simp only[bQ,bj,bu];cases ab A x <;>rfl
theorem ak1(esz:Nat)(x:aJ)(lo hi mx:Option aJ):bQ A d (.sl esz x lo hi mx) rest=cP (pj A esz (lo.map (ab A)) (hi.map (ab A)) (mx.map (ab A)) (ab A x)) (di d rest A):=by
 simp only[bQ,bj,bu];cases ab A x <;>try rfl
 rename_i n p sz l0 k;simp only[pj,lS,gR];cases ff p (A.o n) with
 |none=>rfl
 |some c=>cases c <;>simp only[fE,I.dH,pk] <;>(first | rfl | (split <;>rfl))
theorem aky(T esz:Nat)(ps:List aJ):bQ A d (.bs T esz ps) rest=cP (iC esz (ca false A (ps.map (ab A)))) (di d rest A):=by
 simp only[bQ,bj,bu];cases ca false A (ps.map (ab A)) <;>simp only[iC] <;>rfl
theorem aku(e esz bytes:Nat)(z:I)(s x:aJ):bQ A d (.dF e esz bytes z s x) rest=ic A d e esz bytes z (ab A x) rest (ab A s):=by
 simp only[bQ,bj];generalize ab A s=s';generalize ab A x=x';cases s' <;>simp only[ic]
 rename_i n l;cases x' <;>simp only <;>generalize A.o n=z <;>(cases z with
  |none=>rfl
  |some y=>cases y <;>simp only[qO,qP,pE])
end
theorem Mq :
  (∀ d rest A neg x,bQ A d (.nilS neg x) rest=qg d rest A neg (ab A x) (kj (ab A x)))∧(∀ d rest A neg x,qg d rest A neg x false=cP (qf neg x) (di d rest A))∧(∀ z,kj (.nils z)=false)∧(∀ n p sz lo k,kj (.view n p sz lo k)=false)∧(∀ d rest A x,bQ A d (.lenT x) rest=cP (Lj (ab A x)) (di d rest A)) ∧
  (∀ d rest A esz x lo hi mx,bQ A d (.sl esz x lo hi mx) rest=cP (pj A esz (lo.map (ab A)) (hi.map (ab A)) (mx.map (ab A)) (ab A x)) (di d rest A)) ∧
  (∀ d rest A T esz ps,bQ A d (.bs T esz ps) rest=cP (iC esz (ca false A (ps.map (ab A)))) (di d rest A))∧(∀ d rest A e esz bytes z s x,bQ A d (.dF e esz bytes z s x) rest=ic A d e esz bytes z (ab A x) rest (ab A s)) ∧
  (∀ A d e esz bytes z x rest n l,ic A d e esz bytes z x rest (.own n l)=qO A d e esz bytes z n l x rest (A.o n))∧(∀ A d e esz bytes z n l x rest T sz es,qO A d e esz bytes z n l x rest (some (.bY T sz es))=qP A d e esz bytes n l T sz es rest x)∧(∀ A d e esz bytes z n l x rest T xs,qO A d e esz bytes z n l x rest (some (.cT T xs))=pE A d e esz bytes z n l T xs rest x) ∧
  (∀ neg z,qf neg (.nils z)=some (.bool (!neg))) :=
 ⟨akW,fun _ _ _ _ _=>rfl,fun _=>rfl,fun _ _ _ _ _=>rfl,akO,ak1,aky,aku,fun _ _ _ _ _ _ _ _ _ _=>rfl,fun _ _ _ _ _ _ _ _ _ _ _ _ _=>rfl,fun _ _ _ _ _ _ _ _ _ _ _ _=>rfl,fun _ _=>rfl⟩
theorem fA(p:Nat→Bool)(xs ys:List I):I.bT p (xs++ys)=(I.bT p xs&&I.bT p ys):=by
 induction xs with
 |nil=>simp[I.bT]
 |cons x xs ih=>simp[I.bT,ih,Bool.and_assoc]
section
variable {α:Type} [Enc α]
theorem nC{A:ae}{d:Option Nat}(e:Nat)(esz bytes n:Nat){l:Nat}{es ys:List α}{rest:List aB}(hl:l=es.length)(hs:Enc.sz α=esz)(hy:ys≠[])(h1:es.length+ys.length≤maxLen)(h2:(es.length+ys.length)*bytes≤140737488355328) :
  qP A d e esz bytes n l e esz (es.map enc) rest (enc ys)=aE rest ((A.aS n (.bY e esz ((es++ys).map enc))).aP d (.own n (es++ys).length)):=by
 simp only[gG,qP];rw[if_pos ⟨by simpa using hl,hs,rfl,rfl,by simpa using hy,by simpa using h1,by simpa using h2⟩];simp
theorem mM(esz:Nat){ys:List α}(hs:Enc.sz α=esz):iC esz (some (ys.map enc))=some (enc ys):=by
 have h1:((ys.map enc).all fun e:I=>e.size==esz)=true:=by
  simp only[zx2,zx9];rintro x ⟨y,_,rfl⟩;simp[Enc.size,hs]
 simp only[iC,gG];rw[if_pos ⟨h1,kR ys⟩,hs]
theorem qU(esz:Nat)(y:α)(hs:Enc.sz α=esz):iC esz (some [enc y])=some (enc [y]):=mM (ys:=[y]) esz hs
theorem mW(sz:Nat){T k:Nat}{es:List α}(hk:k=es.length)(hs:Enc.sz α=sz):oH k (some (.bY T sz (es.map enc)))=some (enc es):=by
 simp only[oH,zy2];rw[if_pos ⟨hk,kR es⟩,gG,hs]
theorem dy(p:Nat→Bool)(l:List α):I.bT p (l.map enc)=true:=by
 induction l with
 |nil=>rfl
 |cons x l ih=>simp only[zz8,I.bT,bh,ih,zw5]
theorem ajH(A:ae)(n k T sz:Nat)(es:List α)(ho:A.o n=some (.bY T sz (es.map enc)))(hk:k=es.length):jK A (.own n k)=some (.int .i64 es.length):=by
 simp only[jK,ho,zy2,hk,if_true]
end
theorem K1 :
  (∀ n:Int,iC 1 (some [.int .i64 n])=some (enc [n]))∧(∀ (T:Nat) (es:List Int),oH es.length (some (.bY T 1 (es.map enc)))=some (enc es)) :=
 ⟨fun n=>qU 1 n rfl,fun _ _=>mW 1 rfl rfl⟩
theorem aC.RF{A:ae}{d n T sz z:Nat}(hd:A.t d=.nils z)(hn:A.o n=none)(hlt:n<1000000):aC A ((A.aS n (.bY T sz [])).put d (.own n 0)):=by
 rintro c a w ⟨D,E,h⟩;have aw:E n=none:=by have:=h.bS n;rw[hn] at this;exact this
 have hl:dX w D E w D (fun m=>if m=n then some (.rw none 0) else E m):=by
  have eE:∀ {m:Nat} {e:bW},E m=some e→(if m=n then some (.rw none 0) else E m)=some e:=fun {m e} he=>by
   have:m≠n:=fun e=>by rw[e,aw] at he;cases he
   rw[if_neg this];exact he
  refine ⟨fun _ _ h=>h,fun _ _ _ _ h=>h,fun m b aQ he=>eE he,fun m aF l he =>?_,fun m b he=>eE he,fun m b he=>eE he,fun _ _ _ _ h=>h⟩
  ·have:m≠n:=fun e=>by rw[e,aw] at he;cases he
   exact ⟨aF,l,by simp only[if_neg this];exact he,zz7 _,fun _=>rfl⟩
 refine ⟨D,fun m=>if m=n then some (.rw none 0) else E m,h.sz,h.e8,fun t =>?_,h.eb,h.df,h.dv,fun m =>?_,fun m m' e e' b h1 h2 h3 h4 =>?_,fun m e hm =>?_,h.fj,h.cM,h.fp,h.fQ⟩
 ·simp only[ae.put,ae.aS];by_cases ht:t=d
  ·subst ht;simp only[if_true];have hv:=h.eA t;rw[hd] at hv;obtain ⟨cs,q1,q2⟩:=hv;simp only[af] at q2;subst q2;refine ⟨[.slice none 0 0],by simpa[bL,I.isAgg] using q1,?_⟩;simp only[af,if_true];exact ⟨none,0,rfl,zz7 _,⟨_,_,_,rfl⟩,fun _=>trivial⟩
  ·simp only[if_neg ht];exact aY.bN hl (h.eA t)
 ·simp only[ae.put,ae.aS];by_cases hm:m=n
  ·subst hm;simp only[if_true,dc];exact ⟨none,by simp,by simp,trivial⟩
  ·simp only[if_neg hm];exact (h.bS m).bN hl (by simp only[if_neg hm]) fun _ _ _ _=>⟨rfl,fun _ ho=>ho⟩
 ·by_cases hm:m=n <;>by_cases hm':m'=n
  ·rw[hm,hm']
  ·simp only[if_pos hm,u8] at h1;subst h1;simp[bW.aF] at h3
  ·simp only[if_pos hm',u8] at h2;subst h2;simp[bW.aF] at h4
  ·simp only[if_neg hm] at h1;simp only[if_neg hm'] at h2;exact h.cZ m m' e e' b h1 h2 h3 h4
 ·have hmn:m≠n:=fun e=>by rw[e,h.ku (.inr hlt)] at hm;cases hm
  simp only[if_neg hmn];exact h.ed m e hm
theorem aC.qM{ts:List (Nat×I)}{os:List (Nat×ah)}(d n T sz z:Nat)(hd:b7 ts d=.nils z)(hn:aj os n=none){B:ae}(h:aC (au ((d,.own n 0)::ts) ((n,.bY T sz [])::os)) B)(hlt:n<1000000:=by decide):aC (au ts os) B :=
 ((aC.RF (A:=au ts os) (T:=T) (sz:=sz) hd hn hlt).trans (by rw[oU,tM];exact aC.refl _)).trans h
def aW.g{n:Nat}(x:aW n Int)(k:Nat):Int:=x.l.getD k 0
theorem aW.tn{n k:Nat}(x:aW n Int)(h:k<n):x.l[k]'(x.lt h)=x.g k:=by simp[aW.g,x.lt h]
theorem eW{n k:Nat}{p:List Nat}(x:aW n Int)(h:k<n):gu k p (some (x.l.map enc))=(I.int .i64 (x.g k)).at p:=by
 rw[R2 h,x.tn h];rfl
theorem rp{n k:Nat}(x:aW n Int)(h:k<n):(x.l.map (enc (α:=Int)))[k]?=some (I.int .i64 (x.g k)):=by
 rw[aiy x h,x.tn h];rfl
theorem Mg:(∀ k n,b8 none (.int k n)=true)∧(∀ b,b8 none (.bool b)=true)∧(∀ z es,b8 none (.slice z es)=true)∧(∀ f es,b8 none (.func f es)=true)∧(∀ z,b8 none (.nils z)=true)∧(∀ n k,b8 none (.own n k)=true) :=
 ⟨fun _ _=>rfl,fun _=>rfl,fun _ _=>rfl,fun _ _=>rfl,fun _=>rfl,fun _ _=>rfl⟩
theorem qN{p:Nat→Bool}{n:Nat}(h:∀ k,k<n→p k=true):(List.range n).all p=true:=by
 simp only[zx2,zw1];exact h
theorem oB{p:Nat→Bool}{n:Nat}(i:Nat)(hi:i<n)(h:p i=false):(List.range n).all p=false:=by
 simp only[List.all_eq_false,zw1];exact ⟨i,hi,by simp[h]⟩
theorem U:(type_of% @pD)∧(type_of% @Mp)∧(type_of% @Mq)∧(type_of% @K1)∧(type_of% @Mg)∧(type_of% @PU)∧(type_of% @Er)∧(type_of% @AY)∧(∀ n:Int,(enc n:I)=.int .i64 n)∧(∀ n:Bool,(enc n:I)=.bool n) ∧
  (∀ {α β:Type} (f:α→β) (x:α) (xs:List α),List.map f (x::xs)=f x::List.map f xs)∧(∀ {α β:Type} (f:α→β),List.map f []=[])∧(∀ {α:Type} (xs:List α),[]++xs=xs)∧(∀ n:Nat,(n:Int).toNat=n)∧(∀ {α β:Type} (f:α→β) (x:α),Option.map f (some x)=some (f x)) ∧
  (∀ n:Nat,0≤(n:Int))∧((!true)=false)∧((!false)=true)∧((false=true)=False)∧((true=false)=False) :=
 ⟨@pD,@Mp,@Mq,@K1,@Mg,@PU,@Er,@AY,gT,D5,fun _ _ _=>rfl,fun _=>rfl,fun _=>rfl,fun _=>rfl,fun _ _=>rfl,fun n=>Int.natCast_nonneg n,rfl,rfl,by simp,by simp⟩
end Go.Abs
namespace Go.Abs
open Go Go.RowKit
open Enc (enc)
theorem kN.bn{P:Program}{f:FuncId}{fn:Func}{x:aO}{rs:List a7}{Y:Value→List I→List (Nat×ah)→cO→Prop}{args:List I}{os:List (Nat×ah)}{post:cO}(hf:P.funcs[f]?=some fn)(hcall:ij P f=true)(hc:(fn.body.bind (fr P fn.ntmps))=some x)
  (hrs:ji P fn.results.toList=some rs) (hn:args.length≤fn.ntmps) (hn2:fn.ntmps≤1000000) (hos:∀ m,al os m=true→1000000≤m) (h:I.iB args→∀ (w:World) (D:aR) (E:aZ),J ⟨P,w,D,fn.ntmps,dD E,E,Y,none⟩ x (og rs post) (au (bg 0 args) os)):kN P f Y args os post:=by
 obtain ⟨body,hb,hc'⟩:=Option.bind_eq_some_iff.1 hc;refine ⟨hcall,fun w D E vs hy hD ho hv =>?_⟩;exact (kN.tY hf hb hcall hc' hrs hn (fun m hm=>⟨zu1 hn2 (hos m hm),hos m hm⟩) (fun w D E=>(h (uF _ _ hv) w D E).sub (PD args os))).2 w D E vs hy hD ho hv
theorem cC.bn{P:Program}{f:FuncId}{fn:Func}{x:aO}{rs:List a7}{args:List I}{os:List (Nat×ah)}{post:cO}(hf:P.funcs[f]?=some fn)(hcall:ij P f=true)(hc:(fn.body.bind (fr P fn.ntmps))=some x)
  (hrs:ji P fn.results.toList=some rs) (hn:args.length≤fn.ntmps) (hn2:fn.ntmps≤1000000) (hos:∀ m,al os m=true→1000000≤m) (h:I.iB args→∀ (w:World) (D:aR) (E:aZ),J ⟨P,w,D,fn.ntmps,dD E,E,iV,none⟩ x (og rs post) (au (bg 0 args) os)):cC P f args os post :=
 cC.LU (kN.bn hf hcall hc hrs hn hn2 hos h)
theorem oM{A:ae} : ∀ n x,aj [] n=some x→A.o n=some x∧x.only (al [])=true∧x.eX=true:=fun n x h=>by simp[aj] at h
theorem jG{A:ae}{k:Nat}{c:I}(h1:A.o k=some (.box c))(h2:∀ p,c.only p=true):∀ n x,aj [(k,.box c)] n=some x→A.o n=some x∧x.only (al [(k,.box c)])=true∧x.eX=true:=fun n x h=>by
 simp only[aj] at h;split at h
 ·rename_i hn;subst hn;simp only[u8] at h;subst h;exact ⟨h1,h2 _,rfl⟩
 ·cases h
theorem eh.nil{aA:Bool}{ρ:List (Nat×Nat)}{os0:List (Nat×ah)}{r:I}(h1:∀ p,r.only p=true)(h2:aA=true→r.c6=true):eh aA ρ [] os0 r [] :=
 ⟨fun m x h=>by simp[aj] at h,fun m m' h=>by simp[al,aj] at h,fun m h=>by simp[al,aj] at h,fun m h=>by simp[al,aj] at h,h1 _,h2⟩
theorem cE{k:Nat}{x:ah}{m:Nat} : al [(k,x)] m=true↔m=k:=by
 simp only[al,aj];split <;>simp_all
theorem eh.qe{aA:Bool}{k d:Nat}{os0:List (Nat×ah)}{r c:I}(h1:∀ p,c.only p=true)(h2:aA=true→c.c6=true)(h3:r.only (al [(k,.box c)])=true)(h4:aA=true→r.c6=true)(h5:aj os0 d=none)(h6:d<1000000):eh aA [(k,d)] [] os0 r [(k,.box c)]:=by
 refine ⟨fun m x h =>?_,fun m m' h h' _ =>?_,fun m h=>by simp[al,aj] at h,fun m h _ =>?_,h3,h4⟩
 ·simp only[aj] at h;split at h
  ·simp only[u8] at h;subst h;exact ⟨h1 _,rfl,h2⟩
  ·cases h
 ·rw[cE.1 h,cE.1 h']
 ·rw[cE.1 h];simp[bA,h5,h6]
theorem eh.one{aA:Bool}{k d:Nat}{x:ah}{os0:List (Nat×ah)}{r c:I}(h1:∀ p,c.only p=true)(h2:aA=true→c.c6=true)(h3:r.only (al [(k,.box c)])=true)(h4:aA=true→r.c6=true):eh aA [(k,d)] [(k,x)] os0 r [(k,.box c)]:=by
 refine ⟨fun m x h =>?_,fun m m' h h' _ =>?_,fun m h =>?_,fun m h h' =>?_,h3,h4⟩
 ·simp only[aj] at h;split at h
  ·simp only[u8] at h;subst h;exact ⟨h1 _,rfl,h2⟩
  ·cases h
 ·rw[cE.1 h,cE.1 h']
 ·rw[cE.1 h];exact cE.2 rfl
 ·rw[cE.1 h] at h';have:al [(k,x)] k=true:=cE.2 rfl;rw[this] at h';cases h'
theorem fT.nil{ρ:List (Nat×Nat)}{os0:List (Nat×ah)} : fT ρ [] os0:=⟨fun m x h=>by simp[aj] at h,fun m m' h=>by simp[al,aj] at h⟩
mutual
theorem rX(ρ:Nat→Nat):∀ x:I,x.bD=true→x.aN ρ=x
 | .agg fs,h=>by simp only[I.aN,I.bD] at *;rw[o8 ρ fs h]
 | .slice _ es,h=>by simp only[I.aN,I.bD] at *;rw[o8 ρ es h]
 | .ref x,h=>by simp only[I.aN,I.bD] at *;rw[rX ρ x h]
 | .func _ caps,h=>by simp only[I.aN,I.bD] at *;rw[o8 ρ caps h]
 | .iface _ v,h=>by simp only[I.aN,I.bD] at *;rw[rX ρ v h]
 | .bool _,_ | .int _ _,_ | .c7 _,_ | .nilp,_ | .dw,_ | .ea,_ | .raw _,_ | .nils _,_ | .c0 _,_=>by simp only[I.aN]
 | .cX ks vs,h=>by simp only[I.aN,I.bD,zz2] at *;rw[o8 ρ ks h.1,o8 ρ vs h.2]
 | .ptr _ _,h | .own _ _,h | .view _ _ _ _ _,h | .mref _,h | .dC _,h | .undef,h | .du,h | .tuple _,h=>by simp[I.bD] at h
theorem o8(ρ:Nat→Nat):∀ xs:List I,I.bZ xs=true→I.cQ ρ xs=xs
 | [],_=>rfl
 |x::xs,h=>by
  simp only[I.bZ,zz2] at h;simp only[I.cQ,rX ρ x h.1,o8 ρ xs h.2]
end
theorem gK :
  (∀ (k:IntKind) n (ρ:Nat→Nat),(I.int k n).aN ρ=.int k n)∧(∀ (b:Bool) (ρ:Nat→Nat),(I.bool b).aN ρ=.bool b)∧(∀ n p (ρ:Nat→Nat),(I.ptr n p).aN ρ=.ptr (ρ n) p) ∧
  (∀ n p sz lo k (ρ:Nat→Nat),(I.view n p sz lo k).aN ρ=.view (ρ n) p sz lo k)∧(∀ fs (ρ:Nat→Nat),(I.agg fs).aN ρ=.agg (I.cQ ρ fs))∧(∀ fs (ρ:Nat→Nat),(I.tuple fs).aN ρ=.tuple (I.cQ ρ fs))∧(∀ f fs (ρ:Nat→Nat),(I.func f fs).aN ρ=.func f (I.cQ ρ fs)) ∧
  (∀ ρ:Nat→Nat,I.cQ ρ []=[])∧(∀ (ρ:Nat→Nat) x xs,I.cQ ρ (x::xs)=x.aN ρ::I.cQ ρ xs)∧(∀ (ρ:Nat→Nat) (x:I),(ah.box x).aN ρ=.box (x.aN ρ)) ∧
  (∀ (z:Nat) (ρ:Nat→Nat),(I.nils z).aN ρ=.nils z)∧(∀ (z:Nat) (ρ:Nat→Nat),(I.c0 z).aN ρ=.c0 z) ∧
  (∀ n,bA [] n=n)∧(∀ a b r n,bA ((a,b)::r) n=if n=a then b else bA r n)∧(∀ ρ,dI ρ []=[])∧(∀ ρ k x os,dI ρ ((k,x)::os)=(bA ρ k,x.aN (bA ρ))::dI ρ os) :=
 ⟨fun _ _ _=>by simp only[I.aN],fun _ _=>by simp only[I.aN],fun _ _ _=>by simp only[I.aN],fun _ _ _ _ _ _=>by simp only[I.aN],fun _ _=>by simp only[I.aN],fun _ _=>by simp only[I.aN],fun _ _ _=>by simp only[I.aN],
  fun _=>rfl,fun _ _ _=>by simp only[I.cQ],fun _ _=>rfl,fun _ _=>by simp only[I.aN],fun _ _=>by simp only[I.aN],fun _=>rfl,fun _ _ _ _=>rfl,fun _=>rfl,fun _ _ _ _=>rfl⟩
section
variable {α:Type} [Enc α]
theorem j4(ρ:Nat→Nat)(x:α):(enc x).aN ρ=enc x:=rX ρ _ (dG x)
theorem fB(ρ:Nat→Nat)(l:List α):I.cQ ρ (l.map enc)=l.map enc:=o8 ρ _ (kR l)
class ox (α:Type) [Enc α]:Prop where
 c6:∀ x:α,(enc x).c6=true
theorem D6[ox α](x:α):(enc x).c6=true:=ox.c6 x
theorem tB[ox α](l:List α):I.jq (l.map enc)=true:=by
 induction l with
 |nil=>rfl
 |cons x l ih=>simp only[zz8,I.jq,D6,ih,zw5]
instance:ox Int:=⟨fun _=>rfl⟩
instance {n:Nat} [ox α]:ox (aW n α):=⟨fun x=>by simp only[enc,I.c6];exact tB x.l⟩
theorem zy(A:ae)(esz:Nat)(l:List α)(hs:Enc.sz α=esz):eI A esz (enc l)=some (l.map enc):=by
 simp only[gG,eI,hs,if_true]
theorem uQ(l:List α):kj (enc l)=l.isEmpty:=by
 simp only[gG,kj];cases l <;>rfl
theorem LK(neg:Bool)(l:List α)(h:l≠[]):qf neg (enc l)=some (.bool neg):=by
 simp only[gG,qf];cases l with
 |nil=>exact absurd rfl h
 |cons=>rfl
section
variable {P:Program} {Y:Value→List I→List (Nat×ah)→cO→Prop} {K:ae→Prop} {A:ae} {rest:List aB} {d:Nat} {e esz bytes:Nat} {q:Nat}
theorem bt.AM(z:α){l:List α}(hs:Enc.sz α=esz)(hl:l≠[])(hf:A.o d=none)(hb:l.length*bytes≤140737488355328)(hml:l.length≤maxLen)
  (h:∀ m,bt P Y false K (aE rest ((A.aS d (.box (.agg ((l++List.replicate m z).map enc)))).aP (some d) (.view d [] esz 0 l.length)))):bt P Y false K (ic A (some d) e esz bytes (enc z) (enc l) rest (.c0 q)):=by
 have hne:l.map (enc (α:=α))≠[]:=by simpa using hl
 have h1:eI A esz (.c0 q)=some []:=rfl;simp only[ic,h1,zy A esz l hs,fw,if_neg hne,ib,hf,zu2,zz4,zy2,if_pos (v6 hb hml),zy3];refine .any rfl fun m _ =>?_;have:=h m;simp only[zx5,List.map_replicate] at this;exact this
theorem anK(z:I)(hs:Enc.sz α=esz):ic A (some d) e esz bytes z (enc ([]:List α)) rest (.c0 q)=aE rest (A.aP (some d) (.c0 q)):=by
 have h1:eI A esz (.c0 q)=some []:=rfl;simp only[ic,h1,zy A esz ([]:List α) hs,fw,zx1,if_true]
theorem akC(esz:Nat)(z:I)(x:aJ)(rest:List aB)(A:ae):bQ A none (.iQ esz z x) rest=nF A esz z (aE rest) (ab A x):=rfl
theorem amD(z:α)(k:Nat):I.cS (List.replicate k (enc z))=List.replicate k (Enc.aQ α):=by
 have:List.replicate k (enc z)=(List.replicate k z).map (enc (α:=α)):=by simp
 rw[this,r6];simp
theorem qX(z:α){n lo k:Nat}{xs:List α}(ho:A.o n=some (.box (.agg (xs.map enc))))(hk:lo+k≤xs.length) :
  nF A esz (enc z) (aE rest) (.view n [] esz lo k)=aE rest (A.aS n (.box (.agg ((xs.take lo++(List.replicate k z++xs.drop (lo+k))).map enc)))):=by
 have h1:I.cS (List.replicate k (enc z))=I.cS (((xs.map (enc (α:=α))).drop lo).take k):=by
  rw[amD,←List.map_drop,←List.map_take,r6,zy7,zy9]
  congr 1;omega
 have h2:(I.agg (xs.map (enc (α:=α)))).at []=some (.agg (xs.map enc)):=rfl;simp only[nF,ho,h2];rw[if_pos ⟨rfl,h1⟩];simp only[jc,fI,zx5,List.map_take,List.map_drop,List.map_replicate,zv4]
theorem r7{n:Nat}{p:List Nat}{sz k total i:Nat}(h:i≤total)(h0:0<total):iA n p sz 0 k total none (some (.int .i64 i)) none=some (.view n p sz 0 i):=by
 simp only[iA,iP];rw[if_pos ⟨by omega,by omega,by omega⟩,if_neg (by omega)];simp
theorem qx{n:Nat}{p:List Nat}{sz k total i:Nat}(h:i≤k)(hk:k≤total)(h0:i<total):iA n p sz 0 k total (some (.int .i64 i)) none none=some (.view n p sz i (k-i)):=by
 simp only[iA,iP];rw[if_pos ⟨by omega,by omega,by omega⟩,if_neg (by omega)];simp
theorem xV{m:Nat}{p:List Nat}{sz lo l j:Nat}{fs:List I}(h:j<l):mb m p sz lo l sz (j:Int) (some fs)=some (.ptr m (p++[lo+j])):=by
 simp only[mb,true_and];rw[if_pos ⟨by omega,by omega⟩];simp
theorem rl{sz k:Nat}{xs:List α}(hs:Enc.sz α=sz):lY sz 0 k (some (xs.map enc))=some (enc (xs.take k)):=by
 have h:((xs.map (enc (α:=α))).drop 0).take k=(xs.take k).map enc:=by rw[List.drop_zero,List.map_take]
 simp only[lY,h];rw[if_pos (kR _),gG,hs]
end
end
theorem aji(A:ae)(esz m:Nat)(p:List Nat)(sz lo l:Nat)(k:Int):iF A esz k (.view m p sz lo l)=mb m p sz lo l esz k (fE (ff p (A.o m))):=rfl
theorem ajI(A:ae)(m:Nat)(p:List Nat)(sz lo l:Nat):jK A (.view m p sz lo l)=some (.int .i64 l):=rfl
theorem amG(A:ae)(esz:Nat)(lo hi mx:Option I)(n:Nat)(p:List Nat)(l0 k:Nat):pj A esz lo hi mx (.view n p esz l0 k)=pk n p esz l0 k esz lo hi mx (fE (ff p (A.o n))):=rfl
theorem amH(n:Nat)(p:List Nat)(sz l0 k:Nat)(lo hi mx:Option I)(fs:List I):pk n p sz l0 k sz lo hi mx (some fs)=iA n p sz l0 k fs.length lo hi mx:=by simp[pk]
theorem dj :
  (∀ A esz m p sz lo l k,iF A esz k (.view m p sz lo l)=mb m p sz lo l esz k (fE (ff p (A.o m))))∧(∀ A m p sz lo l,jK A (.view m p sz lo l)=some (.int .i64 l)) ∧
  (∀ A esz lo hi mx n p l0 k,pj A esz lo hi mx (.view n p esz l0 k)=pk n p esz l0 k esz lo hi mx (fE (ff p (A.o n))))∧(∀ n p sz l0 k lo hi mx fs,pk n p sz l0 k sz lo hi mx (some fs)=iA n p sz l0 k fs.length lo hi mx) ∧
  (∀ esz z x rest A,bQ A none (.iQ esz z x) rest=nF A esz z (aE rest) (ab A x))∧(∀ rest A d esz,bQ A d (.bs0 esz) rest=aE rest (A.aP d (.c0 esz))) :=
 ⟨aji,ajI,amG,amH,akC,fun _ _ _ _=>rfl⟩
theorem eY(rs:List a7)(post:cO)(A:ae):og rs post .ret A=lG rs post A:=rfl
theorem mu(rs:List a7)(post:cO)(A:ae):og rs post .normal A=lG rs post A:=rfl
theorem aC.iE{ts:List (Nat×I)}{os0:List (Nat×ah)}(ns:List Nat)(d:Nat){x y:I}(hd:b7 ts d=x)(h:bl true (au ts (iU ns os0)) x=some y)(ho:a6 (fun n => !ns.contains n) (cW ns os0)) :
  aC (au ts os0) (au ((d,y)::gU ns ts) (cW ns os0)):=by
 rintro c a w ⟨D,E,hs⟩;obtain ⟨D1,E1,hs1,hw⟩:=hs.EJ ns ho;have hu:eC (au ts (iU ns os0)) (au ts os0):=fun n z hz=>by
  simp only[au,oS] at hz ⊢;split at hz
  ·exact hz
  ·cases hz
 have hx:x.cm=true:=by cases x <;>first | rfl | simp[bl] at h
 have hv:=hs.eA d;simp only[au] at hv;rw[hd] at hv;have h1:aH w D E [x] [a.tmps.getD d undef]:=nq [x] _ (.cons hv .nil) (by intro z hz;simp only[List.mem_singleton] at hz;subst hz;exact hx);have h2:=mX (E':=E1) hs hu hw [x] [y] _ h1 (by simp only[ca,h]);have h3:aY w D1 E1 y (a.tmps.getD d undef):=by
  simp only[aH] at h2;obtain ⟨v',rest,cs,e,k1,k2,_⟩:=h2;simp only[List.cons.injEq] at e;obtain ⟨e1,_⟩:=e;rw[e1];exact m9 k1 k2
 refine ⟨D1,E1,hs1.sz,hs1.e8,fun t =>?_,hs1.eb,hs1.df,hs1.dv,hs1.bS,hs1.cZ,hs1.ed,hs1.fj,hs1.cM,hs1.fp,hs1.fQ⟩;simp only[au,b7];split
 ·rename_i ht;subst ht;exact h3
 ·exact hs1.eA t
theorem aC.rn{ts ts':List (Nat×I)}{os0 os':List (Nat×ah)}(ns:List Nat)(d:Nat){x y:I}(hd:b7 ts d=x)(h:bl true (au ts (iU ns os0)) x=some y)(ho:a6 (fun n => !ns.contains n) (cW ns os0))
  (h1:aT ((d,y)::gU ns ts) ts') (h2:bC (cW ns os0) os') (h3:bB (al os') ts') (h4:a6 (al os') os'):aC (au ts os0) (au ts' os') :=
 (aC.iE ns d hd h ho).trans (aC.bI h1 h2 h3 h4)
theorem J.zR{c:cU}{Q:Exit→ae→Prop}{A:ae}{x:aO}(T:ae)(h1:J c x (ar (fun B=>aC B T) fun _ _=>False) A)(h2:∀ B,aC B T→Q .normal B):J c x Q A :=
 h1.mono fun e B hq=>by
  cases e <;>simp only[ar] at hq <;>first
   |exact h2 B hq
   |exact hq.elim
theorem OJ{w:World}{D:aR}{E:aZ}{p:List Nat}{c x y:I}{cs:List Value}(hr:af w D E c cs)(h:c.at p=some x)(hxy:∀ ds,af w D E x ds→af w D E y ds)(hs:y.aQ=x.aQ):af w D E (c.dO p y) cs∧(c.dO p y).aQ=c.aQ:=by
 obtain ⟨off,c1,c2,c3,h1,rfl,h2,h3⟩:=y9 p c x cs hr h;obtain ⟨off',k1,k2,k3,k4⟩:=ur p c x y _ c2 hr h (hxy c2 h3) hs;rw[h1,u8] at k1;subst k1;refine ⟨?_,k4⟩;have e:(c1++c2++c3).take off++c2++(c1++c2++c3).drop (off+c2.length)=c1++c2++c3:=by
  rw[zz5 c1 c2 c3,←h2,List.take_left,List.drop_length_add_append,List.drop_left,zz5]
 rw[←e];exact k3
theorem aC.RG{A:ae}{m n T sz z:Nat}{p:List Nat}{b:I}(hm:A.o m=some (.box b))(hp:b.at p=some (.nils z))(hn:A.o n=none)(hlt:n<1000000):aC A ((A.aS n (.bY T sz [])).aS m (.box (b.dO p (.own n 0)))):=by
 rintro c a w ⟨D,E,h⟩;have aw:E n=none:=by have:=h.bS n;rw[hn] at this;exact this
 have hmn:m≠n:=fun e=>by rw[e,hn] at hm;cases hm
 have hl:dX w D E w D (fun m=>if m=n then some (.rw none 0) else E m):=by
  have eE:∀ {m:Nat} {e:bW},E m=some e→(if m=n then some (.rw none 0) else E m)=some e:=fun {m e} he=>by
   have:m≠n:=fun e=>by rw[e,aw] at he;cases he
   rw[if_neg this];exact he
  refine ⟨fun _ _ h=>h,fun _ _ _ _ h=>h,fun m b aQ he=>eE he,fun m aF l he =>?_,fun m b he=>eE he,fun m b he=>eE he,fun _ _ _ _ h=>h⟩
  ·have:m≠n:=fun e=>by rw[e,aw] at he;cases he
   exact ⟨aF,l,by simp only[if_neg this];exact he,zz7 _,fun _=>rfl⟩
 refine ⟨D,fun m=>if m=n then some (.rw none 0) else E m,h.sz,h.e8,fun t=>aY.bN hl (h.eA t),h.eb,h.df,h.dv,fun k =>?_,fun m m' e e' b h1 h2 h3 h4 =>?_,fun m e hm =>?_,h.fj,h.cM,h.fp,h.fQ⟩
 ·simp only[ae.aS];by_cases hk:k=m
  ·subst hk;have ho:=h.bS k;rw[hm] at ho;obtain ⟨b',cs,T',h1,h2,h3,h4,h5⟩:=ho;obtain ⟨q1,q2⟩:=OJ (y:=.own n 0) (af.bN hl _ _ h4) hp (fun ds hd=>by
    simp only[af] at hd;subst hd;simp only[af,if_true];exact ⟨none,0,rfl,zz7 _,⟨_,_,_,rfl⟩,fun _=>trivial⟩) rfl
   simp only[if_true,dc];exact ⟨b',cs,T',by rw[q2];simp only[if_neg hmn];exact h1,h2,h3,q1,h5⟩
  ·simp only[if_neg hk];by_cases hkn:k=n
   ·subst hkn;simp only[if_true,dc];exact ⟨none,by simp,by simp,trivial⟩
   ·simp only[if_neg hkn];exact (h.bS k).bN hl (by simp only[if_neg hkn]) fun _ _ _ _=>⟨rfl,fun _ ho=>ho⟩
 ·by_cases hm:m=n <;>by_cases hm':m'=n
  ·rw[hm,hm']
  ·simp only[if_pos hm,u8] at h1;subst h1;simp[bW.aF] at h3
  ·simp only[if_pos hm',u8] at h2;subst h2;simp[bW.aF] at h4
  ·simp only[if_neg hm] at h1;simp only[if_neg hm'] at h2;exact h.cZ m m' e e' b h1 h2 h3 h4
 ·have hmn:m≠n:=fun e=>by rw[e,h.ku (.inr hlt)] at hm;cases hm
  simp only[if_neg hmn];exact h.ed m e hm
theorem aC.vi{ts:List (Nat×I)}{os:List (Nat×ah)}(m n T sz z:Nat)(p:List Nat)(b:I)(hm:aj os m=some (.box b))(hp:b.at p=some (.nils z))(hn:aj os n=none){B:ae}(h:aC (au ts ((m,.box (b.dO p (.own n 0)))::(n,.bY T sz [])::os)) B)(hlt:n<1000000:=by decide):aC (au ts os) B :=
 ((aC.RG (A:=au ts os) (T:=T) (sz:=sz) hm hp hn hlt).trans (by rw[oU,oU];exact aC.refl _)).trans h
end Go.Abs
