/-
  A part of the proof that the law MarchChecks returns true for every input; three tables of Go's library start as the text lays them (the card ties them); conditions: none beyond the statement's own. (part 2 of 6)
-/
import Derived.Maps.RangeRun
import Derived.Laws.MakeOwn
import Derived.Orders
import Derived.OrdersIn
import Derived.Test.YthbdbocionnfgaaGreatDoorNaa
set_option linter.unusedSimpArgs false
set_option linter.unusedVariables false
set_option maxHeartbeats 16000000
set_option maxRecDepth 100000
namespace Go.Abs
open Go Go.RowKit
theorem Ai{w:World}{D:aP}{E:aY} : ∀ (l:List cz) (xs ys:List I) (cs ds:List Value),l.all vH=true→gV l xs ys=some true→aM w D E xs cs→aM w D E ys ds→xs=ys∧cs=ds∧∀ v∈cs,∃ k n,v=.int k n
 | [],xs,ys,cs,ds,_,h,hx,hy=>by
  simp only[gV] at h;split at h
  ·simp only[aM] at hx hy;subst hx hy;exact ⟨rfl,rfl,fun v hv=>by simp at hv⟩
  ·cases h
 |t::ts,xs,ys,cs,ds,ha,h,hx,hy=>by
  simp only[List.all_cons,t8] at ha;simp only[gV] at h;split at h
  case h_2=>cases h
  rename_i f fs g gs;unfold iM at h;split at h
  case h_2=>cases h
  rename_i a b J U;simp only[v6,t8] at h;obtain ⟨rfl,rfl⟩:=h;simp only[aM] at hx hy;obtain ⟨c1,c2,rfl,p1,p2⟩:=hx;obtain ⟨d1,d2,rfl,q1,q2⟩:=hy;obtain ⟨rfl,rfl,k3⟩:=Ai ts fs gs c2 d2 ha.2 U p2 q2;cases t with
  |i k =>
   simp only[bX] at J;split at J
   case h_2=>cases J
   rename_i k1 a k2 b;split at J
   case isFalse=>cases J
   rename_i hk;simp only[v6,beq_iff_eq] at J;subst J;obtain ⟨rfl,rfl⟩:=hk;simp only[al] at p1 q1;obtain ⟨rfl,_⟩:=p1;obtain ⟨rfl,_⟩:=q1;refine ⟨rfl,rfl,fun v hv =>?_⟩;rcases X5.1 hv with hv | hv
   ·simp at hv;exact ⟨_,_,hv⟩
   ·exact k3 v hv
  |b | s | bd _ | pL _ _=>simp[vH] at ha
theorem Er:∀ (cs:List Value) (n:Nat),(∀ v∈cs,∃ k m,v=.int k m)→((cs.zip cs).all fun (x,y)=>Instr.sameBits n x y)=true
 | [],_,_=>rfl
 |v::cs,n,h=>by
  obtain ⟨k,m,rfl⟩:=h v (by simp);simp only[List.zip_cons_cons,List.all_cons,t8];exact ⟨by cases n <;>simp[Instr.sameBits],Er cs n fun v hv=>h v (by simp[hv])⟩
theorem Ul{P:Program}{t:TypeId}{ty:cz}{w:World}{D:aP}{E:aY}{x y:I}{u v:Value}(hk:jC P t=some ty)(h:bX ty x y=some true)(hx:aZ w D E x u)(hy:aZ w D E y v):x=y∧u=v∧Instr.sameBits 10000 u v=true:=by
 unfold jC at hk;split at hk
 ·rename_i k hu;simp only[v6] at hk;subst hk;simp only[bX] at h;split at h
  case h_2=>cases h
  split at h
  case isFalse=>cases h
  rename_i hk;simp only[v6,beq_iff_eq] at h;subst h;obtain ⟨rfl,rfl⟩:=hk;rw[(eQ hx).1,(eQ hy).1];exact ⟨rfl,rfl,by simp[Instr.sameBits]⟩
 ·rename_i fs hu;split at hk
  case h_2=>cases hk
  rename_i l ao;split at hk
  case isFalse=>cases hk
  rename_i hc;simp only[v6] at hk;subst hk;simp only[bX] at h;split at h
  case h_2=>cases h
  rename_i xs ys;obtain ⟨cs,rfl,hc1⟩:=iU hx;obtain ⟨ds,rfl,hd1⟩:=iU hy;obtain ⟨rfl,rfl,ah⟩:=Ai l xs ys cs ds hc.1 h hc1 hd1;refine ⟨rfl,rfl,?_⟩;simp only[Instr.sameBits,beq_self_eq_true,Bool.true_and];exact Er cs _ ah
 ·cases hk
section
variable {P:Program} {w:World} {D:aP} {E:aY}
theorem uI{t:TypeId}{ty:cz}{em:Bool}{x y:I}{v:Value}{r:Bool}(hk:jC P t=some ty)(hx:aZ w D E x v)(h:bX ty x y=some r)(n:Nat):(Instr.checkKey em (n+2) t v).run P w=.ok () w:=by
 unfold jC at hk;split at hk
 ·rename_i k hu;simp only[v6] at hk;subst hk;simp only[bX] at h;split at h
  case h_2=>cases h
  rename_i k1 a k2 b;split at h
  case isFalse=>cases h
  rename_i hq;rw[(eQ hx).1,hq.1];exact MapKept.run_checkKey hu (by simp[MapKept.IsKey]) em (n+1)
 ·rename_i fs hu;split at hk
  case h_2=>cases hk
  rename_i l ao;split at hk
  case isFalse=>cases hk
  rename_i hc;simp only[v6] at hk;subst hk;simp only[bX] at h;split at h
  case h_2=>cases h
  rename_i xs ys;obtain ⟨cs,rfl,hc1⟩:=iU hx;obtain ⟨d,af⟩:∃ d,d=11:=⟨_,rfl⟩
  rw[show (12:Nat)=d+1 from by omega] at ao;simp only[gw,hu] at ao;split at ao
  case isFalse=>cases ao
  rename_i hc2;simp only[t7,cz.bd.injEq] at ao;obtain ⟨l',ao,rfl⟩:=ao;rw[show n+2=(n+1)+1 from rfl,Instr.checkKey];simp only[Sem.run_bind,run_underlying hu,Result.andThen_ok];rw[←Array.forIn_toList];have key:∀ (L:List Field) (l:List cz) (xs ys:List I) (r:Bool) (c1 c2:List Value),
    (L.mapM fun f=>match gw P d f.type with
     |some ty=>if ty.size=P.cellsOf f.type then some ty else none
     | none => none) = some l → (∀ f ∈ L, f.name ≠ "_" ∧ qi (P.underlying f.type) = true) → o5 P c1.length L = true → aM w D E xs c2 → gV l xs ys = some r → c1 ++ c2 = cs →
    Sem.run P (forIn L PUnit.unit (fun (f : Field) (_ : PUnit) => (if f.name ≠ "_" then (do
     let x ←part f.type cs.toArray f.offset
     Instr.checkKey em (n+1) f.type x
     pure (ForInStep.yield PUnit.unit)) else pure (ForInStep.yield PUnit.unit):Sem (ForInStep PUnit)))) w=.ok PUnit.unit w:=by
   intro L
   induction L with
   |nil=>intros;simp
   |cons f L ih =>
    intro l xs ys r c1 c2 hm hn ho hx h htot;simp only[List.mapM_cons,Option.bind_eq_bind,Option.pure_def,zz1,v6] at hm;obtain ⟨ty,hty,tys,htys,rfl⟩:=hm;split at hty
    case h_2=>cases hty
    rename_i ty' hd';split at hty
    case isFalse=>cases hty
    rename_i hsz;simp only[v6] at hty;subst hty;simp only[gV] at h;split at h
    case h_2=>cases h
    rename_i x xs y ys;unfold iM at h;split at h
    case h_2=>cases h
    rename_i ra rb J U;simp only[aM] at hx;obtain ⟨e1,e2,rfl,k1,k2⟩:=hx;obtain ⟨s,q1,q2,q3⟩:=uR hd' hsz J;obtain ⟨u,p1,p2⟩:=nS (P:=P) (w:=w) (c1:=c1) (c3:=e2) q1 q2 k1;simp only[o5,t8,beq_iff_eq] at ho;have hsx:=oA ty' x y ra J;have hle:e1.length=P.cellsOf f.type:=by rw[al.length _ _ k1,hsx.1,hsz]
    have ih':=ih tys xs ys rb (c1++e1) e2 htys (fun g hg=>hn g (by simp[hg])) (by simp only[Z6,hle];exact ho.2) k2 U (by rw[←htot];simp);rw[Y1,htot,←ho.1] at p1;obtain ⟨hnm,hint⟩:=hn f (by simp);have hck:(Instr.checkKey em (n+1) f.type u).run P w=.ok () w:=by
     cases hu:P.underlying f.type with
     |none=>simp[hu,qi] at hint
     |some dd =>
      cases dd <;>simp[hu,qi] at hint
      rename_i q;have hti:ty'=.i q:=by
       rw[show d=10+1 from by omega] at hd';unfold gw at hd';simp only[hu,v6] at hd';exact hd'.symm
      subst hti;simp only[bX] at J;split at J
      case h_2=>cases J
      split at J
      case isFalse=>cases J
      rename_i hq;rw[(eQ p2).1,hq.1];exact MapKept.run_checkKey hu (by simp[MapKept.IsKey]) em n
    simp only[List.forIn_cons,Sem.run_bind,hnm,ne_eq,not_false_eq_true,if_true,p1,Result.andThen_ok,hck,Sem.run_pure];exact ih'
  rw[key fs.toList l' xs ys r [] cs ao (fun f hf=>⟨by simpa using X0.1 hc2.2.1 f hf,Array.all_eq_true_iff_forall_mem.1 hc.2 f (Array.mem_toList_iff.1 hf)⟩) hc2.2.2 hc1 h rfl];simp
 ·cases hk
theorem w9{x:I}{xs:List I}{vs:List Value}(h:aE w D E (x::xs) vs):∃ v rest,vs=v::rest∧aZ w D E x v∧aE w D E xs rest:=by
 simp only[aE] at h;obtain ⟨v,rest,cs,rfl,J,U,ah⟩:=h;exact ⟨v,rest,rfl,jh J U,ah⟩
def oe(r:Option Nat)(es:List MapEntry)(i:Nat)(q:Option (Nat×Value)):Prop :=
 (r=none∧q=none)∨∃ j e,r=some (i+j)∧es[j]?=some e∧q=some (i+j,e.val)
theorem oe.step{r:Option Nat}{es:List MapEntry}{e:MapEntry}{i:Nat}{q:Option (Nat×Value)}(h:oe r es (i+1) q):oe r (e::es) i q:=by
 rcases h with h | ⟨j,e',J,U,ah⟩
 ·exact .inl h
 ·exact .inr ⟨j+1,e',by rw[J];congr 1;omega,by simpa using U,by rw[ah];congr 2;omega⟩
theorem AE{q:IntKind}{k:I}{v:Value}(hv:aZ w D E k v):∀ (ks:List I) (es:List MapEntry) (i:Nat) (r:Option Nat),aE w D E ks (es.map (·.key))→ev (.i q) k ks i=some r →
  ∃ x,Instr.findNow (.int q) v es i=some x∧oe r es i x
 | [],es,i,r,hk,h=>by
  simp only[ev,v6] at h;simp only[aE,List.map_eq_nil_iff] at hk;subst h hk;exact ⟨none,rfl,.inl ⟨rfl,rfl⟩⟩
 |x::ks,es,i,r,hk,h=>by
  obtain ⟨u,rest,e1,hu,hr⟩:=w9 hk;cases es with
  |nil=>cases e1
  |cons e es =>
   simp only[Z3,zz7] at e1;obtain ⟨rfl,rfl⟩:=e1;simp only[ev] at h;have same:∀ b,bX (.i q) k x=some b→Instr.sameNow (.int q) v e.key=some b:=fun b hb=>by
    simp only[bX] at hb;split at hb
    case h_2=>cases hb
    split at hb
    case isFalse=>cases hb
    rename_i hq;simp only[v6] at hb;subst hb;rw[(eQ hv).1,(eQ hu).1];simp[Instr.sameNow,hq.1,hq.2]
   split at h
   ·rename_i hb;simp only[v6] at h;subst h;exact ⟨some (i,e.val),by simp[Instr.findNow,same _ hb],.inr ⟨0,e,rfl,rfl,rfl⟩⟩
   ·rename_i hb;obtain ⟨y,J,U⟩:=AE hv ks es (i+1) r hr h;exact ⟨y,by simp[Instr.findNow,same _ hb,J],U.step⟩
   ·cases h
theorem AB{t:TypeId}{ty:cz}(hty:gw P 12 t=some ty){k:I}{v:Value}(hv:aZ w D E k v):∀ (ks:List I) (es:List MapEntry) (i:Nat) (r:Option Nat),aE w D E ks (es.map (·.key))→ev ty k ks i=some r →
  ∃ x,(Instr.findAsking t v es i).run P w=.ok x w∧oe r es i x
 | [],es,i,r,hk,h=>by
  simp only[ev,v6] at h;simp only[aE,List.map_eq_nil_iff] at hk;subst h hk;exact ⟨none,rfl,.inl ⟨rfl,rfl⟩⟩
 |x::ks,es,i,r,hk,h=>by
  obtain ⟨u,rest,e1,hu,hr⟩:=w9 hk;cases es with
  |nil=>cases e1
  |cons e es =>
   simp only[Z3,zz7] at e1;obtain ⟨rfl,rfl⟩:=e1;simp only[ev] at h;have same:∀ b,bX ty k x=some b→(Op.equal t v e.key).run P w=.ok b w:=fun b hb=>sc 12 t ty hty k x v e.key b hv hu hb _ (by simp[Op.maxDepth]);split at h
   ·rename_i hb;simp only[v6] at h;subst h;exact ⟨some (i,e.val),by simp[Instr.findAsking,same _ hb],.inr ⟨0,e,rfl,rfl,rfl⟩⟩
   ·rename_i hb;obtain ⟨y,J,U⟩:=AB hty hv ks es (i+1) r hr h;exact ⟨y,by simp[Instr.findAsking,same _ hb,J],U.step⟩
   ·cases h
theorem oF{t:TypeId}{ty:cz}(hk:jC P t=some ty){k:I}{v:Value}(hv:aZ w D E k v){ks:List I}{es:List MapEntry}{r:Option Nat}(hks:aE w D E ks (es.map (·.key)))(h:ev ty k ks 0=some r) :
  ∃ x,(Instr.findKey t v es).run P w=.ok x w∧oe r es 0 x:=by
 have hk0:=hk;unfold jC at hk;split at hk
 ·rename_i q hu;simp only[v6] at hk;subst hk;obtain ⟨x,J,U⟩:=AE hv ks es 0 r hks h;exact ⟨x,by simp[Instr.findKey,run_underlying hu,J],U⟩
 ·rename_i fs hu;split at hk
  case h_2=>cases hk
  rename_i l ao;split at hk
  case isFalse=>cases hk
  simp only[v6] at hk;subst hk;cases es with
  |nil =>
   cases ks with
   |nil =>
    simp only[ev,v6] at h;subst h;exact ⟨none,by simp[Instr.findKey,run_underlying hu,Instr.findNow],.inl ⟨rfl,rfl⟩⟩
   |cons x xs=>simp[aE] at hks
  |cons e es =>
   obtain ⟨x,J,U⟩:=AB ao hv ks (e::es) 0 r hks h;exact ⟨x,by simp[Instr.findKey,run_underlying hu,Instr.findNow,Instr.sameNow,J],U⟩
 ·cases hk
theorem lV:∀ {xs:List I} {vs:List Value} {j:Nat} {v:Value},aE w D E xs vs→vs[j]?=some v→∃ x,xs[j]?=some x∧aZ w D E x v
 | [],vs,j,v,h,hj=>by simp only[aE] at h;subst h;simp at hj
 |x::xs,vs,j,v,h,hj=>by
  obtain ⟨u,rest,rfl,J,U⟩:=w9 h;cases j with
  |zero=>simp only[List.getElem?_cons_zero,v6] at hj;subst hj;exact ⟨x,rfl,J⟩
  |succ j=>exact lV (xs:=xs) U (by simpa using hj)
end
section
variable {c:cO} {A:ai} {o:Oper} {x:I}
theorem UG{a:Act}{w:World}{D:aP}{E:aY}(ab:aU c A a w D E){m:I}{v:Value}{ks vs:List I}(hv:aZ w D E m v)(hm:fQ A m=some (ks,vs)) :
  (v=.map none∧ks=[]∧vs=[])∨∃ b es clock,v=.map (some b)∧w.heap[b]?=some (.map es clock)∧aE w D E ks (es.toList.map (·.key))∧aE w D E vs (es.toList.map (·.val)):=by
 unfold fQ at hm;split at hm
 ·simp only[v6,Prod.mk.injEq] at hm;obtain ⟨rfl,rfl⟩:=hm;obtain ⟨cs,q1,q2⟩:=hv;simp only[al] at q2;obtain ⟨b,es,ck,q3,q4,q5,q6⟩:=q2;exact .inr ⟨b,es,ck,by simpa[bu,I.isAgg,q3] using q1.symm,q4.1,q5,q6⟩
 ·rename_i n;split at hm
  case h_2=>cases hm
  rename_i ks' vs' hn;simp only[v6,Prod.mk.injEq] at hm;obtain ⟨rfl,rfl⟩:=hm;obtain ⟨cs,q1,q2⟩:=hv;simp only[al] at q2;obtain ⟨b,q3,q4⟩:=q2;obtain ⟨b',es,ck,k1,k2,k3,k4,k5,k6,k7⟩:=ab.map hn;rw[k1] at q3;cases q3;exact .inr ⟨_,es,ck,by simpa[bu,I.isAgg,q4] using q1.symm,k3,k5,k6⟩
 ·simp only[v6,Prod.mk.injEq] at hm;obtain ⟨rfl,rfl⟩:=hm;obtain ⟨cs,q1,q2⟩:=hv;simp only[al] at q2;exact .inl ⟨by simpa[bu,I.isAgg,q2.1] using q1.symm,rfl,rfl⟩
 ·cases hm
theorem oa{w:World}{D:aP}{E:aY}{y:I}{v:Value}(hv:y.bS=true)(h:aZ w D E y v):∃ cs,bu y v cs∧al w D E y cs:=by
 cases y <;>simp[I.bS] at hv <;>exact h
theorem po{w:World}{D:aP}{E:aY} : ∀ {xs:List I} {vs:List Value} {j:Nat} {x:I},aE w D E xs vs→xs[j]?=some x→x.bS=true
 | [],_,j,x,_,h=>by simp at h
 |y::ys,vs,j,x,hr,h=>by
  simp only[aE] at hr;obtain ⟨v,rest,cs,rfl,J,U,ah⟩:=hr;cases j with
  |zero =>
   simp only[List.getElem?_cons_zero,v6] at h;subst h;cases y <;>simp only[al] at U <;>rfl
  |succ j=>exact po (xs:=ys) ah (by simpa using h)
theorem Xz{x:I}{cs r:List Value}(h:l4 x cs=some r):x.bS=true:=by
 cases x <;>first | rfl | (cases cs <;>simp[l4] at h)
theorem XA{P:Program}{t:TypeId}{z:I}(hz:fW P t=some z)(hp:tL P t z=true):∃ zv,(∀ w,(zeroValue t).run P w=.ok zv w)∧z.bS=true∧∀ w D E,aZ w D E z zv:=by
 have hz0:=hz;obtain ⟨i,zv,hi,hzz,hzr⟩:=kX hz;have hv:z.bS=true:=by
  unfold fW at hz;split at hz
  ·split at hz
   ·rename_i hk;simp only[v6] at hz;subst hz;exact Xz hk
   ·cases hz
  ·cases hz
 refine ⟨zv,fun w=>by simp[zeroValue,typeInfo,hi,hzz],hv,fun w D E =>?_⟩;have J:=hzr w D E;simp only[tL,hi,Option.bind_some,hzz] at hp;refine jh (cs:=zv.cells.toList) ?_ J;cases zv <;>simp only[bu] at hp ⊢ <;>first
  |(rw[if_pos hp];simp[Value.cells])
  |(have hp':z.isAgg=false:=by simpa using hp
    rw[hp'];simp[Value.cells])
theorem TS{t kt et:TypeId}{m k:Operand}{m' k':aO}{ok:Bool}{ty:cz}{z v:I}{ks vs:List I}{there:Bool}(ho:o.op=.lookup t m k ok)(hu:c.P.underlying t=some (.map kt et))(hk:jC c.P kt=some ty)(hz:fW c.P et=some z)(hzp:tL c.P et z=true)
  (hm:bo c.P 0 m=some m') (hk':bo c.P 0 k=some k') (hmm:fQ A (ak A m')=some (ks,vs)) (ao:fj ty z (ak A k') ks vs=some (v,there)):dD c A o (if ok then .tuple [v,.bool there] else v) :=
 .same fun a w D E ab=>by
  have J:=bT ab hm;have U:=bT ab hk';obtain ⟨zv,hzrun,hzv,hzrv⟩:=XA hz hzp;unfold fj at ao;split at ao
  case isFalse=>cases ao
  rename_i hkk;obtain ⟨rk,hrk⟩:=Y8.1 hkk;have hchk:=fun em=>uI (P:=c.P) (w:=w) (em:=em) hk U hrk 9998;have bh:∀ u there,v.bS=true→aZ w D E v u→aZ w D E (if ok then .tuple [v,.bool there] else v) (if ok then Value.tuple #[u,.bool there] else u):=fun u there hval hu'=>by
   cases ok
   ·exact hu'
   ·obtain ⟨cs,q1,q2⟩:=oa hval hu';simp only[if_true,aZ,aE];exact ⟨[u,.bool there],rfl,u,[.bool there],cs,rfl,q1,q2,.bool there,[],[.bool there],rfl,by simp[bu,I.isAgg],by simp[al],rfl⟩
  have main:∀ (es:Array MapEntry),aE w D E ks (es.toList.map (·.key))→aE w D E vs (es.toList.map (·.val))→∃ u,v.bS=true∧aZ w D E v u ∧
    ((∃ i,(Instr.findKey kt (a.eval k) es.toList).run c.P w=.ok (some (i,u)) w∧there=true)∨((Instr.findKey kt (a.eval k) es.toList).run c.P w=.ok none w∧u=zv∧there=false)):=fun es hks hvs=>by
   split at ao
   ·rename_i i hfi;simp only[t7,Prod.mk.injEq] at ao;obtain ⟨v',hv',rfl,rfl⟩:=ao;obtain ⟨q,q1,q2⟩:=oF hk U hks hfi;rcases q2 with ⟨e,_⟩ | ⟨j,e,e1,e2,rfl⟩
    ·cases e
    ·simp only[Z1,v6] at e1;subst e1;obtain ⟨x,k1,k2⟩:=lV (j:=i) (v:=e.val) hvs (by simp only[Y9,e2,Z7]);rw[hv',v6] at k1;subst k1;exact ⟨e.val,po hvs hv',k2,.inl ⟨_,q1,rfl⟩⟩
   ·rename_i hfi;simp only[v6,Prod.mk.injEq] at ao;obtain ⟨rfl,rfl⟩:=ao;obtain ⟨q,q1,q2⟩:=oF hk U hks hfi;rcases q2 with ⟨_,rfl⟩ | ⟨j,e,e1,_⟩
    ·exact ⟨zv,hzv,hzrv w D E,.inr ⟨q1,rfl,rfl⟩⟩
    ·cases e1
   ·cases ao
  rcases UG ab J hmm with ⟨e1,rfl,rfl⟩ | ⟨b,es,ck,e1,e2,e3,e4⟩
  ·obtain ⟨u,hval,hu',hrun⟩:=main #[] (by simp[aE]) (by simp[aE]);refine ⟨_,?_,bh u there hval hu'⟩;rcases hrun with ⟨i,q1,rfl⟩ | ⟨q1,rfl,rfl⟩ <;>
    simp only[execOp,ho,Instr.lookup,e1,Sem.run_bind,run_underlying hu,Result.andThen_ok,Sem.run_pure,hchk,q1,hzrun]
  ·obtain ⟨u,hval,hu',hrun⟩:=main es e3 e4;refine ⟨_,?_,bh u there hval hu'⟩;rcases hrun with ⟨i,q1,rfl⟩ | ⟨q1,rfl,rfl⟩ <;>
    simp only[execOp,ho,Instr.lookup,e1,Sem.run_bind,run_underlying hu,Result.andThen_ok,MapKept.run_getObj_map e2,Sem.run_pure,hchk,q1,hzrun]
theorem Bd{y:Operand}{y':aO}(ho:o.op=.nilCheck y)(hy:bo c.P 0 y=some y')(h:(∃ n p,ak A y'=.ptr n p)∨∃ z,ak A y'=.ref z):dD c A o (ak A y') :=
 .same fun a w D E ab=>by
  have J:=bT ab hy;rcases h with ⟨n,p,h⟩ | ⟨z,h⟩
  ·rw[h] at J ⊢;obtain ⟨b,aX,off,_,_,e⟩:=kO J;exact ⟨a.eval y,by simp only[execOp,ho,e,Sem.run_pure],J⟩
  ·rw[h] at J ⊢;obtain ⟨b,off,cs,e,_⟩:=pn J;exact ⟨a.eval y,by simp only[execOp,ho,e,Sem.run_pure],J⟩
theorem Bp{w:World}{D:aP}{E:aY}{x:I}{v:Value}{b:Bool}(h:iq x=some b)(hv:aZ w D E x v):∃ ad,v=.pointer ad∧ad.isNone=b:=by
 cases x <;>simp only[iq,v6] at h <;>try (cases h;done)
 case nilp =>
  subst h;obtain ⟨cs,q1,q2⟩:=hv;simp only[al] at q2;exact ⟨none,by simpa[bu,I.isAgg,q2] using q1.symm,rfl⟩
 case ptr n p =>
  subst h;obtain ⟨b,aX,off,_,_,e⟩:=kO hv;exact ⟨_,e,rfl⟩
 case ref z =>
  subst h;obtain ⟨b,off,cs,e,_⟩:=pn hv;exact ⟨_,e,rfl⟩
theorem TV{x y:Operand}{x' y':aO}{tys:Array TypeId}{v:I}(ho:o.op=.call { callee:=.builtin .max,args := #[x,y],argTypes:=tys })(hx:bo c.P 0 x=some x')(hy:bo c.P 0 y=some y')(h:qD (ak A x') (ak A y')=some v):dD c A o v :=
 .same fun a w D E ab=>by
  have J:=bT ab hx;have U:=bT ab hy;unfold qD at h;split at h
  case h_2=>cases h
  rename_i k n k2 m e1 e2;split at h
  case isFalse=>cases h
  rename_i hk;subst hk;simp only[v6] at h;subst h;rw[e1] at J;rw[e2] at U;obtain ⟨v1,r1⟩:=eQ J;obtain ⟨v2,nI⟩:=eQ U;refine ⟨.int k (if m>n then m else n),by simp[execOp,ho,resolve,invoke,builtin,Builtin.max_,Builtin.max2,v1,v2],jE ?_⟩;split
  ·exact nI
  ·exact r1
theorem TZ{neg:Bool}{t yt e:TypeId}{y z:Operand}{y' z':aO}{b1 b2:Bool}(ho:o.op=.binOp (if neg then .neq else .eql) t y z yt)(hu:c.P.underlying t=some (.pointer e))(hy:bo c.P 0 y=some y')(hz:bo c.P 0 z=some z')
  (J:iq (ak A y')=some b1) (U:iq (ak A z')=some b2) (h:b1=true∨b2=true):dD c A o (.bool (if neg then !(b1&&b2) else (b1&&b2))) :=
 .same fun a w D E ab=>by
  obtain ⟨p,e1,k1⟩:=Bp J (bT ab hy);obtain ⟨q,e2,k2⟩:=Bp U (bT ab hz);have he:∀ d,(Op.equalIn (d+1) t (.pointer p) (.pointer q)).run c.P w=.ok (b1&&b2) w:=fun d=>by
   subst k1 k2;cases p <;>cases q <;>simp at h <;>simp[Op.equalIn,run_underlying hu]
  refine ⟨.bool (if neg then !(b1&&b2) else (b1&&b2)),?_,nx _⟩;cases neg <;>simp only[execOp,ho,e1,e2,if_true,Z2,if_false,Sem.run_bind,eqGuard] <;>simp[binOp,Op.equal,Op.maxDepth,he]
end
section
variable {c:cO} {A:ai} {o:Oper} {x:I}
theorem Le{t:TypeId}{d:Nat}(ho:o.op=.makeMap t none)(af:o.dst=some d)(hn:d<c.n)(hf:A.o d=none):hh c A o ((A.aV d (.bp [] [])).put d (.mref d)):=by
 intro a w D E ab;have J:=ab.UX (.inl hn) hf;have U:=J.put (x:=.mref d) (v:=.map (some w.heap.size)) hn ⟨_,by simp[bu,I.isAgg];rfl,by
  simp only[al,if_true];exact ⟨w.heap.size,rfl,rfl⟩⟩
 exact ⟨w.alloc (.map #[] 0),.inl ⟨.map (some w.heap.size),by simp[execOp,ho,Instr.makeMap],D,_,by rw[af];exact U⟩⟩
theorem w8{w:World}{D:aP}{E:aY} : ∀ {xs ys:List I} {us vs:List Value},aE w D E xs us→aE w D E ys vs→aE w D E (xs++ys) (us++vs)
 | [],ys,us,vs,h,k=>by simp only[aE] at h;subst h;simpa using k
 |x::xs,ys,us,vs,h,k=>by
  simp only[aE,Z9] at *;obtain ⟨v,rest,cs,rfl,J,U,ah⟩:=h;exact ⟨v,rest++vs,cs,rfl,J,U,w8 ah k⟩
theorem Ep{w:World}{D:aP}{E:aY} : ∀ {xs:List I} {us:List Value} {i:Nat} {y:I} {v:Value} {cs:List Value},aE w D E xs us→bu y v cs→al w D E y cs→aE w D E (xs.set i y) (us.set i v)
 | [],us,i,y,v,cs,h,_,_=>by simp only[aE] at h;subst h;simp[aE]
 |x::xs,us,i,y,v,cs,h,k1,k2=>by
  simp only[aE] at h;obtain ⟨u,rest,ds,rfl,J,U,ah⟩:=h;cases i with
  |zero=>simp only[List.set_cons_zero,aE];exact ⟨v,rest,cs,rfl,k1,k2,ah⟩
  |succ i=>simp only[List.set_cons_succ,aE];exact ⟨u,_,ds,rfl,J,U,Ep ah k1 k2⟩
theorem Eo{w:World}{D:aP}{E:aY}{y:I}{v:Value}{cs:List Value}(J:bu y v cs)(U:al w D E y cs):aE w D E [y] [v]:=by
 simp only[aE];exact ⟨v,[],cs,rfl,J,U,rfl⟩
theorem AD{ty:cz}{k:I} : ∀ {ks:List I} {i j:Nat},ev ty k ks i=some (some j)→∃ x,ks[j-i]?=some x∧i≤j∧bX ty k x=some true
 | [],i,j,h=>by simp[ev] at h
 |x::xs,i,j,h=>by
  simp only[ev] at h;split at h
  ·rename_i hb;simp only[v6] at h;subst h;exact ⟨x,by simp,Z4 _,hb⟩
  ·obtain ⟨y,J,U,ah⟩:=AD h;refine ⟨y,?_,by omega,ah⟩;rw[show j-i=(j-(i+1))+1 from by omega];simpa using J
  ·cases h
theorem Ab{t kt et:TypeId}{m k v:Operand}{m' k' v':aO}{ty:cz}{n:Nat}{ks vs ks' vs':List I}(ho:o.op=.mapUpdate t m k v∨o.op=.insert t m k v)(hu:c.P.underlying t=some (.map kt et))(hk:jC c.P kt=some ty)
  (hm:bo c.P 0 m=some m') (hk':bo c.P 0 k=some k') (hv':bo c.P et v=some v') (hmm:ak A m'=.mref n) (hn:A.o n=some (.bp ks vs)) (ao:fk ty (ak A k') (ak A v') ks vs=some (ks',vs')) (af:o.dst=none) :
  hh c A o (A.aV n (.bp ks' vs')):=by
 intro a w D E ab;have J:=bT ab hm;have U:=bT ab hk';have ah:=bT ab hv';rw[hmm] at J;unfold fk at ao;split at ao
 case isFalse=>cases ao
 rename_i hc;obtain ⟨hkk,hkv,hvv⟩:=hc;obtain ⟨rk,hrk⟩:=Y8.1 hkk;have hchk:=fun em=>uI (P:=c.P) (w:=w) (em:=em) hk U hrk 9998;obtain ⟨kcs,kp1,kp2⟩:=oa hkv U;obtain ⟨vcs,vp1,vp2⟩:=oa hvv ah;obtain ⟨b,es,ck,k1,k2,k3,k4,k5,k6,k7⟩:=ab.map hn;have hmv:a.eval m=.map (some b):=by
  obtain ⟨cs,q1,q2⟩:=J;simp only[al] at q2;obtain ⟨b',q3,q4⟩:=q2;rw[k1] at q3;cases q3;simpa[bu,I.isAgg,q4] using q1.symm
 -- the new entries
 have step:∀ (es':Array MapEntry) (ck':Nat),(Instr.mapUpdate t (.map (some b)) (a.eval k) (a.eval v)).run c.P w=.ok () (w.putObj b (.map es' ck'))→nZ es' ck'→aE w D E ks' (es'.toList.map (·.key))→aE w D E vs' (es'.toList.map (·.val)) →
   ∃ w',((∃ u,(execOp a.eval o).run c.P w=.ok (.value u) w'∧bV c (A.aV n (.bp ks' vs')) (a.put o.dst u) w')∨((execOp a.eval o).run c.P w=.ok .skip w'∧bV c (A.aV n (.bp ks' vs')) (a.put o.dst undef) w')):=fun es' ck' hrun hst hks hvs=>by
  refine ⟨w.putObj b (.map es' ck'),.inr ⟨?_,?_⟩⟩
  ·rcases ho with ho | ho <;>simp only[execOp,ho,hmv,Sem.run_bind,hrun,Result.andThen_ok,Sem.run_pure]
  ·rw[af];have:=ab.xg (o':=.map es' ck') (x:=.bp ks' vs') k1 rfl rfl k3 rfl (fun q=>by simp) k2 (fun hl' bH hno=>⟨b,es',ck',k1,k2,bH,hst,aE.later hl' _ _ hks,aE.later hl' _ _ hvs,hno⟩);exact ⟨D,E,this⟩
 split at ao
 ·rename_i i hfi;simp only[v6,Prod.mk.injEq] at ao;obtain ⟨rfl,rfl⟩:=ao;obtain ⟨q,q1,q2⟩:=oF hk U k5 hfi;rcases q2 with ⟨e,_⟩ | ⟨j,e,e1,e2,rfl⟩
  ·cases e
  simp only[Z1,v6] at e1;subst e1;obtain ⟨y,y1,_,y2⟩:=AD hfi;simp only[Nat.sub_zero] at y1;obtain ⟨y',y3,y4⟩:=lV (j:=i) (v:=e.key) k5 (by simp only[Y9,e2,Z7]);rw[y1,v6] at y3;subst y3;obtain ⟨_,kk2,kk3⟩:=Ul hk y2 U y4;have hes:es[i]?=some e:=by rw[←X8];exact e2
  have hlen:i<es.size:=(Y0.1 hes).1;refine step (es.modify i fun e => { e with key:=a.eval k,val:=a.eval v }) ck ?_ ?_ ?_ ?_
  ·have hsb:Instr.sameBits 10000 (((es[i]?).map (·.key)).getD (a.eval k)) (a.eval k)=true:=by
    rw[hes];simp only[Z7,Option.getD_some];rw[←kk2];rw[←kk2] at kk3;exact kk3
   simp only[Instr.mapUpdate,Sem.run_bind,run_underlying hu,Result.andThen_ok,MapKept.run_getObj_map k3,hchk,q1,Z1,Instr.keyThatStays,hsb,if_true,Sem.run_pure,MapKept.run_setObj_map _ k3];rfl
  all_goals
   have em:(es.modify i fun e => { e with key:=a.eval k,val:=a.eval v }).toList=es.toList.set i { e with key:=a.eval k,val:=a.eval v } :=by
    rw[Array.toList_modify];apply List.ext_getElem?;intro j;rw[List.getElem?_modify,List.getElem?_set];by_cases hij:i=j
    ·subst hij;have hge:es[i]'hlen=e:=(Y0.1 hes).2;simp[hlen,hge]
    ·simp[hij]
  ·refine ⟨fun x hx =>?_,?_⟩
   ·rw[em] at hx;rcases List.mem_or_eq_of_mem_set hx with hx | rfl
    ·exact k4.1 x hx
    ·exact k4.1 e (List.mem_of_getElem? e2)
   ·rw[em];have:(es.toList.set i { e with key:=a.eval k,val:=a.eval v }).map (·.born)=es.toList.map (·.born):=by
     rw[List.map_set];apply List.ext_getElem?;intro j;rw[List.getElem?_set];split
     ·rename_i hij;subst hij;simp[e2];exact hlen
     ·rfl
    rw[this];exact k4.2
  ·rw[em,List.map_set];have:(es.toList.map (·.key)).set i (a.eval k)=es.toList.map (·.key):=by
    apply List.ext_getElem?;intro j;rw[List.getElem?_set];split
    ·rename_i hij;subst hij;simp[e2,kk2];exact hlen
    ·rfl
   simp only[this];exact k5
  ·rw[em,List.map_set];exact Ep k6 vp1 vp2
 ·rename_i hfi;simp only[v6,Prod.mk.injEq] at ao;obtain ⟨rfl,rfl⟩:=ao;obtain ⟨q,q1,q2⟩:=oF hk U k5 hfi;rcases q2 with ⟨_,rfl⟩ | ⟨j,e,e1,_⟩
  case inr=>cases e1
  refine step (es.push { key:=a.eval k,val:=a.eval v,born:=ck }) (ck+1) ?_ ⟨fun x hx =>?_,?_⟩ ?_ ?_
  ·simp only[Instr.mapUpdate,Sem.run_bind,run_underlying hu,Result.andThen_ok,MapKept.run_getObj_map k3,hchk,q1,MapKept.run_setObj_map _ k3];rfl
  ·simp only[Array.toList_push,X5,X3] at hx;rcases hx with hx | rfl
   ·have:=k4.1 x hx;omega
   ·simp
  ·simp only[Array.toList_push,Y3,Z3,X7];refine List.nodup_append.2 ⟨k4.2,by simp,fun x hx y hy =>?_⟩;simp only[X3] at hy;subst hy;obtain ⟨e,he,rfl⟩:=X1.1 hx;exact Nat.ne_of_lt (k4.1 e he)
  ·simp only[Array.toList_push,Y3,Z3,X7];exact w8 k5 (Eo kp1 kp2)
  ·simp only[Array.toList_push,Y3,Z3,X7];exact w8 k6 (Eo vp1 vp2)
 ·cases ao
theorem sL{α β:Type}(f:α→β):∀ (l:List α) (i:Nat),(l.eraseIdx i).map f=(l.map f).eraseIdx i
 | [],_=>rfl
 |x::xs,0=>rfl
 |x::xs,i+1=>by simp only[List.eraseIdx_cons_succ,Z3,sL f xs i]
theorem xa{w:World}{D:aP}{E:aY} : ∀ {xs:List I} {us:List Value} (i:Nat),aE w D E xs us→aE w D E (xs.eraseIdx i) (us.eraseIdx i)
 | [],us,i,h=>by simp only[aE] at h;subst h;simp[aE]
 |x::xs,us,i,h=>by
  simp only[aE] at h;obtain ⟨v,rest,cs,rfl,J,U,ah⟩:=h;cases i with
  |zero=>exact ah
  |succ i=>simp only[List.eraseIdx_cons_succ,aE];exact ⟨v,_,cs,rfl,J,U,xa i ah⟩
theorem Ld{t kt et t':TypeId}{m k:Operand}{m' k':aO}{ty:cz}{n:Nat}{ks vs ks' vs':List I}(ho:o.op=.call { callee:=.builtin .delete,args := #[m,k],argTypes := #[t,t'] })(hu:c.P.underlying t=some (.map kt et))(hk:jC c.P kt=some ty)
  (hm:bo c.P 0 m=some m') (hk':bo c.P 0 k=some k') (hmm:ak A m'=.mref n) (hn:A.o n=some (.bp ks vs)) (ao:lE ty (ak A k') ks vs=some (ks',vs')) (af:o.dst=none) :
  hh c A o (A.aV n (.bp ks' vs')):=by
 intro a w D E ab;have J:=bT ab hm;have U:=bT ab hk';rw[hmm] at J;unfold lE at ao;split at ao
 case isFalse=>cases ao
 rename_i hkk;obtain ⟨rk,hrk⟩:=Y8.1 hkk;have hchk:=fun em=>uI (P:=c.P) (w:=w) (em:=em) hk U hrk 9998;obtain ⟨b,es,ck,k1,k2,k3,k4,k5,k6,k7⟩:=ab.map hn;have hmv:a.eval m=.map (some b):=by
  obtain ⟨cs,q1,q2⟩:=J;simp only[al] at q2;obtain ⟨b',q3,q4⟩:=q2;rw[k1] at q3;cases q3;simpa[bu,I.isAgg,q4] using q1.symm
 have step:∀ (es':Array MapEntry),(Builtin.delete_ #[t,t'] o.type #[.map (some b),a.eval k]).run c.P w=.ok (.tuple #[]) (w.putObj b (.map es' ck))→nZ es' ck→aE w D E ks' (es'.toList.map (·.key))→aE w D E vs' (es'.toList.map (·.val)) →
   ∃ w',((∃ u,(execOp a.eval o).run c.P w=.ok (.value u) w'∧bV c (A.aV n (.bp ks' vs')) (a.put o.dst u) w')∨((execOp a.eval o).run c.P w=.ok .skip w'∧bV c (A.aV n (.bp ks' vs')) (a.put o.dst undef) w')):=fun es' hrun hst hks hvs=>by
  refine ⟨w.putObj b (.map es' ck),.inl ⟨.tuple #[],?_,?_⟩⟩
  ·simp[execOp,ho,resolve,invoke,builtin,hmv,hrun]
  ·rw[af];have:=ab.xg (o':=.map es' ck) (x:=.bp ks' vs') k1 rfl rfl k3 rfl (fun q=>by simp) k2 (fun hl' bH hno=>⟨b,es',ck,k1,k2,bH,hst,aE.later hl' _ _ hks,aE.later hl' _ _ hvs,hno⟩);exact ⟨D,E,this⟩
 split at ao
 ·rename_i i hfi;simp only[v6,Prod.mk.injEq] at ao;obtain ⟨rfl,rfl⟩:=ao;obtain ⟨q,q1,q2⟩:=oF hk U k5 hfi;rcases q2 with ⟨e,_⟩ | ⟨j,e,e1,e2,rfl⟩
  ·cases e
  simp only[Z1,v6] at e1;subst e1;have hes:es[i]?=some e:=by rw[←X8];exact e2
  have hlen:i<es.size:=(Y0.1 hes).1;have em:(es.eraseIdxIfInBounds i).toList=es.toList.eraseIdx i:=by
   simp[Array.eraseIdxIfInBounds,hlen]
  refine step (es.eraseIdxIfInBounds i) ?_ ⟨fun x hx =>?_,?_⟩ ?_ ?_
  ·simp[Builtin.delete_,run_underlying hu,MapKept.run_getObj_map k3,hchk,q1,MapKept.run_setObj_map _ k3];rfl
  ·rw[em] at hx;exact k4.1 x (List.mem_of_mem_eraseIdx hx)
  ·rw[em,sL];exact k4.2.sublist (List.eraseIdx_sublist _ _)
  ·rw[em,sL];exact xa i k5
  ·rw[em,sL];exact xa i k6
 ·rename_i hfi;simp only[v6,Prod.mk.injEq] at ao;obtain ⟨rfl,rfl⟩:=ao;obtain ⟨q,q1,q2⟩:=oF hk U k5 hfi;rcases q2 with ⟨_,rfl⟩ | ⟨j,e,e1,_⟩
  case inr=>cases e1
  refine step es ?_ k4 k5 k6;simp[Builtin.delete_,run_underlying hu,MapKept.run_getObj_map k3,hchk,q1,MapKept.run_setObj_map _ k3];rfl
 ·cases ao
theorem Lg{t kt et:TypeId}{y:Operand}{y':aO}{ks vs:List I}{d:Nat}(ho:o.op=.range t y)(hu:c.P.underlying t=some (.map kt et))(hy:bo c.P 0 y=some y')(h:ak A y'=.c7 ks vs)(af:o.dst=some d)(hn:d<c.n)(hf:A.o d=none) :
  hh c A o ((A.aV d (.it ks vs (List.range ks.length) none)).put d (.db d)):=by
 intro a w D E ab;have J:=bT ab hy;rw[h] at J;obtain ⟨cs,q1,q2⟩:=J;simp only[al] at q2;obtain ⟨b,es,ck,q3,q4,q5,q6⟩:=q2;have hv:a.eval y=.map (some b):=by simpa[bu,I.isAgg,q3] using q1.symm
 have U:=ab.UW (.inl hn) hf q4 q5 q6;have ah:=U.put (x:=.db d) (v:=.pointer (some ⟨w.heap.size,0,none⟩)) hn ⟨_,by simp[bu,I.isAgg];rfl,by
  simp only[al,if_true];exact ⟨w.heap.size,rfl,rfl⟩⟩
 refine ⟨w.alloc (.mapIter (some b) ck #[] ck),.inl ⟨.pointer (some ⟨w.heap.size,0,none⟩),?_,D,_,by rw[af];exact ah⟩⟩;simp only[execOp,ho,hv,Sem.run_bind,run_range_map w t kt et b es ck hu q4.1,Result.andThen_ok,Sem.run_pure]
theorem BD{es:Array MapEntry}{bn:Array Nat}{i:Nat} : i∈nu es bn↔∃ e,es[i]?=some e∧bn.contains e.born=false:=by
 unfold nu;simp only[X9,zz4];constructor
 ·rintro ⟨J,U⟩;rw[zz2 J] at U ⊢;exact ⟨_,rfl,by simpa using U⟩
 ·rintro ⟨e,J,U⟩;exact ⟨(Y0.1 J).1,by rw[J];simpa using U⟩
theorem Xg{es:Array MapEntry}{ck:Nat}(hst:nZ es ck){i j:Nat}{e f:MapEntry}(hi:es[i]?=some e)(hj:es[j]?=some f)(h:e.born=f.born):i=j:=by
 have hn:=hst.2;rw[←X8] at hi hj;have J:(es.toList.map (·.born))[i]?=some e.born:=by rw[Y9,hi];rfl
 have U:(es.toList.map (·.born))[j]?=some e.born:=by rw[Y9,hj,h];rfl
 have hil:i<(es.toList.map (·.born)).length:=(Z5.1 J).1;have hjl:j<(es.toList.map (·.born)).length:=(Z5.1 U).1;exact (List.getElem?_inj hil hn).1 (J.trans U.symm)
theorem Uw{es:Array MapEntry}{bn:Array Nat}{ck i:Nat}{e:MapEntry}(hst:nZ es ck)(hi:es[i]?=some e):nu es (bn.push e.born)=(nu es bn).filter (· != i):=by
 unfold nu;rw[List.filter_filter];refine List.filter_congr fun j hj =>?_;have hjl:j<es.size:=by simpa using hj
 rw[zz2 hjl];simp only[Array.contains_push];by_cases hij:j=i
 ·subst hij;rw[zz2 hjl,v6] at hi;simp[hi]
 ·have:(es[j].born==e.born)=false:=by
   simp only[beq_eq_false_iff_ne,ne_eq];exact fun h=>hij (Xg hst (zz2 hjl) hi h)
  have U:(j != i)=true:=by simpa using hij
  simp[this,U]
theorem UY{y:Operand}{y':aO}{ks vs:List I}{left:List Nat}{cur:Option Nat}{n:Nat}(ho:o.op=.next y false)(hy:bo c.P 0 y=some y')(h:ak A y'=.db n)(hn:A.o n=some (.it ks vs left cur))(hdn:∀ k,o.dst=some k→k<c.n){a:Act}{w:World}{D:aP}{E:aY}(ab:aU c A a w D E) :
  ∃ w' v,(execOp a.eval o).run c.P w=.ok (.value v) w'∧((left=[]∧bV c (A.aT o.dst (.tuple [.bool false])) (a.put o.dst v) w') ∨
   ∃ i k x,i∈left∧ks[i]?=some k∧vs[i]?=some x∧bV c ((A.aV n (.it ks vs (left.filter (· != i)) (some i))).aT o.dst (.tuple [.bool true,k,x])) (a.put o.dst v) w'):=by
 have J:=bT ab hy;rw[h] at J;obtain ⟨cs,q1,q2⟩:=J;simp only[al] at q2;obtain ⟨r,q3,q4⟩:=q2;have hv:a.eval y=.pointer (some ⟨r,0,none⟩):=by simpa[bu,I.isAgg,q4] using q1.symm
 have hob:=ab.bN n;rw[hn] at hob;obtain ⟨r',b,es,ck,since,bn,last,k1,k2,k3,k4,k5,k6,k7,k8,k9,k9',k10⟩:=hob;rw[k1] at q3;cases q3;rcases run_next_at (P:=c.P) w o.type r b since last bn es ck k3 k4.1 k7 k8.1 with ⟨aW,hrun⟩ | ⟨e,he,w1,hal,hrun⟩
 ·refine ⟨w,.tuple #[.bool false],by simp only[execOp,ho,hv,Sem.run_bind,hrun,Result.andThen_ok,Sem.run_pure],.inl ⟨?_,D,E,ab.aT hdn ?_⟩⟩
  ·rw[k9];refine List.eq_nil_iff_forall_not_mem.2 fun i hi =>?_;obtain ⟨e,J,U⟩:=BD.1 hi;have hm:e∈leftOf es bn:=by
    unfold leftOf;simp only[Array.mem_filter];exact ⟨Array.mem_of_getElem? J,by simpa using U⟩
   rw[Array.eq_empty_of_size_eq_zero aW] at hm;simp at hm
  ·simp only[aZ,aE];exact ⟨[.bool false],rfl,.bool false,[],[.bool false],rfl,by simp[bu,I.isAgg],by simp[al],rfl⟩
 ·have hmem:e∈es.toList∧bn.contains e.born=false:=by
   unfold leftOf at he;simp only[Array.toList_filter,X9] at he;exact ⟨he.1,by simpa using he.2⟩
  obtain ⟨i,hi⟩:=List.getElem?_of_mem hmem.1;have hie:es[i]?=some e:=by rw[←X8];exact hi
  obtain ⟨k,hk1,hk2⟩:=lV (j:=i) (v:=e.key) k5 (by simp only[Y9,hi,Z7]);obtain ⟨x,hx1,hx2⟩:=lV (j:=i) (v:=e.val) k6 (by simp only[Y9,hi,Z7]);have hsw:aU c A a w1 D E:=by
   rcases hal with rfl | rfl
   ·exact ab
   ·exact ab.grow (w':=w.drew) (D':=D) ⟨rfl,rfl,rfl,Z4 _,fun _ _=>rfl⟩ (fun _ _ h=>h) (fun _ _ h _=>h) (fun b o af=>ab.aQ b o af)
  have hw1:w1.heap=w.heap:=by rcases hal with rfl | rfl <;>rfl
  have k3':w1.heap[r]?=some (.mapIter (some b) since bn last):=by rw[hw1];exact k3
  have hset:=hsw.xg (x:=.it ks vs (left.filter (· != i)) (some i)) (o':=.mapIter (some b) since (bn.push e.born) ck) k1 rfl rfl k3' rfl (fun q=>by simp) k2
   (fun ao bH hno=>by
    have hm:ny w1 D b es ck:=⟨by rw[hw1];exact k4.1,k4.2.1,k4.2.2⟩
    have hob:=hsw.bN n;rw[hn] at hob;refine ⟨r,b,es,ck,since,bn.push e.born,ck,k1,k2,bH,hm.later ao,aE.later ao _ _ ?_,aE.later ao _ _ ?_,k7,?_,?_,fun j hj =>?_,hno⟩
    ·obtain ⟨nI,b2,es2,ck2,si2,se2,la2,g1,g2,g3,g4,g5,g6,_⟩:=hob;rw[k1] at g1;cases g1;rw[k3'] at g3;cases g3;have:=g4.1;rw[hw1,k4.1] at this;cases this;exact g5
    ·obtain ⟨nI,b2,es2,ck2,si2,se2,la2,g1,g2,g3,g4,g5,g6,_⟩:=hob;rw[k1] at g1;cases g1;rw[k3'] at g3;cases g3;have:=g4.1;rw[hw1,k4.1] at this;cases this;exact g6
    ·exact ⟨k8.2,k8.2⟩
    ·rw[k9,Uw k4.2.2 hie]
    ·cases hj;exact ⟨e,hie,by simp,rfl⟩)
  have hset':aU c (A.aV n (.it ks vs (left.filter (· != i)) (some i))) a (ChangeMaps.setBlock w1 r (.mapIter (some b) since (bn.push e.born) ck)) D E:=hset;refine ⟨_,.tuple #[.bool true,e.key,e.val],by simp only[execOp,ho,hv,Sem.run_bind,hrun,Result.andThen_ok,Sem.run_pure],.inr ⟨i,k,x,?_,hk1,hx1,D,E,hset'.aT hdn ?_⟩⟩
  ·rw[k9];exact BD.2 ⟨e,hie,hmem.2⟩
  ·have hob2:=hset'.bN n;simp only[ai.aV,if_true] at hob2;obtain ⟨nI,b2,es2,ck2,si2,se2,la2,g1,g2,g3,g4,g5,g6,_⟩:=hob2;rw[k1] at g1;cases g1;have hr2:(ChangeMaps.setBlock w1 r (.mapIter (some b) since (bn.push e.born) ck)).heap[r]?=some (.mapIter (some b) since (bn.push e.born) ck):=World.putObj_heap_same (w:=w1) (fA k3');rw[hr2] at g3;cases g3;have hb2:(ChangeMaps.setBlock w1 r (.mapIter (some b) since (bn.push e.born) ck)).heap[b]?=some (.map es ck):=by
    have:b≠r:=fun e=>by rw[e] at k4;rw[k4.1] at k3;cases k3
    refine (World.putObj_heap_other (w:=w1) this).trans ?_;rw[hw1];exact k4.1
   have:=g4.1;rw[hb2] at this;cases this;obtain ⟨kk,a1,a2⟩:=lV (j:=i) (v:=e.key) g5 (by simp only[Y9,hi,Z7]);rw[hk1] at a1;cases a1;obtain ⟨xx,b1,b2⟩:=lV (j:=i) (v:=e.val) g6 (by simp only[Y9,hi,Z7]);rw[hx1] at b1;cases b1;obtain ⟨c1,c2,c3⟩:=oa (po k5 hk1) a2;obtain ⟨d1,d2,d3⟩:=oa (po k6 hx1) b2;simp only[aZ,aE];exact ⟨[.bool true,e.key,e.val],rfl,.bool true,_,[.bool true],rfl,by simp[bu,I.isAgg],by simp[al],e.key,_,c1,rfl,c2,c3,e.val,[],d1,rfl,d2,d3,rfl⟩
theorem TF{y:Operand}{y':aO}{ks vs:List I}{left:List Nat}{i n:Nat}{k x:I}(ho:o.op=.entry y)(hy:bo c.P 0 y=some y')(h:ak A y'=.db n)(hn:A.o n=some (.it ks vs left (some i)))(hk:ks[i]?=some k)(hx:vs[i]?=some x):dD c A o (.tuple [k,x]) :=
 .same fun a w D E ab=>by
  have J:=bT ab hy;rw[h] at J;obtain ⟨cs,q1,q2⟩:=J;simp only[al] at q2;obtain ⟨r,q3,q4⟩:=q2;have hv:a.eval y=.pointer (some ⟨r,0,none⟩):=by simpa[bu,I.isAgg,q4] using q1.symm
  have hob:=ab.bN n;rw[hn] at hob;obtain ⟨r',b,es,ck,since,bn,last,k1,k2,k3,k4,k5,k6,k7,k8,k9,k9',k10⟩:=hob;rw[k1] at q3;cases q3;obtain ⟨e,e1,e2,rfl⟩:=k9' i rfl;have hi:es.toList[i]?=some e:=by rw[X8];exact e1
  obtain ⟨kk,a1,a2⟩:=lV (j:=i) (v:=e.key) k5 (by simp only[Y9,hi,Z7]);rw[hk] at a1;cases a1;obtain ⟨xx,b1,b2⟩:=lV (j:=i) (v:=e.val) k6 (by simp only[Y9,hi,Z7]);rw[hx] at b1;cases b1;obtain ⟨c1,c2,c3⟩:=oa (po k5 hk) a2;obtain ⟨d1,d2,d3⟩:=oa (po k6 hx) b2;have hf:es.find? (·.born==e.born)=some e:=by rw[←Array.find?_toList];exact find_born e es.toList k4.2.2.2 (List.mem_of_getElem? hi)
  refine ⟨.tuple #[e.key,e.val],?_,?_⟩
  ·have hr:(Instr.entry (.pointer (some ⟨r,0,none⟩))).run c.P w=.ok (.tuple #[e.key,e.val]) w:=by
    simp only[Instr.entry,getObj,Sem.run_bind,Sem.run,k3,k4.1,Result.andThen,e2,bne_self_eq_false,Z2,if_false,hf];rfl
   simp only[execOp,ho,hv,Sem.run_bind,hr,Result.andThen_ok,Sem.run_pure]
  ·simp only[aZ,aE];exact ⟨[e.key,e.val],rfl,e.key,_,c1,rfl,c2,c3,e.val,[],d1,rfl,d2,d3,rfl⟩
theorem DP{w:World}{D:aP}{E:aY}{z:I}{v:Value}(h:al w D E z [v]):∀ n:Nat,aM w D E (List.replicate n z) (List.replicate n v)
 |0=>by simp[aM]
 |n+1=>by simp only[List.replicate_succ,aM];exact ⟨[v],_,rfl,h,DP h n⟩
theorem Lf{t e:TypeId}{l l':Operand}{n':aO}{z:I}{n d:Nat}{k:IntKind}(ho:o.op=.makeSlice t l l')(hll:l'=l)(hu:c.P.underlying t=some (.slice e))(ao:bo c.P 0 l=some n')(h:ak A n'=.int k n)(hz:fW c.P e=some z)(hz1:z.size=1)
  (hc1:c.P.cellsOf e=1) (hby:n*c.P.bytesOf e≤281474976710656) (hmax:n≤maxLen) (af:o.dst=some d) (hn:d<c.n) (hf:A.o d=none):hh c A o ((A.aV d (.box (.agg (List.replicate n z)))).put d (.view d [] 1 0 n)):=by
 subst hll;intro a w D E ab;have J:=bT ab ao;rw[h] at J;obtain ⟨e1,_⟩:=eQ J;obtain ⟨i,zv,hi,hzz,hzr⟩:=kX hz;have hzc:=al.length _ _ (hzr w D E);rw[hz1] at hzc;obtain ⟨u,hu1⟩:∃ u,zv.cells = #[u]:=by
  have:zv.cells.size=1:=by simpa using hzc
  obtain ⟨u,hu⟩:=Array.size_eq_one_iff.1 this;exact ⟨u,hu⟩
 have hsz:i.size=1:=by have:=hc1;simp only[Program.cellsOf,hi,Z7,Option.getD_some] at this;exact this
 have hbytes:(i.bytes:Int)*(n:Int)≤281474976710656:=by
  have:c.P.bytesOf e=i.bytes:=by simp[Program.bytesOf,hi]
  rw[this] at hby;have U:((i.bytes*n:Nat):Int)≤281474976710656:=by rw[Nat.mul_comm] at hby;omega
  rwa [Int.natCast_mul] at U
 have hrun:=run_make (P:=c.P) w t e i zv hu hi hzz k k n n (by omega) (Int.le_refl _) hbytes (by have h9:=hmax;unfold maxLen at h9;omega);simp only[Int.toNat_natCast,hsz,Nat.mul_one] at hrun;have hmc:(madeCells zv.cells n).toList=List.replicate n u:=by
  rw[hu1];simp only[madeCells];apply List.ext_getElem?;intro j;simp[List.getElem?_replicate];split <;>simp_all[Nat.mod_one]
 have hcells:al w D E (.agg (List.replicate n z)) (madeCells zv.cells n).toList:=by
  rw[hmc];simp only[al];refine DP ?_ n;have:=hzr w D E;rw[hu1] at this;simpa using this
 have U:=ab.qE (T:=e) (.inl hn) hf hcells;have ah:=U.put (x:=.view d [] 1 0 n) (v:=.slice (some ⟨w.heap.size,0,none⟩) n n) hn ⟨_,by simp[bu,I.isAgg];rfl,by
  simp only[al,if_true];refine ⟨w.heap.size,_,0,I.cT (List.replicate n z),rfl,by simp[cK.off],by simp[I.aX,cK.part],by simp[I.di],by simpa[I.di] using hmax,by simp[I.di],fun s ab =>?_⟩;rw[I.di] at ab;obtain ⟨y,hy,rfl⟩:=X1.1 ab;rw[I.kR,(List.mem_replicate.1 hy).2,hz1]⟩
 refine ⟨_,.inl ⟨_,?_,D,_,by rw[af];exact ah⟩⟩;simp only[execOp,ho,e1,Sem.run_bind,hrun,Result.andThen_ok,Sem.run_pure]
end
end Go.Abs
namespace Go.Abs
open Go Go.RowKit
mutual
/-- Values that lead to no memory. -/
def I.flat:I→Bool
 | .agg fs | .tuple fs=>I.nk fs
 | .bool _ | .int _ _ | .bO _ | .nilp | .dn | .dS | .any | .raw _ | .undef | .df=>true
 |_=>false
def I.nk:List I→Bool
 | []=>true
 |x::xs=>x.flat&&I.nk xs
end
mutual
theorem al.flat{w w':World}{D D':aP}{E E':aY} : ∀ (x:I) (cs:List Value),x.flat=true→al w D E x cs→al w' D' E' x cs
 | .agg fs,cs,hf,hr=>by simp only[al,I.flat] at *;exact aM.flat fs cs hf hr
 | .bool b,cs,_,hr=>by simpa only[al] using hr
 | .int k n,cs,_,hr=>by simpa only[al] using hr
 | .bO s,cs,_,hr=>by simpa only[al] using hr
 | .nilp,cs,_,hr=>by simpa only[al] using hr
 | .dn,cs,_,hr=>by simpa only[al] using hr
 | .dS,cs,_,hr | .any,cs,_,hr=>by simpa only[al] using hr
 | .raw _,cs,_,hr=>by simpa only[al] using hr
 | .undef,_,_,hr=>by simp only[al] at hr
 | .df,_,_,hr=>by simp only[al] at hr
 | .tuple _,_,_,hr=>by simp only[al] at hr
 | .nils _,_,hf,_ | .c0 _,_,hf,_ | .slice _ _,_,hf,_ | .ref _,_,hf,_ | .func _ _,_,hf,_ | .iface _ _,_,hf,_ | .ptr _ _,_,hf,_ | .own _ _,_,hf,_ | .view _ _ _ _ _,_,hf,_ | .mref _,_,hf,_ | .db _,_,hf,_ | .c7 _ _,_,hf,_=>by simp[I.flat] at hf
theorem aM.flat{w w':World}{D D':aP}{E E':aY} : ∀ (xs:List I) (cs:List Value),I.nk xs=true→aM w D E xs cs→aM w' D' E' xs cs
 | [],cs,_,hr=>by simpa only[aM] using hr
 |x::xs,cs,hf,hr=>by
  simp only[aM,I.nk,t8] at *;obtain ⟨c1,c2,J,U,ah⟩:=hr;exact ⟨c1,c2,J,al.flat x c1 hf.1 U,aM.flat xs c2 hf.2 ah⟩
end
theorem aE.flat{w w':World}{D D':aP}{E E':aY} : ∀ (xs:List I) (vs:List Value),I.nk xs=true→aE w D E xs vs→aE w' D' E' xs vs
 | [],vs,_,hr=>by simpa only[aE] using hr
 |x::xs,vs,hf,hr=>by
  simp only[aE,I.nk,t8] at *;obtain ⟨v,rest,cs,J,U,ah,ar⟩:=hr;exact ⟨v,rest,cs,J,U,al.flat x cs hf.1 ah,aE.flat xs rest hf.2 ar⟩
theorem aZ.flat{w w':World}{D D':aP}{E E':aY}{x:I}{v:Value}(hf:x.flat=true)(hr:aZ w D E x v):aZ w' D' E' x v:=by
 cases x <;>simp only[aZ] at * <;>first
  |exact hr
  |(obtain ⟨vs,J,U⟩:=hr;exact ⟨vs,J,aE.flat _ _ (by simpa[I.flat] using hf) U⟩)
  |(obtain ⟨cs,J,U⟩:=hr;exact ⟨cs,J,al.flat _ _ hf U⟩)
def c9:aY:=fun _=>none
def bf(P:Program)(f:FuncId)(args:List I)(r:I):Prop :=
 eX P f=true∧∀ (w:World) (D:aP) (vs:List Value),gB P w (fun _=>False)→(∀ b o,D b o→b<w.heap.size)→aE w D c9 args vs →
  Calls P f vs.toArray w fun e w'=>∃ v D',e=.returned v∧aZ w' D' c9 r v∧Below w.heap.size w w'∧(∀ b o,D' b o→b<w'.heap.size)∧∀ b o,D' b o→b<w.heap.size→D b o
def cN(P:Program)(f:FuncId)(args:List I)(os:List (Nat×aq))(post:cA):Prop :=
 eX P f=true∧mU (Calls P f) (fun w _ E=>gB P w (cB E)) args os post
def cV(p:Nat→Bool):List (Nat×aq)→Prop
 | []=>True
 |(_,v)::r=>v.only p=true∧cV p r
def eF(ns:List Nat)(os:List (Nat×aq)):List (Nat×aq):=os.filter fun q => !ns.contains q.1
def lu(ns:List Nat)(ts:List (Nat×I)):List (Nat×I):=ts.map fun q=>(q.1,if q.2.only (fun n => !ns.contains n) then q.2 else .df)
def ml(ns:List Nat)(os:List (Nat×aq)):List (Nat×aq):=os.filter fun q=>ns.contains q.1
def iv(ρ:List (Nat×Nat))(os:List (Nat×aq)):List Nat:=os.map fun q=>bF ρ q.1
def gE(aN:Bool)(A0:ai)(ρ:List (Nat×Nat))(os:List (Nat×aq)):List I→List I→Prop
 | [],[]=>True
 |x::xs,c::cs=>((x=c.bl (bF ρ)∧c.only (av os)=true∧c.bS=true)∨bh aN A0 x=some c)∧gE aN A0 ρ os xs cs
 |_,_=>False
structure aC where
 dst:Option Nat
 op:bR
 guard:Option (Nat×Bool)
 deriving Inhabited
inductive cH where
 |done (A:ai)
 |fail
 |call (f:FuncId) (avs:List I) (a1 a2:Option (List I)) (dst:Option Nat) (rest:List aC) (A:ai)
 |kq (v:Value) (avs:List I) (dst:Option Nat) (rest:List aC) (A:ai)
 |jP (f:FuncId) (avs:List I) (dst:Option Nat) (rest:List aC) (A:ai)
 |any (p:Nat→Prop) (k:Nat→cH)
def cL(x:Option I)(k:I→cH):cH:=match x with
 |some v=>k v
 |none=>.fail
def wu(s:Option Nat)(v old:I):Prop:=v.bS=true∧b5 s v=true∧v.aX=old.aX
def wo(e esz bytes l sz:Nat)(ys:List I)(T sz':Nat)(es:List I):Prop:=l=es.length∧sz=esz∧T=e∧sz'=esz∧ys≠[]∧es.length+ys.length≤maxLen∧(es.length+ys.length)*bytes≤140737488355328
def qg(ys:List I):List Int:=ys.filterMap fun y=>match y with | .int .i64 i=>some i | _=>none
def wq(e esz bytes l:Nat)(ys:List I)(T:Nat)(xs:List Int)(z:I):Prop:=l=xs.length∧esz=1∧T=e∧z=.int .i64 0∧ys=(qg ys).map (.int .i64)∧ys≠[]∧xs.length+ys.length≤maxLen∧(xs.length+ys.length)*bytes≤140737488355328
def js:I→Bool
 | .slice _ es=>es.isEmpty
 | .c0 _=>true
 |_=>false
def kC(f:Nat):Nat:=if f<1000000 then f else f-1000000
def hE(f:Nat)(args caps:List I):List I:=if f<1000000 then args++caps else caps++args
theorem vc{f:Nat}(h:f<1000000):kC f=f:=by simp only[kC,if_pos h]
theorem vb{f:Nat}(h:f<1000000)(args caps:List I):hE f args caps=args++caps:=by simp only[hE,if_pos h]
theorem sd(g:Nat):kC (g+1000000)=g:=by simp only[kC,if_neg (show ¬ g+1000000<1000000 by omega),Nat.add_sub_cancel]
theorem u9(g:Nat)(args caps:List I):hE (g+1000000) args caps=caps++args:=by simp only[hE,if_neg (show ¬ g+1000000<1000000 by omega)]
open Classical in
noncomputable def fN(A:ai)(dst:Option Nat)(esz bytes:Nat)(z:I)(es ys:List I)(k:ai→cH):cH :=
 match dst with
 |some d=>match A.o d with
  |none=>if (es.length+ys.length)*bytes≤140737488355328∧es.length+ys.length≤maxLen then
    .any (fun m=>es.length+ys.length+m≤maxLen) (fun m=>k ((A.aV d (.box (.agg (es++(ys++List.replicate m z))))).aT dst (.view d [] esz 0 (es.length+ys.length)))) else .fail
  |some _=>.fail
 |none=>.fail
open Classical in
noncomputable def eW(A:ai)(dst:Option Nat)(esz bytes:Nat)(z:I)(s:I):Option (List I)→Option (List I)→(ai→cH)→cH
 |some es,some ys,k=>if ys=[] then k (A.aT dst s) else match s with
  | .nils _=>fN A dst esz bytes z es ys k
  | .c0 _=>fN A dst esz bytes z es ys k
  | .view n p sz lo l=>match A.o n with
   |some (.box b)=>match b.at p with
    |some (.agg fs)=>if lo+l+ys.length≤fs.length then
      (if sz=esz∧I.cT ys=I.cT ((fs.drop (lo+l)).take ys.length) then k ((A.aV n (.box (iV b p (lo+l) fs ys))).aT dst (.view n p esz lo (l+ys.length))) else .fail)
      else fN A dst esz bytes z es ys k
    |_=>.fail
   |_=>.fail
  |_=>.fail
 |_,_,_=>.fail
open Classical in
noncomputable def ue(A:ai)(dst:Option Nat)(esz bytes:Nat)(z:I)(m:Nat)(s:I):Option (List I)→(ai→cH)→cH
 |some es,k=>match s with
  | .view n p _ lo l=>match A.o n with
   |some (.box b)=>match b.at p with
    |some (.agg fs)=>if 0<m∧fs.length<lo+l+m then fN A dst esz bytes z es (List.replicate m z) k else .fail
    |_=>.fail
   |_=>.fail
  |_=>.fail
 |_,_=>.fail
open Classical in
noncomputable def oy(A:ai)(esz:Nat)(z:I)(k:ai→cH):I→cH
 | .view n p sz lo l=>match A.o n with
  |some (.box b)=>match b.at p with
   |some (.agg fs)=>if sz=esz∧I.cT (List.replicate l z)=I.cT ((fs.drop lo).take l) then k (A.aV n (.box (iV b p lo fs (List.replicate l z)))) else .fail
   |_=>.fail
  |_=>.fail
 | .nils _=>k A
 | .c0 _=>k A
 |_=>.fail
open Classical in
noncomputable def r8(A:ai)(dst:Option Nat)(esz:Nat)(k:ai→cH):I→Option (List I)→cH
 | .view n p sz lo l,some ys=>match A.o n with
  |some (.box b)=>match b.at p with
   |some (.agg fs)=>if sz=esz∧I.cT (ys.take (min ys.length l))=I.cT ((fs.drop lo).take (min ys.length l)) then k ((A.aV n (.box (iV b p lo fs (ys.take (min ys.length l))))).aT dst (.int .i64 (min ys.length l:Nat))) else .fail
   |_=>.fail
  |_=>.fail
 |_,_=>.fail
open Classical in
noncomputable def bj(A:ai)(dst:Option Nat)(op:bR)(rest:List aC)(k:ai→cH):cH :=
 match op with
 | .alloc z=>match dst with
  |some d=>match A.o d with
   |none=>k ((A.aV d (.box z)).put d (.ptr d []))
   |some _=>.fail
  |none=>.fail
 | .box x=>match dst with
  |some d=>match A.o d with
   |none=>if (ak A x).bS then k ((A.aV d (.box (ak A x))).put d (.ptr d [])) else .fail
   |some _=>.fail
  |none=>.fail
 | .bd s x v=>match dst with
  |none=>match ak A x with
   | .ptr n p=>match A.o n with
    |some (.box b)=>match b.at p with
     |some old=>if wu s (ak A v) old then k (A.aV n (.box (b.eh p (ak A v)))) else .fail
     |none=>.fail
    |_=>.fail
   |_=>.fail
  |some _=>.fail
 | .dm e esz bytes z s x=>match ak A s with
  | .own n l=>match ak A x with
   | .slice sz ys=>match A.o n with
    |some (.bW T sz' es)=>if wo e esz bytes l sz ys T sz' es then k ((A.aV n (.bW e esz (es++ys))).aT dst (.own n (es.length+ys.length))) else .fail
    |some (.dC T xs)=>if wq e esz bytes l ys T xs z then k ((A.aV n (.dC e (xs++qg ys))).aT dst (.own n (xs.length+ys.length))) else .fail
    |_=>.fail
   |_=>.fail
  |s'=>eW A dst esz bytes z s' (eE A esz s') (eE A esz (ak A x)) k
 | .lf _ esz bytes z s n=>match ak A n with
  | .int _ m=>ue A dst esz bytes z m.toNat (ak A s) (eE A esz (ak A s)) k
  |_=>.fail
 | .nilS neg x=>if js (ak A x) then .any (fun m=>m<2) (fun m=>k (A.aT dst (.bool (m==0)))) else cL (bm A (.nilS neg x)) fun v=>k (A.aT dst v)
 | .jx esz z x=>match dst with
  |none=>oy A esz z k (ak A x)
  |some _=>.fail
 | .ky esz x y=>r8 A dst esz k (ak A x) (eE A esz (ak A y))
 | .call f args=>.call f (args.map (ak A)) (bZ true A (args.map (ak A))) (bZ false A (args.map (ak A))) dst rest A
 | .fF x args=>match ak A x with
  | .func f caps=>.call (kC f) (hE f (args.map (ak A)) caps) (bZ true A (hE f (args.map (ak A)) caps)) (bZ false A (hE f (args.map (ak A)) caps)) dst rest A
  | .raw v=>.kq v (args.map (ak A)) dst rest A
  |_=>.fail
 | .jP f args=>.jP f (args.map (ak A)) dst rest A
 | .iu=>match dst with
  |some d=>match A.o d with
   |none=>k ((A.aV d (.bp [] [])).put d (.mref d))
   |some _=>.fail
  |none=>.fail
 | .jY _ bytes z n=>match dst with
  |some d=>match A.o d with
   |none=>match ak A n with
    | .int _ n=>if 0≤n∧n.toNat*bytes≤281474976710656∧n.toNat≤maxLen then k ((A.aV d (.box (.agg (List.replicate n.toNat z)))).put d (.view d [] 1 0 n.toNat)) else .fail
    |_=>.fail
   |some _=>.fail
  |none=>.fail
 | .eN ty m key v=>match dst with
  |none=>match ak A m with
   | .mref n=>match A.o n with
    |some (.bp ks vs)=>match fk ty (ak A key) (ak A v) ks vs with
     |some (ks',vs')=>k (A.aV n (.bp ks' vs'))
     |none=>.fail
    |_=>.fail
   |_=>.fail
  |some _=>.fail
 | .ir ty m key=>match dst with
  |none=>match ak A m with
   | .mref n=>match A.o n with
    |some (.bp ks vs)=>match lE ty (ak A key) ks vs with
     |some (ks',vs')=>k (A.aV n (.bp ks' vs'))
     |none=>.fail
    |_=>.fail
   |_=>.fail
  |some _=>.fail
 | .jm x=>match dst with
  |some d=>match A.o d with
   |none=>match ak A x with
    | .c7 ks vs=>k ((A.aV d (.it ks vs (List.range ks.length) none)).put d (.db d))
    |_=>.fail
   |some _=>.fail
  |none=>.fail
 | .hP x=>match ak A x with
  | .db n=>match A.o n with
   |some (.it ks vs left cur)=>if left=[] then k (A.aT dst (.tuple [.bool false])) else
     .any (fun i=>i∈left) fun i=>match ks[i]?,vs[i]? with
      |some kk,some x=>k ((A.aV n (.it ks vs (left.filter (· != i)) (some i))).aT dst (.tuple [.bool true,kk,x]))
      |_,_=>.fail
   |_=>.fail
  |_=>.fail
 |op=>cL (bm A op) fun v=>k (A.aT dst v)
noncomputable def az:List aC→ai→cH
 | [],A=>.done A
 |g::rest,A=>match g.guard with
  |none=>bj A g.dst g.op rest (az rest)
  |some (t,b)=>match A.t t with
   | .bool b'=>if b'=b then bj A g.dst g.op rest (az rest) else az rest (A.aT g.dst .undef)
   | .undef=>az rest (A.aT g.dst .undef)
   |_=>.fail
def F6(P:Program)(A:ai)(f:FuncId)(avs:List I)(r:I):Prop :=
 ∀ (c:cO) (a:Act) (w:World) (D:aP) (E:aY) (vs:List Value),c.P=P→aU c A a w D E→ft (aZ w D E) avs vs→∃ v,(callFunc f vs.toArray).run P w=.ok (.value v) w∧aZ w D E r v
inductive aR (P:Program) (Y:Value→List I→List (Nat×aq)→cA→Prop) (dr:Bool) (K:ai→Prop):cH→Prop where
 |done {A:ai} : K A→aR P Y dr K (.done A)
 |flat {f:FuncId} {avs cargs:List I} {a2:Option (List I)} {dst:Option Nat} {rest:List aC} {A:ai} (r:I):bf P f cargs r→r.flat=true→aR P Y dr K (az rest (A.aT dst r))→aR P Y dr K (.call f avs (some cargs) a2 dst rest A)
 |lead {f:FuncId} {avs cargs:List I} {a1:Option (List I)} {dst:Option Nat} {rest:List aC} {A:ai} (r:I):bf P f cargs r→aR P Y dr K (az rest (A.aT dst r))→aR P Y dr K (.call f avs a1 (some cargs) dst rest A)
 |jy {f:FuncId} {avs cargs:List I} {a1 a2:Option (List I)} {dst:Option Nat} {rest:List aC} {ts:List (Nat×I)} {os0:List (Nat×aq)} (ns:List Nat) (r:I):dr=false→bf P f cargs r→bZ true (au ts (ml ns os0)) avs=some cargs →
   cV (fun n => !ns.contains n) (eF ns os0)→aR P Y dr K (az rest ((au (lu ns ts) (eF ns os0)).aT dst r))→aR P Y dr K (.call f avs a1 a2 dst rest (au ts os0))
 |bN {f:FuncId} {avs:List I} {a1 a2:Option (List I)} {dst:Option Nat} {rest:List aC} {ts:List (Nat×I)} {os0:List (Nat×aq)} (aN:Bool) (ρ:List (Nat×Nat)) (os:List (Nat×aq)) (cargs:List I) (post:cA):dr=false→cN P f cargs os post →
   fX ρ os os0→gE aN (au ts (eF (iv ρ os) os0)) ρ os avs cargs→(∀ r os',post r os'→gq aN ρ os os0 r os') →
   (∀ r os',post r os'→aR P Y dr K (az rest ((au ts (dv ρ os'++os0)).aT dst (r.bl (bF ρ)))))→aR P Y dr K (.call f avs a1 a2 dst rest (au ts os0))
 |tK {v:Value} {avs:List I} {dst:Option Nat} {rest:List aC} {ts:List (Nat×I)} {os0:List (Nat×aq)} (os:List (Nat×aq)) (cargs:List I) (post:cA):dr=false→Y v cargs os post →
   fX [] os os0→gE false (au ts (eF (iv [] os) os0)) [] os avs cargs→(∀ r os',post r os'→gq false [] os os0 r os') →
   (∀ r os',post r os'→aR P Y dr K (az rest ((au ts (dv [] os'++os0)).aT dst (r.bl (bF [])))))→aR P Y dr K (.kq v avs dst rest (au ts os0))
 |ext {f:FuncId} {avs:List I} {dst:Option Nat} {rest:List aC} {A:ai} (r:I):dr=false→F6 P A f avs r→aR P Y dr K (az rest (A.aT dst r))→aR P Y dr K (.jP f avs dst rest A)
 |any {p:Nat→Prop} {k:Nat→cH} : dr=false→(∀ m,p m→aR P Y dr K (k m))→aR P Y dr K (.any p k)
def Ad(n:Nat):Option Nat→Bool
 |some d=>decide (d<n)
 |none=>true
def lh(P:Program)(n:Nat)(aS:Array Oper)(o:Oper):Option aC :=
 match c4 P o with
 |none=>none
 |some g=>if Ad n o.dst=true then
   match o.guard with
   |none=>some ⟨o.dst,g,none⟩
   |some (j,b)=>match (aS[j]?).bind (·.dst) with
    |some t=>some ⟨o.dst,g,some (t,b)⟩
    |none=>none
  else none
def fE(P:Program)(n:Nat)(aS:Array Oper):List Oper→Option (List aC)
 | []=>some []
 |o::l=>match lh P n aS o,fE P n aS l with
  |some g,some gs=>some (g::gs)
  |_,_=>none
end Go.Abs
namespace Go.Abs
open Go Go.RowKit
section
variable {c:cO} {A:ai} {o:Oper} {x:I}
theorem CF{g:bR}(hg:c4 c.P o=some g)(h:bm A g=some x):dD c A o x:=by
 unfold c4 at hg;split at hg
 -- move
 ·rename_i y ho;simp only[t7] at hg;obtain ⟨z,hz,rfl⟩:=hg;simp only[bm,v6] at h;subst h;exact Bc (.inl ho) hz
 ·rename_i y ho;simp only[t7] at hg;obtain ⟨z,hz,rfl⟩:=hg;simp only[bm,v6] at h;subst h;exact Bc (.inr ho) hz
 -- pick
 ·rename_i q y z ho;split at hg
  ·rename_i q' y' z' J U ah;simp only[v6] at hg;subst hg;simp only[bm] at h;split at h
   ·rename_i t ht;simp only[v6] at h;subst h;exact TY ho J U ah ht
   ·cases h
  ·cases hg
 -- binOp
 ·rename_i op t y z yt ho;split at hg
  ·rename_i k y' z' hu J U;simp only[v6] at hg;subst hg;exact Ba ho J U h
  ·rename_i y' z' hu J U;simp only[v6] at hg;subst hg;exact Ba ho J U h
  ·rename_i e y' z' hu J U;split at hg
   ·rename_i s;split at hg
    ·rename_i hop;simp only[v6] at hg;subst hg;have ho':o.op=.binOp (if (op==.neq)=true then .neq else .eql) t y z yt:=by
      rcases hop with rfl | rfl <;>simpa using ho
     simp only[bm] at h;split at h
     ·rename_i s' hs';simp only[v6] at h;subst h;have:=vD (r:=true) ho' hu J U (.inl ⟨s',hs',rfl⟩);rw[show (if (op==BinOp.neq)=true then !true else true) = !(op==BinOp.neq) from by cases (op==BinOp.neq) <;>rfl] at this;exact this
     ·rename_i s' es hs';split at h
      ·cases h
      ·rename_i hne;simp only[v6] at h;subst h;have:=vD (r:=false) ho' hu J U (.inr (.inl ⟨s',es,hs',by simpa using hne,rfl⟩));rw[show (if (op==BinOp.neq)=true then !false else false)=(op==BinOp.neq) from by cases (op==BinOp.neq) <;>rfl] at this;exact this
     ·rename_i n p s' lo k hs';simp only[v6] at h;subst h;have:=vD (r:=false) ho' hu J U (.inr (.inr ⟨n,p,s',lo,k,hs',rfl⟩));rw[show (if (op==BinOp.neq)=true then !false else false)=(op==BinOp.neq) from by cases (op==BinOp.neq) <;>rfl] at this;exact this
     ·cases h
    ·cases hg
   ·cases hg
  ·rename_i e y' z' hu J U;split at hg
   ·rename_i hop;simp only[v6] at hg;subst hg;have ho':o.op=.binOp (if (op==.neq)=true then .neq else .eql) t y z yt:=by
     rcases hop with rfl | rfl <;>simpa using ho
    simp only[bm] at h;cases hb1:iq (ak A y') with
    |none=>rw[hb1] at h;cases h
    |some b1=>cases hb2:iq (ak A z') with
     |none=>rw[hb1,hb2] at h;cases h
     |some b2 =>
      rw[hb1,hb2] at h;simp only[mC] at h;split at h
      ·rename_i hor;simp only[v6] at h;subst h;exact TZ ho' hu J U hb1 hb2 (by simpa using hor)
      ·cases h
   ·cases hg
  ·rename_i d y' z' _ _ _ _ hu J U;split at hg
   ·rename_i hop;simp only[t7] at hg;obtain ⟨ty,hty,rfl⟩:=hg;have ho':o.op=.binOp (if (op==.neq)=true then .neq else .eql) t y z yt:=by
     rcases hop.1 with rfl | rfl <;>simpa using ho
    simp only[bm,t7] at h;obtain ⟨r,hr,rfl⟩:=h;exact TG ho' J U hop.2 hty hr
   ·cases hg
  ·cases hg
 -- unOp
 ·rename_i op t y ho;simp only[t7] at hg;obtain ⟨z,hz,rfl⟩:=hg;simp only[bm] at h;split at h
  ·rename_i b hb;simp only[v6] at h;subst h;exact TX ho hz hb
  ·rename_i k n hb;simp only[v6] at h;subst h;exact TW ho hz hb
  ·rename_i k n hb;simp only[v6] at h;subst h;exact TE ho hz hb
  ·cases h
 -- nilCheck
 ·rename_i y ho;simp only[t7] at hg;obtain ⟨z,hz,rfl⟩:=hg;simp only[bm] at h;cases hy:ak A z <;>rw[hy] at h <;>simp only[lF,v6] at h <;>try (cases h;done)
  ·subst h;rw[←hy];exact Bd ho hz (.inr ⟨_,hy⟩)
  ·subst h;rw[←hy];exact Bd ho hz (.inl ⟨_,_,hy⟩)
 -- makeMap
 ·simp only[v6] at hg;subst hg;simp[bm] at h
 -- lookup
 ·rename_i t m k ok ho;split at hg
  ·rename_i kt et m' k' hu J U;split at hg
   ·rename_i ty z hk hz;split at hg
    ·rename_i hp;simp only[v6] at hg;subst hg;simp only[bm] at h;cases hm:fQ A (ak A m') with
     |none=>rw[hm] at h;cases h
     |some q =>
      obtain ⟨ks,vs⟩:=q;rw[hm] at h;simp only[qv] at h;cases ao:fj ty z (ak A k') ks vs with
      |none=>rw[ao] at h;cases h
      |some q =>
       obtain ⟨v,b⟩:=q;rw[ao] at h;simp only[qw,v6] at h;subst h;exact TS ho hu hk hz hp J U hm ao
    ·cases hg
   ·cases hg
  ·cases hg
 -- mapUpdate,insert
 iterate 2
  ·split at hg
   ·split at hg
    ·simp only[v6] at hg;subst hg;simp[bm] at h
    ·cases hg
   ·cases hg
 -- makeSlice
 ·split at hg
  ·split at hg
   ·split at hg
    ·simp only[v6] at hg;subst hg;simp[bm] at h
    ·cases hg
   ·cases hg
  ·cases hg
 -- range
 ·split at hg
  ·simp only[t7] at hg;obtain ⟨z,_,rfl⟩:=hg;simp[bm] at h
  ·cases hg
 -- next
 ·simp only[t7] at hg;obtain ⟨z,_,rfl⟩:=hg;simp[bm] at h
 -- entry
 ·rename_i y ho;simp only[t7] at hg;obtain ⟨z,hz,rfl⟩:=hg;simp only[bm] at h;split at h
  ·rename_i n hn;split at h
   ·rename_i ks vs left cur hob;cases cur with
    |none=>cases h
    |some i =>
     simp only[mc] at h;split at h
     ·rename_i kk xx hk hx;simp only[v6] at h;subst h;exact TF ho hz hn hob hk hx
     ·cases h
   ·cases h
  ·cases h
 -- convert
 ·rename_i mM dst y ho;split at hg
  ·rename_i k0 k y' J U ah;simp only[v6] at hg;subst hg;simp only[bm] at h;split at h
   ·rename_i k1 n hn;simp only[v6] at h;subst h;exact TD ho J U ah hn
   ·cases h
  ·cases hg
 -- load
 ·rename_i t y ho;split at hg
  ·rename_i s y' J U;simp only[v6] at hg;subst hg;simp only[bm] at h;split at h
   ·rename_i v hv;split at h
    ·rename_i hok;simp only[v6] at h;subst h;exact TR ho J U hv hok
    ·cases h
   ·cases h
  ·cases hg
 -- fieldAddr
 ·rename_i t y f ho;split at hg
  ·rename_i fs y' hu J;split at hg
   ·rename_i fd hf;split at hg
    ·cases hg
    ·rename_i hz;simp only[v6] at hg;subst hg;simp only[bm] at h;split at h
     ·rename_i gs hgs;split at h
      ·rename_i v hv;split at h
       ·rename_i hoff;simp only[v6] at h;subst h;exact TJ ho hu hf hz J hgs hv hoff
       ·cases h
      ·cases h
     ·rename_i n p hp;split at h
      ·rename_i gs hgs;split at h
       ·rename_i hoff;simp only[v6] at h;subst h;exact TI ho hu hf hz J hp hgs hoff.1 hoff.2
       ·cases h
      ·cases h
     ·cases h
   ·cases hg
  ·cases hg
 -- field
 ·rename_i t y f ho;split at hg
  ·rename_i fs y' hu J;split at hg
   ·rename_i fd hf;simp only[t7] at hg;obtain ⟨s,ab,rfl⟩:=hg;simp only[bm] at h;split at h
    ·rename_i gs hgs;split at h
     ·rename_i v hv;split at h
      ·rename_i hoff;simp only[v6] at h;subst h;exact TK ho hu hf ab J hgs hv hoff.1 hoff.2
      ·cases h
     ·cases h
    ·cases h
   ·cases hg
  ·cases hg
 -- indexAddr
 ·rename_i t y i ho;split at hg
  ·rename_i n e y' i' hu J U;split at hg
   ·rename_i hinfo;obtain ⟨ti,hti⟩:=Y8.1 hinfo;simp only[v6] at hg;subst hg;simp only[bm] at h;split at h
    ·rename_i kk k hk;split at h
     ·rename_i hb;split at h
      ·rename_i gs hgs;split at h
       ·rename_i hev;simp only[t7] at h;obtain ⟨v,hv,rfl⟩:=h;exact TM ho hu hti J U hgs hk hb hev hv
       ·cases h
      ·rename_i m p hp;split at h
       ·rename_i gs hgs;split at h
        ·rename_i hev;simp only[v6] at h;subst h;exact TL ho hu hti J U hp hk hb hgs hev
        ·cases h
       ·cases h
      ·cases h
     ·cases h
    ·cases h
   ·cases hg
  ·rename_i e y' i' hu J U;split at hg
   ·rename_i hinfo;obtain ⟨ti,hti⟩:=Y8.1 hinfo;simp only[v6] at hg;subst hg;simp only[bm] at h;split at h
    ·rename_i kk k hk;split at h
     ·rename_i sz es hes;split at h
      ·rename_i hb;obtain ⟨rfl,hb⟩:=hb;simp only[t7] at h;obtain ⟨v,hv,rfl⟩:=h;exact TN ho hu hti J U hes hk hb hv
      ·cases h
     ·rename_i m l hm;split at h
      ·rename_i T sz es hes;split at h
       ·rename_i hb;obtain ⟨rfl,rfl,hb⟩:=hb;simp only[t7] at h;obtain ⟨v,hv,rfl⟩:=h;exact TO ho hu hti J U hm hes hk hb hv
       ·cases h
      ·cases h
     ·rename_i m p sz lo l hm;split at h
      ·rename_i fs hfs;split at h
       ·rename_i hb;simp only[v6] at h;subst h;exact TP ho hu hti J U hb.1 hm hfs hk hb.2
       ·cases h
      ·cases h
     ·cases h
    ·cases h
   ·cases hg
  ·cases hg
 -- index
 ·rename_i t y i ho;split at hg
  ·rename_i n e y' i' hu J U;simp only[t7] at hg;obtain ⟨s,ab,rfl⟩:=hg;simp only[bm] at h;split at h
   ·rename_i kk k hk;split at h
    ·rename_i hb;split at h
     ·rename_i gs hgs;split at h
      ·rename_i hev;split at h
       ·rename_i v hv;split at h
        ·rename_i hok;simp only[v6] at h;subst h;exact TQ ho hu ab J U hgs hk hb hev hv hok
        ·cases h
       ·cases h
      ·cases h
     ·cases h
    ·cases h
   ·cases h
  ·cases hg
 -- slice
 ·rename_i t y lo hi mx ho;split at hg
  ·rename_i n e y' hu J;split at hg
   ·split at hg
    ·rename_i hinfo;obtain ⟨ti,hti⟩:=Y8.1 hinfo;simp only[v6] at hg;subst hg;simp only[bm] at h;split at h
     ·rename_i m p hp;split at h
      ·rename_i gs hgs;split at h
       ·rename_i hev;simp only[v6] at h;subst h;exact T1 ho hu hti J hp hgs hev.1 hev.2.1 hev.2.2
       ·cases h
      ·cases h
     ·rename_i gs hgs;split at h
      ·rename_i hev;simp only[v6] at h;subst h;exact T2 ho hu hti J hgs hev.1 hev.2.1
      ·cases h
     ·cases h
    ·cases hg
   ·cases hg
  ·rename_i e y' hu J;split at hg
   ·rename_i lo' hi' mx' q1 q2 q3;split at hg
    ·rename_i hc;obtain ⟨ti,hti⟩:=Y8.1 hc.2;simp only[v6] at hg;subst hg;simp only[bm] at h;split at h
     ·rename_i sz es hes;split at h
      ·rename_i hsz;subst hsz;exact vE ho hu hti J q1 q2 q3 hc.1 (.inl hes) h
      ·cases h
     ·rename_i sz hes;split at h
      ·rename_i hsz;subst hsz;exact vE ho hu hti J q1 q2 q3 hc.1 (.inr (.inl ⟨hes,rfl⟩)) h
      ·cases h
     ·rename_i sz hes;split at h
      ·rename_i hsz;subst hsz;exact vE ho hu hti J q1 q2 q3 hc.1 (.inr (.inr ⟨hes,rfl⟩)) h
      ·cases h
     ·rename_i n p sz l0 k hv;split at h
      ·rename_i fs hfs;split at h
       ·rename_i hsz;exact T0 ho hu hti J q1 q2 q3 hc.1 hsz hv hfs h
       ·cases h
      ·cases h
     ·cases h
    ·cases hg
   ·cases hg
  ·cases hg
 -- build
 ·rename_i t parts ho;split at hg
  ·rename_i zs ps hz hp;split at hg
   ·rename_i fs hu;split at hg
    ·rename_i hc;simp only[v6] at hg;subst hg;simp only[bm,t7] at h;obtain ⟨zs',h,rfl⟩:=h;exact Bb ho hz hp (.inl ⟨fs,hu,hc.1,hc.2⟩) h
    ·cases hg
   ·rename_i n e hu;split at hg
    ·rename_i hc;simp only[v6] at hg;subst hg;simp only[bm,t7] at h;obtain ⟨zs',h,rfl⟩:=h;exact Bb ho hz hp (.inr ⟨n,e,hu,hc.1,hc.2.1,hc.2.2⟩) h
    ·cases hg
   ·cases hg
  ·cases hg
 -- buildSlice
 ·rename_i t len parts ho;split at hg
  ·rename_i e hu;split at hg
   ·rename_i ps hp;split at hg
    ·rename_i aW;obtain ⟨rfl,rfl,aW⟩:=aW;obtain ⟨ti,hti⟩:=Y8.1 aW;simp only[v6] at hg;subst hg;simp only[bm,v6] at h;subst h;exact TC ho hu hti
    split at hg
    ·rename_i hc;obtain ⟨c1,c2,c3,r5,Hg⟩:=hc;simp only[v6] at hg;subst hg;simp only[bm] at h;split at h
     ·rename_i es hes;split at h
      ·rename_i hev;simp only[v6] at h;subst h;refine TB ho hu hp c1 c2 c3 r5 Hg hes (fun y hy =>?_) hev.2;have:=X0.1 hev.1 y hy;simpa using this
      ·cases h
     ·cases h
    ·cases hg
   ·cases hg
  ·cases hg
 -- extract
 ·rename_i y i ho;simp only[t7] at hg;obtain ⟨z,hz,rfl⟩:=hg;simp only[bm] at h;split at h
  ·rename_i fs hfs;exact TH ho hz hfs h
  ·cases h
 -- makeFunc
 ·rename_i f first caps ho
  split at hg
  case isFalse=>cases hg
  rename_i hlt;split at hg
  ·rename_i hfirst;simp only[t7] at hg;obtain ⟨ys,hys,rfl⟩:=hg;simp only[bm] at h;split at h
   ·rename_i hv;simp only[v6] at h;subst h;have hf:first = #[]:=by simpa using hfirst
    rw[hf] at ho;refine TT hlt ho hys (fun y hy =>?_);have:=X0.1 hv (ak A y) (X1.2 ⟨y,hy,rfl⟩);exact this
   ·cases h
  ·split at hg
   case isFalse=>cases hg
   rename_i hcaps;simp only[t7] at hg;obtain ⟨ys,hys,rfl⟩:=hg;simp only[bm] at h;split at h
   ·rename_i hv;simp only[v6] at h;subst h;have hf:caps = #[]:=by simpa using hcaps
    rw[hf] at ho;refine TU ho hys (fun y hy =>?_);have:=X0.1 hv (ak A y) (X1.2 ⟨y,hy,rfl⟩);exact this
   ·cases h
 -- alloc
 ·simp only[t7] at hg;obtain ⟨z,_,rfl⟩:=hg;simp[bm] at h
 -- box
 ·simp only[t7] at hg;obtain ⟨z,_,rfl⟩:=hg;simp[bm] at h
 -- store
 ·split at hg
  ·split at hg
   ·simp only[v6] at hg;subst hg;simp[bm] at h
   ·cases hg
  ·cases hg
 -- call
 ·split at hg
  ·simp only[t7] at hg;obtain ⟨z,_,rfl⟩:=hg;simp[bm] at h
  ·simp only[t7] at hg;obtain ⟨z,_,rfl⟩:=hg;simp[bm] at h
 ·split at hg
  ·simp only[v6] at hg;subst hg;simp[bm] at h
  ·cases hg
 -- len
 ·rename_i args tys ho;split at hg
  ·rename_i y ty hargs htys;have ho':o.op=.call { callee:=.builtin .len,args := #[y],argTypes := #[ty] } :=by
    rw[ho];have e1:args = #[y]:=by apply Array.ext';simpa using hargs
    have e2:tys = #[ty]:=by apply Array.ext';simpa using htys
    rw[e1,e2]
   split at hg
   ·rename_i e hu;simp only[t7] at hg;obtain ⟨y',hy,rfl⟩:=hg;simp only[bm] at h;split at h
    ·rename_i sz es hes;simp only[v6] at h;subst h;refine oG ho' hu (.inl ⟨e,rfl⟩) hy (fun a w D E ab v hv =>?_);rw[hes] at hv;obtain ⟨ad,cap,e1,e2,e3,_⟩:=mI hv;exact ⟨zz9 e2 e3,fun _=>⟨ad,cap,e1⟩,fun e=>by cases e⟩
    ·rename_i sz hes;simp only[v6] at h;subst h;refine oG (n:=0) ho' hu (.inl ⟨e,rfl⟩) hy (fun a w D E ab v hv =>?_);rw[hes] at hv;obtain ⟨cs,q1,q2⟩:=hv;simp only[al] at q2;exact ⟨by simp[maxLen],fun _=>⟨none,0,by simpa[bu,I.isAgg,q2] using q1.symm⟩,fun e=>by cases e⟩
    ·rename_i sz hes;simp only[v6] at h;subst h;refine oG (n:=0) ho' hu (.inl ⟨e,rfl⟩) hy (fun a w D E ab v hv =>?_);rw[hes] at hv;obtain ⟨cs,q1,q2⟩:=hv;simp only[al] at q2;obtain ⟨ad,q2⟩:=q2;exact ⟨by simp[maxLen],fun _=>⟨ad,0,by simpa[bu,I.isAgg,q2] using q1.symm⟩,fun e=>by cases e⟩
    ·rename_i m l hm;split at h
     ·rename_i T sz es hes;split at h
      ·rename_i ao;subst ao;simp only[v6] at h;subst h;refine oG ho' hu (.inl ⟨e,rfl⟩) hy (fun a w D E ab v hv =>?_);rw[hm] at hv;rcases ab.own hes hv with ⟨rfl,_,rfl⟩ | ⟨b,cap,cs,pre,rest,_,rfl,_,_,_,_,_,k8,k9,_⟩
       ·exact ⟨by simp[maxLen],fun _=>⟨none,0,rfl⟩,fun e=>by cases e⟩
       ·exact ⟨zz9 k8 k9,fun _=>⟨_,_,rfl⟩,fun e=>by cases e⟩
      ·cases h
     ·cases h
    ·rename_i n p sz lo k hm;simp only[v6] at h;subst h;refine oG ho' hu (.inl ⟨e,rfl⟩) hy (fun a w D E ab v hv =>?_);rw[hm] at hv;obtain ⟨cs,q1,q2⟩:=hv;simp only[al] at q2;obtain ⟨b,aX,off,l,_,_,_,q2,q3,q4,_⟩:=q2;exact ⟨by omega,fun _=>⟨_,_,by simpa[bu,I.isAgg,q2] using q1.symm⟩,fun e=>by cases e⟩
    ·cases h
   ·rename_i hu;simp only[t7] at hg;obtain ⟨y',hy,rfl⟩:=hg;simp only[bm] at h;split at h
    ·rename_i s hs';simp only[v6] at h;subst h;refine oG ho' hu (.inr rfl) hy (fun a w D E ab v hv =>?_);rw[hs'] at hv;obtain ⟨e1,e2⟩:=mJ hv;exact ⟨e2,(fun e=>by obtain ⟨_,e⟩:=e;cases e),fun _=>⟨s,e1,rfl⟩⟩
    ·cases h
   ·cases hg
  ·cases hg
 -- append
 ·split at hg
  ·split at hg
   ·split at hg
    ·simp only[t7] at hg;obtain ⟨z,_,rfl⟩:=hg;simp[bm] at h
    ·split at hg
     ·simp only[t7] at hg;obtain ⟨z,_,rfl⟩:=hg;simp[bm] at h
     ·cases hg
   ·cases hg
  ·cases hg
 -- cap
 ·rename_i args tys ho;split at hg
  ·rename_i y ty hargs htys;have ho':o.op=.call { callee:=.builtin .cap,args := #[y],argTypes := #[ty] } :=by
    rw[ho];have e1:args = #[y]:=by apply Array.ext';simpa using hargs
    have e2:tys = #[ty]:=by apply Array.ext';simpa using htys
    rw[e1,e2]
   split at hg
   ·rename_i e hu;simp only[t7] at hg;obtain ⟨y',hy,rfl⟩:=hg;simp only[bm] at h;split at h
    ·rename_i sz hes;simp only[v6] at h;subst h;refine vC ho' hu hy (fun a w D E ab v hv =>?_);rw[hes] at hv;obtain ⟨cs,q1,q2⟩:=hv;simp only[al] at q2;exact ⟨by simp[maxLen],_,_,by simpa[bu,I.isAgg,q2] using q1.symm⟩
    ·rename_i sz hes;simp only[v6] at h;subst h;refine vC ho' hu hy (fun a w D E ab v hv =>?_);rw[hes] at hv;obtain ⟨cs,q1,q2⟩:=hv;simp only[al] at q2;obtain ⟨ad,q2⟩:=q2;exact ⟨by simp[maxLen],_,_,by simpa[bu,I.isAgg,q2] using q1.symm⟩
    ·rename_i n p sz lo k hm;split at h
     ·rename_i fs hfs;simp only[v6] at h;subst h;refine vC ho' hu hy (fun a w D E ab v hv =>?_);rw[hm] at hv;obtain ⟨_,b,cs,T,off,c1,c2,c3,_,_,_,_,_,_,_,_,_,_,_,q1,q2⟩:=ab.view hv hfs;exact ⟨by omega,_,_,q2⟩
     ·cases h
    ·cases h
   ·cases hg
  ·cases hg
 -- clear
 ·split at hg
  ·split at hg
   ·simp only[t7] at hg;obtain ⟨z,_,rfl⟩:=hg;simp[bm] at h
   ·cases hg
  ·cases hg
 -- copy
 ·split at hg
  ·split at hg
   ·split at hg
    ·simp only[v6] at hg;subst hg;simp[bm] at h
    ·cases hg
   ·cases hg
  ·cases hg
 -- delete
 ·split at hg
  ·split at hg
   ·simp only[t7] at hg;obtain ⟨z,_,rfl⟩:=hg;simp[bm] at h
   ·cases hg
  ·cases hg
 -- max
 ·rename_i args _ ho;split at hg
  ·rename_i x y hargs;split at hg
   ·rename_i x' y' J U;simp only[v6] at hg;subst hg;simp only[bm] at h;have e1:args = #[x,y]:=by apply Array.ext';simpa using hargs
    rw[e1] at ho;exact TV ho J U h
   ·cases hg
  ·cases hg
 ·cases hg
theorem ft.append{α β:Type}{R:α→β→Prop} : ∀ {xs:List α} {ys:List β} {xs':List α} {ys':List β},ft R xs ys→ft R xs' ys'→ft R (xs++xs') (ys++ys')
 |_,_,_,_,.nil,h=>h
 |_,_,_,_,.cons J U,h=>.cons J (U.append h)
theorem rh{w:World}{D:aP}{E:aY} : ∀ {xs:List I} {vs:List Value},aE w D E xs vs→ft (aZ w D E) xs vs
 | [],vs,h=>by simp only[aE] at h;subst h;exact .nil
 |x::xs,vs,h=>by
  simp only[aE] at h;obtain ⟨v,rest,cs,rfl,J,U,ah⟩:=h;exact .cons (jh J U) (rh ah)
theorem Ic {P : Program} {f : FuncId} (h : eX P f = true) : ∃ fn, P.funcs[f]? = some fn ∧ ¬ fn.name = "runtime.NumGoroutine" ∧ ¬ fn.body = none := by
 unfold eX at h;rw[t8] at h
 replace h:=h.2
 cases hf:P.funcs[f]? with
 |none=>simp[hf] at h
 |some fn =>
  simp only[hf,Option.any_some,t8,bne_iff_ne,ne_eq] at h;refine ⟨fn,rfl,by simpa using h.1,?_⟩;cases hb:fn.body <;>simp_all
theorem zF{P:Program}{f:FuncId}(h:eX P f=true):f<1000000:=by
 unfold eX at h;rw[t8] at h;simpa[Nat.blt_eq] using h.1
theorem mH{P:Program}{w:World}{f:FuncId}{args:Array Value}(h:eX P f=true):(callFunc f args).run P w=.ok (.enter f args) w:=by
 obtain ⟨fn,J,U,ah⟩:=Ic h;simp[callFunc,J,U,ah]
theorem aU.hJ{A:ai}{a:Act}{w:World}{D:aP}{E:aY}(h:aU c A a w D E){n:Nat}{e:bJ}{b:Nat}(he:E n=some e)(hb:e.aF=some b):c.eV b:=by
 have:=h.bN n;unfold cR at this;split at this
 ·simp[this] at he
 ·obtain ⟨b',cs,T,J,U,_⟩:=this;rw[J,v6] at he;subst he;simp only[bJ.aF,v6] at hb;exact hb▸U
 ·obtain ⟨aF,J,U,ah⟩:=this;rw[J,v6] at he;subst he;split at ah
  ·cases hb
  ·obtain ⟨cs,pre,rest,ar,_⟩:=ah;simp only[bJ.aF,v6] at hb;exact hb▸ar
 ·obtain ⟨b',J,U,_⟩:=this;rw[J,v6] at he;subst he;simp only[bJ.aF,v6] at hb;exact hb▸U
 ·obtain ⟨b',es,ck,J,U,_⟩:=this;rw[J,v6] at he;subst he;simp only[bJ.aF,v6] at hb;exact hb▸U
 ·obtain ⟨b',bb,es,ck,si,se,la,J,U,_⟩:=this;rw[J,v6] at he;subst he;simp only[bJ.aF,v6] at hb;exact hb▸U
 ·obtain ⟨aF,J,U,ah⟩:=this;rw[J,v6] at he;subst he;split at ah
  ·cases hb
  ·obtain ⟨cs,m,ar,_⟩:=ah;simp only[bJ.aF,v6] at hb;exact hb▸ar
theorem aU.qu{A:ai}{a:Act}{w:World}{D:aP}{E:aY}(h:aU c A a w D E):gB c.P w (cB E) :=
 h.eS.1.Uk h.dH (fun _ hb=>hb) fun _ ⟨_,_,J,U⟩=>h.hJ J U
theorem aU.vN{A:ai}{a:Act}{w:World}{D:aP}{E:aY}(h:aU c A a w D E):gB c.P w (fun _=>False):=h.qu.nv fun _ h=>h.elim
theorem aU.oP{A:ai}{a:Act}{w:World}{D:aP}{E:aY}(h:aU c A a w D E){ρ:List (Nat×Nat)}{os:List (Nat×aq)} : gB c.P w (cB (ay ρ os E)):=h.qu.nv fun b ⟨n,e,J,U⟩=>by
 simp only[ay] at J;split at J
 ·exact ⟨_,e,J,U⟩
 ·cases J
theorem bf.Xt{f:FuncId}{avs cargs:List I}{r:I}{vs:List Value}{a:Act}{w:World}{D:aP}{E:aY}(ab:aU c A a w D E)(h:bf c.P f cargs r)(hf:r.flat=true)(hc:bZ true A avs=some cargs)(hv:ft (aZ w D E) avs vs) :
  Calls c.P f vs.toArray w fun e w'=>∃ v D',e=.returned v∧aU c A a w' D' E∧aZ w' D' E r v:=by
 have hw:hl true A D E (fun b _=>b<w.heap.size):=by
  refine ⟨fun b o af=>ab.aQ b o af,fun n T sz es b cap hn ay o _=>ab.fO ay rfl,fun _ n x b aX hn ay o _=>ab.fO ay rfl,fun _ n ks vs b hn ay=>ab.fO ay rfl⟩
 have hrv:=lx (E':=c9) ab (fun _ _ h=>h) hw avs cargs vs (kP _ _ hv (p0 hc)) hc;refine (h.2 w _ vs ab.vN (fun _ _ af=>af) hrv).mono fun e w' ⟨v,D',he,J,U,ah,ar⟩=>⟨v,D,he,?_,aZ.flat hf J⟩
 exact ab.grow U (fun _ _ af=>af) (fun _ _ af _=>af) (fun b o af=>Nat.lt_of_lt_of_le (ab.aQ b o af) U.size)
theorem bf.Xv{f:FuncId}{avs cargs:List I}{r:I}{vs:List Value}{a:Act}{w:World}{D:aP}{E:aY}(ab:aU c A a w D E)(h:bf c.P f cargs r)(hc:bZ false A avs=some cargs)(hv:ft (aZ w D E) avs vs) :
  Calls c.P f vs.toArray w fun e w'=>∃ v D',e=.returned v∧aU c A a w' D' E∧aZ w' D' E r v:=by
 obtain ⟨hs1,hw⟩:=ab.nU;have hrv:=lx (E':=c9) ab (fun _ _ h=>h) hw avs cargs vs (kP _ _ hv (p0 hc)) hc;refine (h.2 w _ vs ab.vN hs1.aQ hrv).mono fun e w' ⟨v,D',he,J,U,ah,ar⟩=>⟨v,fun b o=>nR A D E b o∨(w.heap.size≤b∧D' b o),he,?_,?_⟩
 ·refine hs1.grow U (fun _ _ af=>.inl af) ?_ ?_
  ·rintro b o (af | ⟨hle,_⟩) hlt
   ·exact af
   ·omega
  ·rintro b o (af | ⟨_,af⟩)
   ·exact Nat.lt_of_lt_of_le (hs1.aQ b o af) U.size
   ·exact ah b o af
 ·refine aZ.later (E:=c9) ⟨fun b o af =>?_,fun _ _ _ _ h=>h,fun n b aX hn=>by simp[c9] at hn,fun n aF l hn=>by simp[c9] at hn,fun n b hn=>by simp[c9] at hn,fun n b hn=>by simp[c9] at hn,fun _ _ _ _ h=>h⟩ J;rcases Nat.lt_or_ge b w.heap.size with hlt | hge
  ·exact .inl (ar b o af hlt)
  ·exact .inr ⟨hge,af⟩
theorem BK(p:Nat→Bool)(os:List (Nat×aq))(n:Nat):aj (os.filter fun q=>p q.1) n=if p n then aj os n else none:=by
 induction os with
 |nil=>simp[aj]
 |cons q os ih =>
  obtain ⟨k,v⟩:=q;simp only[List.filter_cons];by_cases hk:p k=true
  ·simp only[hk,if_true,aj,ih];by_cases hn:n=k
   ·subst hn;simp only[hk,if_true]
   ·simp only[if_neg hn]
  ·simp only[hk,Z2,if_false,ih,aj];by_cases hn:n=k
   ·subst hn;simp[hk]
   ·simp only[if_neg hn]
theorem nw(ns:List Nat)(os:List (Nat×aq))(n:Nat):aj (eF ns os) n=if ns.contains n then none else aj os n:=by
 rw[eF,BK (fun n => !ns.contains n)];cases ns.contains n <;>rfl
theorem oS(ns:List Nat)(os:List (Nat×aq))(n:Nat):aj (ml ns os) n=if ns.contains n then aj os n else none:=BK _ _ _
theorem wy{p:Nat→Bool} : ∀ {os:List (Nat×aq)},cV p os→∀ k x,aj os k=some x→x.only p=true
 | [],_,k,x,hx=>by simp[aj] at hx
 |(j,v)::r,h,k,x,hx=>by
  simp only[cV] at h;simp only[aj] at hx;split at hx
  ·simp only[v6] at hx;subst hx;exact h.1
  ·exact wy h.2 k x hx
theorem BN(ns:List Nat):∀ (ts:List (Nat×I)) (t:Nat),bU (lu ns ts) t=if (bU ts t).only (fun n => !ns.contains n) then bU ts t else .df
 | [],t=>by simp[lu,bU,I.only]
 |(k,v)::r,t=>by
  simp only[lu,Z3,bU];by_cases h:t=k
  ·simp only[if_pos h]
  ·simp only[if_neg h];exact BN ns r t
theorem aU.AH{a:Act}{w:World}{D:aP}{E:aY}{ts:List (Nat×I)}{os0:List (Nat×aq)}(h:aU c (au ts os0) a w D E)(ns:List Nat)(ho:cV (fun n => !ns.contains n) (eF ns os0)) :
  ∃ D' E',aU c (au (lu ns ts) (eF ns os0)) a w D' E'∧hl true (au ts (ml ns os0)) D E D':=by
 have J:=h.nU.1;have hw1:=h.nU.2;obtain ⟨D1,hD1⟩:∃ D1,D1=nR (au ts os0) D E:=⟨_,rfl⟩
 rw[←hD1] at J hw1;obtain ⟨D2,hD2⟩:∃ D2:aP,D2=fun b o=>D1 b o∨(∃ n x aX,ns.contains n=true∧aj os0 n=some (.box x)∧E n=some (.aN b aX)∧o<x.size)∨∃ n ks vs,ns.contains n=true∧aj os0 n=some (.bp ks vs)∧E n=some (.bp b)∧o=0:=⟨_,rfl⟩
 obtain ⟨E2,hE2⟩:∃ E2:aY,E2=fun n=>if ns.contains n then none else E n:=⟨_,rfl⟩
 have e2:∀ n,(!ns.contains n)=true→E2 n=E n:=fun n hn=>by rw[hE2];simp at hn;simp[hn]
 have ao:dQ w D1 E2 w D2 E2:=⟨fun b o af=>by rw[hD2];exact .inl af,fun _ _ _ _ h=>h,fun _ _ _ h=>h,fun _ aF l h=>⟨aF,l,h,Z4 _,fun _=>rfl⟩,fun _ _ h=>h,fun _ _ h=>h,fun _ _ _ _ h=>h⟩
 have oV:∀ b o,D2 b o→D1 b o∨∃ n e q,ns.contains n=true∧E n=some e∧e.aF=some b∧c.eV b∧w.heap[b]?=some q:=fun b o af=>by
  rw[hD2] at af;rcases af with af | ⟨n,x,aX,k1,k2,k3,k4⟩ | ⟨n,ks,vs,k1,k2,k3,_⟩
  ·exact .inl af
  ·obtain ⟨b',cs,T,q1,q2,q3,_⟩:=h.box (n:=n) (x:=x) (by simpa[au] using k2);rw[k3] at q1;simp only[v6,bJ.aN.injEq] at q1;obtain ⟨rfl,rfl⟩:=q1;exact .inr ⟨n,_,_,k1,k3,rfl,q2,q3⟩
  ·obtain ⟨b',es,ck,q1,q2,q3,_⟩:=h.map (n:=n) (ks:=ks) (vs:=vs) (by simpa[au] using k2);rw[k3] at q1;cases q1;exact .inr ⟨n,_,_,k1,k3,rfl,q2,q3⟩
 refine ⟨D2,E2,⟨J.sz,J.er,fun t =>?_,J.dH,fun b o af hm =>?_,fun b o af =>?_,fun n =>?_,fun n m e e' b g1 g2 g3 g4 =>?_,fun n e hn =>?_,J.eK,fun b o af=>ao.cU b o (J.cM b o af),J.eS,J.fp⟩,?_⟩
 ·simp only[au,BN];have ht:=J.dL t;simp only[au] at ht;split
  ·rename_i hp;exact aZ.later ao (aZ.cX e2 hp ht)
  ·simp[aZ]
 ·rcases oV b o af with af | ⟨n,e,q,_,_,_,k,_⟩
  ·exact J.cU b o af hm
  ·exact absurd k hm
 ·rcases oV b o af with af | ⟨n,e,q,_,_,_,_,k⟩
  ·exact J.aQ b o af
  ·exact fA k
 ·simp only[au,nw];by_cases hn:ns.contains n=true
  ·simp only[hn,if_true,cR];rw[hE2];simp only[hn,if_true]
  ·have hnb:(!ns.contains n)=true:=by simpa using hn
   simp only[hn,Z2,if_false];have hob:=J.bN n;simp only[au] at hob;cases hx:aj os0 n with
   |none=>rw[hx] at hob;simp only[cR] at hob ⊢;rw[e2 n hnb];exact hob
   |some x =>
    have hon:=wy ho n x (by rw[nw,if_neg hn];exact hx);have nD:∀ e b,E n=some e→e.aF=some b→∀ o,D2 b o→D1 b o:=fun e b he hb o af=>by
     rcases oV b o af with af | ⟨m,e',q,k1,k3,k2,_⟩
     ·exact af
     ·have:=h.cJ n m e _ b he k3 hb k2;subst this;exact absurd k1 hn
    rw[hx] at hob;cases x with
    |box x =>
     obtain ⟨b,cs,T,k1,k2,k3,k4,k5⟩:=hob;exact ⟨b,cs,T,(e2 n hnb).trans k1,k2,k3,al.later ao _ _ (al.cX e2 _ _ (by simpa[aq.only] using hon) k4),fun o af=>k5 o (nD _ b k1 rfl o af)⟩
    |bW T sz es =>
     obtain ⟨aF,k1,k2,k3⟩:=hob;refine ⟨aF,(e2 n hnb).trans k1,k2,?_⟩;cases aF with
     |none=>exact k3
     |some bc =>
      obtain ⟨b,cap⟩:=bc;obtain ⟨cs,pre,rest,q1,q2,q3,q4,q5,q6,q7,q8⟩:=k3;exact ⟨cs,pre,rest,q1,q2,q3,aM.later ao _ _ (aM.cX e2 _ _ (by simpa[aq.only] using hon) q4),q5,q6,q7,fun o af=>q8 o (nD _ b k1 rfl o af)⟩
    |dC T xs =>
     obtain ⟨aF,k1,k2,k3⟩:=hob;refine ⟨aF,(e2 n hnb).trans k1,k2,?_⟩;cases aF with
     |none=>exact k3
     |some bc =>
      obtain ⟨b,cap⟩:=bc;obtain ⟨cs,r,q1,q2,q3,q4,q5,q6,q7⟩:=k3;exact ⟨cs,r,q1,q2,q3,q4,q5,q6,fun o af=>q7 o (nD _ b k1 rfl o af)⟩
    |dA x =>
     obtain ⟨b,k1,k2,k3,k4,k5⟩:=hob;exact ⟨b,(e2 n hnb).trans k1,k2,k3,k4,fun o af=>k5 o (nD _ b k1 rfl o af)⟩
    |bp ks vs =>
     obtain ⟨b,es,ck,k1,k2,k3,k4,k5,k6,k7⟩:=hob;simp only[aq.only,t8] at hon;exact ⟨b,es,ck,(e2 n hnb).trans k1,k2,k3,k4,aE.later ao _ _ (aE.cX e2 _ _ hon.1 k5),aE.later ao _ _ (aE.cX e2 _ _ hon.2 k6),fun o af=>k7 o (nD _ b k1 rfl o af)⟩
    |it ks vs left cur =>
     obtain ⟨r,b,es,ck,si,se,la,k1,k2,k3,k4,k5,k6,k7,k8,k9,k9',k10⟩:=hob;simp only[aq.only,t8] at hon;exact ⟨r,b,es,ck,si,se,la,(e2 n hnb).trans k1,k2,k3,k4.later ao,aE.later ao _ _ (aE.cX e2 _ _ hon.1 k5),aE.later ao _ _ (aE.cX e2 _ _ hon.2 k6),k7,k8,k9,k9',fun o af=>k10 o (nD _ r k1 rfl o af)⟩
 ·have cut:∀ n e,E2 n=some e→E n=some e:=fun n e he=>by
   rw[hE2] at he;simp only at he;split at he
   ·cases he
   ·exact he
  exact h.cJ n m e e' b (cut n e g1) (cut m e' g2) g3 g4
 ·by_cases hm:ns.contains n=true
  ·left;rw[hE2];simp only[hm,if_true]
  ·rw[e2 n (by simpa using hm)];exact h.dM n e hn
 ·refine ⟨fun b o af=>by rw[hD2];exact .inl (hw1.cU b o af),fun n T sz es b cap hn ay o hlt =>?_,fun _ n x b aX hn ay o hlt =>?_,fun _ n ks vs b hn ay =>?_⟩
  ·simp only[au,oS] at hn;split at hn
   ·rw[hD2];exact .inl (hw1.bW n T sz es b cap hn ay o hlt)
   ·cases hn
  ·simp only[au,oS] at hn;split at hn
   ·rename_i hk;rw[hD2];exact .inr (.inl ⟨n,x,aX,hk,hn,ay,hlt⟩)
   ·cases hn
  ·simp only[au,oS] at hn;split at hn
   ·rename_i hk;rw[hD2];exact .inr (.inr ⟨n,ks,vs,hk,hn,ay,rfl⟩)
   ·cases hn
theorem bf.Xu{f:FuncId}{avs cargs:List I}{r:I}{vs:List Value}{a:Act}{w:World}{D:aP}{E:aY}{ts:List (Nat×I)}{os0:List (Nat×aq)}(ab:aU c (au ts os0) a w D E)(ns:List Nat)(ho:cV (fun n => !ns.contains n) (eF ns os0))
  (h:bf c.P f cargs r) (hc:bZ true (au ts (ml ns os0)) avs=some cargs) (hv:ft (aZ w D E) avs vs) :
  Calls c.P f vs.toArray w fun e w'=>∃ v D' E',e=.returned v∧aU c (au (lu ns ts) (eF ns os0)) a w' D' E'∧aZ w' D' E' r v:=by
 obtain ⟨D1,E1,hs1,hw⟩:=ab.AH ns ho;have hu:ee (au ts (ml ns os0)) (au ts os0):=fun n x hx=>by
  simp only[au,oS] at hx ⊢;split at hx
  ·exact hx
  ·cases hx
 have hrv:=lx (E':=c9) ab hu hw avs cargs vs (kP _ _ hv (p0 hc)) hc;refine (h.2 w _ vs ab.vN hs1.aQ hrv).mono fun e w' ⟨v,D',he,J,U,ah,ar⟩=>⟨v,fun b o=>D1 b o∨(w.heap.size≤b∧D' b o),E1,he,?_,?_⟩
 ·refine hs1.grow U (fun _ _ af=>.inl af) ?_ ?_
  ·rintro b o (af | ⟨hle,_⟩) hlt
   ·exact af
   ·omega
  ·rintro b o (af | ⟨_,af⟩)
   ·exact Nat.lt_of_lt_of_le (hs1.aQ b o af) U.size
   ·exact ah b o af
 ·refine aZ.later (E:=c9) ⟨fun b o af =>?_,fun _ _ _ _ h=>h,fun n b aX hn=>by simp[c9] at hn,fun n aF l hn=>by simp[c9] at hn,fun n b hn=>by simp[c9] at hn,fun n b hn=>by simp[c9] at hn,fun _ _ _ _ h=>h⟩ J;rcases Nat.lt_or_ge b w.heap.size with hlt | hge
  ·exact .inl (ar b o af hlt)
  ·exact .inr ⟨hge,af⟩
theorem uf{a:Act}{w:World}{D D1:aP}{E:aY}{ts:List (Nat×I)}{os0 os:List (Nat×aq)}{ρ:List (Nat×Nat)}{aN:Bool}{A0:ai}(ab:aU c (au ts os0) a w D E)(hu:ee A0 (au ts os0))(hD:∀ b o,D b o→D1 b o)(hw:hl aN A0 D E D1) :
  ∀ (avs cargs:List I) (vs:List Value),gE aN A0 ρ os avs cargs→ft (aZ w D E) avs vs→aE w D1 (ay ρ os E) cargs vs
 | [],[],vs,_,hv=>by cases hv;simp[aE]
 | [],_::_,_,h,_=>by simp[gE] at h
 |_::_,[],_,h,_=>by simp[gE] at h
 |x::xs,y::ys,vs,h,hv=>by
  cases hv with
  |cons hv hvs =>
  rename_i v vs;simp only[gE] at h;have ih:=uf ab hu hD hw xs ys vs h.2 hvs;have ao:dQ w D (ay ρ os E) w D1 (ay ρ os E):=⟨hD,fun _ _ _ _ h=>h,fun _ _ _ h=>h,fun _ aF l h=>⟨aF,l,h,Z4 _,fun _=>rfl⟩,fun _ _ h=>h,fun _ _ h=>h,fun _ _ _ _ h=>h⟩
  have J:∃ cs,bu y v cs∧al w D1 (ay ρ os E) y cs:=by
   rcases h.1 with ⟨k1,k2,k3⟩ | k
   ·rw[k1] at hv;have U:=aZ.later ao ((aZ.bl (w:=w) (D:=D) (p:=av os) (ρ:=bF ρ) (E:=ay ρ os E) (E':=E) (fun n hn=>by simp only[ay,hn,if_true]) k2).1 hv);cases y <;>simp only[aZ] at U <;>first | (simp[I.bS] at k3;done) | exact U
   ·have U:aE w D E [x] [v]:=kP [x] [v] (.cons hv .nil) (by
     intro z hz;simp only[X3] at hz;subst hz;cases z <;>simp_all[bh,I.bS])
    have ah:=lx (E':=ay ρ os E) ab hu hw [x] [y] [v] U (by simp[bZ,k]);simp only[aE] at ah;obtain ⟨v',rest,cs,e,k1,k2,_⟩:=ah;simp only[zz7] at e;obtain ⟨rfl,_⟩:=e;exact ⟨cs,k1,k2⟩
  obtain ⟨cs,k1,k2⟩:=J;simp only[aE];exact ⟨v,vs,cs,rfl,k1,k2,ih⟩
theorem ee.drop(ts:List (Nat×I))(ns:List Nat)(os0:List (Nat×aq)):ee (au ts (eF ns os0)) (au ts os0):=fun n x hx=>by
 simp only[au,nw] at hx ⊢;split at hx
 ·cases hx
 ·exact hx
theorem mU.use{run:Array Value→World→(Ending→World→Prop)→Prop}{since:World→aP→aY→Prop}{avs cargs:List I}{post:cA}{vs:List Value}{a:Act}{w:World}{D:aP}{E:aY}{ts:List (Nat×I)}{os0 os:List (Nat×aq)}{ρ:List (Nat×Nat)}
  (ab:aU c (au ts os0) a w D E) (h:mU run since cargs os post) (aN:Bool) (hmono:∀ {vs w R R'},run vs w R→(∀ e w,R e w→R' e w)→run vs w R') (hsince:(aN=true→∀ D,since w D (ay ρ os E))∧(aN=false→since w (nR (au ts os0) D E) (ay ρ os E)))
  (hg:fX ρ os os0) (ha:gE aN (au ts (eF (iv ρ os) os0)) ρ os avs cargs) (hb:∀ r os',post r os'→gq aN ρ os os0 r os') (hv:ft (aZ w D E) avs vs) :
  run vs.toArray w fun e w'=>∃ v r os' D2 E2,e=.returned v∧post r os'∧aU c (au ts (dv ρ os'++os0)) a w' D2 E2∧aZ w' D2 E2 (r.bl (bF ρ)) v∧∀ m e,ay ρ os E m=some e→av os' m=true→∃ e',E2 (bF ρ m)=some e'∧e.le e':=by
 have notName:∀ n,(iv ρ os).contains n=false→∀ m,av os m=true→bF ρ m≠n:=fun n hn m hm he=>by
  obtain ⟨q,hq,rfl⟩:=vI.1 hm;have:(iv ρ os).contains n=true:=by simp only[iv,List.contains_iff_mem,X1];exact ⟨q,hq,he⟩
  rw[this] at hn;cases hn
 have other:∀ {D:aP},aU c (au ts os0) a w D E→∀ n e b x,aj (eF (iv ρ os) os0) n=some x→E n=some e→e.aF=some b→¬ cB (ay ρ os E) b:=fun ab n e b x hx he hb ho=>by
  obtain ⟨m,e',J,U,hb',_⟩:=ab.su hg ho;rw[nw] at hx;split at hx
  ·cases hx
  ·rename_i hc;have:=ab.cJ n (bF ρ m) e _ b he U hb hb';exact notName n (by simpa using hc) m J this.symm
 cases aN with
 |true =>
  obtain ⟨D1,hD1⟩:∃ D1:aP,D1=fun b o=>D b o∨(b<w.heap.size∧¬ cB (ay ρ os E) b):=⟨_,rfl⟩
  have hD:∀ b o,D b o→D1 b o:=fun b o af=>by rw[hD1];exact .inl af
  have hw:hl true (au ts (eF (iv ρ os) os0)) D E D1:=by
   refine ⟨hD,fun n T sz es b cap hn ay o _ =>?_,fun _ n x b aX hn ay o _ =>?_,fun _ n ks vs b hn ay =>?_⟩
   ·rw[hD1];exact .inr ⟨ab.fO ay rfl,other ab n _ b _ hn ay rfl⟩
   ·rw[hD1];exact .inr ⟨ab.fO ay rfl,other ab n _ b _ hn ay rfl⟩
   ·rw[hD1];exact .inr ⟨ab.fO ay rfl,other ab n _ b _ hn ay rfl⟩
  have hrv:=uf ab (ee.drop ts _ os0) hD hw avs cargs vs ha hv;refine hmono (h w D1 (ay ρ os E) vs (hsince.1 rfl _) (fun b o af=>by
   rw[hD1] at af;rcases af with af | af
   ·exact ab.aQ b o af
   ·exact af.1) (ab.Bl hg hD fun b o af ho=>by
    rw[hD1] at af;rcases af with af | af
    ·exact af
    ·exact absurd ho af.2) hrv) ?_
  rintro e w' ⟨v,D',E',r,os',he,hp,J,U,ah,ar,h5,h6,h7,h8⟩;obtain ⟨D2,E2,k1,k2⟩:=ab.ib hg hD (fun h=>by cases h) (hb r os' hp) J U ah h5 ar h8 h6 h7;exact ⟨v,r,os',D2,E2,he,hp,k1,k2⟩
 |false =>
  obtain ⟨hs1,hw⟩:=ab.nU;have hw':hl false (au ts (eF (iv ρ os) os0)) D E (nR (au ts os0) D E):=⟨hw.cU,fun n T sz es b cap hn ay o hlt=>hw.bW n T sz es b cap (ee.drop ts _ os0 n _ hn) ay o hlt,(fun hb=>by cases hb),fun hb=>by cases hb⟩
  have hrv:=uf ab (ee.drop ts _ os0) hw.cU hw' avs cargs vs ha hv;refine hmono (h w _ (ay ρ os E) vs (hsince.2 rfl) hs1.aQ (hs1.Bl hg (fun _ _ h=>h) fun b o af _=>af) hrv) ?_;rintro e w' ⟨v,D',E',r,os',he,hp,J,U,ah,ar,h5,h6,h7,h8⟩;obtain ⟨D2,E2,k1,k2⟩:=hs1.ib hg (fun _ _ h=>h) (fun _ _ _ h=>h) (hb r os' hp) J U ah h5 ar h8 h6 h7;exact ⟨v,r,os',D2,E2,he,hp,k1,k2⟩
theorem aU.since{A:ai}{a:Act}{w:World}{D:aP}{E E':aY}(h:aU c A a w D E)(ay:∀ n,E' n=E n∨E' n=none):xV c w D E' :=
 ⟨h.dH,h.cM,h.cU,fun n e hn=>by
  rcases ay n with k | k
  ·rw[k];exact h.dM n e hn
  ·exact .inl k,h.fp,h.qu.nv fun b ⟨n,e,J,U⟩=>by
   rcases ay n with k | k
   ·rw[k] at J;exact ⟨n,e,J,U⟩
   ·rw[k] at J;cases J⟩
theorem lz(c:cO)(f:FuncId):c.bz.fn f:=by unfold cO.bz;split <;>trivial
theorem uN(c:cO):c.bz.depth.isSome=true→1≤9:=fun _=>by omega
theorem km{a:Act}{w:World} : ∀ f,o.about c.P w a.eval=some f→c.bz.fn f:=fun f _=>lz c f
theorem kQ{g:bR}(hg:c4 c.P o=some g)(r:Option Nat)(ρ:Operand→Value):o.semAt r ρ=execOp ρ o:=by
 cases r with
 |none=>rfl
 |some l =>
  refine Oper.semAt_some l ρ o fun cl h =>?_;unfold c4 at hg;rw[h] at hg;simp at hg
theorem zG{f:FuncId}{args:Array Value}{w:World}{R:Ending→World→Prop}(h:Calls c.P f args w R):CallsIn c.bz (9-1) c.P f args w R:=by
 have J:CallsIn Fence.wide (9-1) c.P f args w R:=callsIn_wide.2 h;unfold cO.bz;split
 ·exact J
 ·exact J
theorem rS.mono{P:Program}{v:Value}{vs:Array Value}{w:World}{R R':Ending→World→Prop}(h:rS P v vs w R)(hr:∀ e w,R e w→R' e w):rS P v vs w R':=by
 obtain ⟨l,J,fn,tmps,assign,body,U,ah⟩:=h;exact ⟨l,J,fn,tmps,assign,body,U,ah.mono hr⟩
theorem WQ{l:Nat}{f:FuncId}{tmps:Array Value}{assign body:Code}{w:World}{R:Ending→World→Prop}(h:RoundIn Fence.wide 9 c.P l f tmps assign body w R):RoundIn c.bz (9-1) c.P l f tmps assign body w R:=by
 have J:RoundIn Fence.wide (9-1) c.P l f tmps assign body w R:=⟨h.1,fun cc cs _=>h.2 cc cs (room_wide _)⟩
 unfold cO.bz;split
 ·exact J
 ·exact J
theorem hh.wp{B:ai}{g:bR}(hg:c4 c.P o=some g)(h:hh c A o B){a:Act}{w:World}{K:Act→World→Prop}{Q:Exit→Act→World→Prop}(ab:bV c A a w)(hK:∀ a w,bV c B a w→K a w):o.wpIn c.bz 9 c.P a w K Q:=by
 obtain ⟨D,E,ab⟩:=ab;obtain ⟨w',h⟩:=h a w D E ab;refine ⟨km,?_⟩;rw[kQ hg];rcases h with ⟨v,J,U⟩ | ⟨J,U⟩
 ·rw[J];exact hK _ _ U
 ·rw[J];exact hK _ _ U
theorem uF{dr:Bool}{K:ai→Prop}{f:FuncId}{avs:List I}{a1 a2:Option (List I)}{vs:List Value}{dst:Option Nat}{rest:List aC}{a:Act}{w:World}{Kw:Act→World→Prop}{Q:Exit→Act→World→Prop}{g:bR}(hg:c4 c.P o=some g)(J:bZ true A avs=a1)(U:bZ false A avs=a2)
  (ab:∀ D E,aU c A a w D E→ft (aZ w D E) avs vs) (hsim:bV c A a w) (hwp:aR c.P c.Y dr K (.call f avs a1 a2 dst rest A)) (af:o.dst=dst) (hdn:∀ k,dst=some k→k<c.n)
  (hrun:eX c.P f=true→(execOp a.eval o).run c.P w=.ok (.enter f vs.toArray) w)
  (hK:∀ B a' w',aR c.P c.Y dr K (az rest B)→bV c B a' w'→Kw a' w'):o.wpIn c.bz 9 c.P a w Kw Q:=by
 obtain ⟨D,E,hsw⟩:=hsim;have n1:∀ {R:Ending→World→Prop},eX c.P f=true→Calls c.P f vs.toArray w R→(∀ e w',R e w'→∃ v,e=.returned v∧Kw (a.put o.dst v) w')→o.wpIn c.bz 9 c.P a w Kw Q:=fun {R} hc hcl hR=>by
  refine ⟨km,?_⟩;rw[kQ hg,hrun hc,Oper.uponIn_enter];refine ⟨uN c,zG (hcl.mono fun e w' he =>?_)⟩;obtain ⟨v,rfl,hv⟩:=hR e w' he;exact hv
 cases hwp with
 |flat r hspec hflat hrest =>
  refine n1 hspec.1 (hspec.Xt hsw hflat J (ab D E hsw)) ?_;rintro e w' ⟨v,D',he,hs',hv⟩;refine ⟨v,he,?_⟩;rw[af];exact hK _ _ _ hrest ⟨D',E,hs'.aT hdn hv⟩
 |lead r hspec hrest =>
  refine n1 hspec.1 (hspec.Xv hsw U (ab D E hsw)) ?_;rintro e w' ⟨v,D',he,hs',hv⟩;refine ⟨v,he,?_⟩;rw[af];exact hK _ _ _ hrest ⟨D',E,hs'.aT hdn hv⟩
 |jy ns r hdr hspec hf ho hrest =>
  refine n1 hspec.1 (hspec.Xu hsw ns ho hf (ab D E hsw)) ?_;rintro e w' ⟨v,D',E',he,hs',hv⟩;refine ⟨v,he,?_⟩;rw[af];exact hK _ _ _ hrest ⟨D',E',hs'.aT hdn hv⟩
 |bN aN ρ os cargs post hdr hspec hgv ha hb hrest =>
  refine n1 hspec.1 (hspec.2.use hsw aN (fun h=>h.mono) ⟨fun _ _=>hsw.oP,fun _=>hsw.oP⟩ hgv ha hb (ab D E hsw)) ?_;rintro e w' ⟨v,r,os',D2,E2,he,hp,hs',hv,_⟩;refine ⟨v,he,?_⟩;rw[af];exact hK _ _ _ (hrest r os' hp) ⟨D2,E2,hs'.aT hdn hv⟩
theorem If{dr:Bool}{K:ai→Prop}{v:Value}{avs:List I}{vs:List Value}{dst:Option Nat}{rest:List aC}{a:Act}{w:World}{Kw:Act→World→Prop}{Q:Exit→Act→World→Prop}{g:bR}(hg:c4 c.P o=some g)
  (ab:∀ D E,aU c A a w D E→ft (aZ w D E) avs vs) (hsim:bV c A a w) (hwp:aR c.P c.Y dr K (.kq v avs dst rest A)) (af:o.dst=dst) (hdn:∀ k,dst=some k→k<c.n)
  (hrun:∀ l,v=.func (.yield l) #[] #[]→(execOp a.eval o).run c.P w=(Instr.yield l vs.toArray).run c.P w)
  (hK:∀ B a' w',aR c.P c.Y dr K (az rest B)→bV c B a' w'→Kw a' w'):o.wpIn c.bz 9 c.P a w Kw Q:=by
 obtain ⟨D,E,hsw⟩:=hsim;cases hwp with
 |tK os cargs post hdr hY hgv ha hb hrest =>
  have hyr:=(hsw.eS.2 _ _ _ _ hY).use (ρ:=[]) hsw false (fun h=>h.mono) ⟨(fun h=>by cases h),fun _=>hsw.nU.1.since (fun n=>by simp only[ay,bF];split <;>simp)⟩ hgv ha hb (ab D E hsw);obtain ⟨l,rfl,fn,tmps,assign,body,U,ah⟩:=hyr;refine ⟨km,?_⟩;rw[kQ hg,hrun l rfl,U,Oper.uponIn_round];refine ⟨uN c,WQ (ah.mono fun e w' he =>?_)⟩;obtain ⟨v,r,os',D2,E2,rfl,hp,hs',hv,_⟩:=he;rw[af];exact hK _ _ _ (hrest r os' hp) ⟨D2,E2,hs'.aT hdn hv⟩
end
section
variable {c:cO} {A:ai} {o:Oper}
theorem nd{P:Program}{n:Nat}{aS:Array Oper}{g:aC}(h:lh P n aS o=some g):c4 P o=some g.op∧g.dst=o.dst∧(∀ k,o.dst=some k→k<n) ∧
  ((o.guard=none∧g.guard=none)∨∃ j b t,o.guard=some (j,b)∧(aS[j]?).bind (·.dst)=some t∧g.guard=some (t,b)):=by
 unfold lh at h;split at h
 ·cases h
 rename_i g' hg';split at h
 case isFalse=>cases h
 rename_i af;have hdst:∀ k,o.dst=some k→k<n:=by
  intro k hk;rw[hk] at af;simpa[Ad] using af
 split at h
 ·rename_i hgd;simp only[v6] at h;subst h;exact ⟨hg',rfl,hdst,.inl ⟨hgd,rfl⟩⟩
 ·rename_i j b hgd;split at h
  ·rename_i t ht;simp only[v6] at h;subst h;exact ⟨hg',rfl,hdst,.inr ⟨j,b,t,hgd,ht,rfl⟩⟩
  ·cases h
theorem A8{dr:Bool}{K:ai→Prop}{op:bR}{dst:Option Nat}{rest:List aC}{a:Act}{w:World}{Kw:Act→World→Prop}{Q:Exit→Act→World→Prop}(hop:c4 c.P o=some op)(af:o.dst=dst)(hdn:∀ k,dst=some k→k<c.n)
  (hsim:bV c A a w) (hK:∀ B a' w',aR c.P c.Y dr K (az rest B)→bV c B a' w'→Kw a' w') (h:aR c.P c.Y dr K (cL (bm A op) fun v=>az rest (A.aT dst v))):o.wpIn c.bz 9 c.P a w Kw Q:=by
 cases hv:bm A op with
 |some v =>
  rw[hv] at h;exact ((CF hop hv).does (by rw[af];exact hdn)).wp hop hsim (fun a' w' ab=>by rw[af] at ab;exact hK _ a' w' h ab)
 |none=>rw[hv] at h;cases h
theorem Tb{dr:Bool}{K:ai→Prop}{dst:Option Nat}{rest:List aC}{a:Act}{w:World}{Kw:Act→World→Prop}{Q:Exit→Act→World→Prop}{z:I}(hop:c4 c.P o=some (.alloc z))(af:o.dst=dst)(hdn:∀ k,dst=some k→k<c.n)
  (hwp:aR c.P c.Y dr K (bj A dst (.alloc z) rest (az rest))) (hsim:bV c A a w) (hK:∀ B a' w',aR c.P c.Y dr K (az rest B)→bV c B a' w'→Kw a' w'):o.wpIn c.bz 9 c.P a w Kw Q:=by
 have hop0:=hop;simp only[bj] at hwp;split at hwp
 case h_2=>cases hwp
 rename_i d;split at hwp
 case h_2=>cases hwp
 rename_i hf;unfold c4 at hop;split at hop <;>try (first | (simp at hop;done) | ((repeat' split at hop) <;>simp at hop;done))
 rename_i t ho;simp only[t7,bR.alloc.injEq] at hop;obtain ⟨z',hz,rfl⟩:=hop;exact (K5 ho hz af (hdn d rfl) hf).wp hop0 hsim (fun a' w' ab=>hK _ a' w' hwp ab)
theorem Te{dr:Bool}{K:ai→Prop}{dst:Option Nat}{rest:List aC}{a:Act}{w:World}{Kw:Act→World→Prop}{Q:Exit→Act→World→Prop}{x:aO}(hop:c4 c.P o=some (.box x))(af:o.dst=dst)(hdn:∀ k,dst=some k→k<c.n)
  (hwp:aR c.P c.Y dr K (bj A dst (.box x) rest (az rest))) (hsim:bV c A a w) (hK:∀ B a' w',aR c.P c.Y dr K (az rest B)→bV c B a' w'→Kw a' w'):o.wpIn c.bz 9 c.P a w Kw Q:=by
 have hop0:=hop;simp only[bj] at hwp;split at hwp
 case h_2=>cases hwp
 rename_i d;split at hwp
 case h_2=>cases hwp
 rename_i hf;split at hwp
 case isFalse=>cases hwp
 rename_i hv;unfold c4 at hop;split at hop <;>try (first | (simp at hop;done) | ((repeat' split at hop) <;>simp at hop;done))
 rename_i t y ho;simp only[t7,bR.box.injEq] at hop;obtain ⟨z',hz,rfl⟩:=hop;exact (La ho hz hv af (hdn d rfl) hf).wp hop0 hsim (fun a' w' ab=>hK _ a' w' hwp ab)
theorem Tr{dr:Bool}{K:ai→Prop}{dst:Option Nat}{rest:List aC}{a:Act}{w:World}{Kw:Act→World→Prop}{Q:Exit→Act→World→Prop}{s:Option Nat}{x v:aO}(hop:c4 c.P o=some (.bd s x v))(af:o.dst=dst)(hdn:∀ k,dst=some k→k<c.n)
  (hwp:aR c.P c.Y dr K (bj A dst (.bd s x v) rest (az rest))) (hsim:bV c A a w) (hK:∀ B a' w',aR c.P c.Y dr K (az rest B)→bV c B a' w'→Kw a' w'):o.wpIn c.bz 9 c.P a w Kw Q:=by
 have hop0:=hop;simp only[bj] at hwp;split at hwp
 case h_2=>cases hwp
 split at hwp
 case h_2=>cases hwp
 rename_i n p hp;split at hwp
 case h_2=>cases hwp
 rename_i b hb;split at hwp
 case h_2=>cases hwp
 rename_i old hat;split at hwp
 case isFalse=>cases hwp
 rename_i hok;unfold c4 at hop;split at hop <;>try (first | (simp at hop;done) | ((repeat' split at hop) <;>simp at hop;done))
 rename_i t y z ho;split at hop
 case h_2=>cases hop
 rename_i s' x' v' J U ah;split at hop
 case isFalse=>cases hop
 rename_i hk;simp only[v6,bR.bd.injEq] at hop;obtain ⟨rfl,rfl,rfl⟩:=hop;exact (Lh ho J hk U ah hp hb hat hok.1 hok.2.1 hok.2.2 af).wp hop0 hsim (fun a' w' ab=>hK _ a' w' hwp ab)
theorem Tf{dr:Bool}{K:ai→Prop}{dst:Option Nat}{rest:List aC}{a:Act}{w:World}{Kw:Act→World→Prop}{Q:Exit→Act→World→Prop}{f:FuncId}{args:List aO}(hop:c4 c.P o=some (.call f args))(af:o.dst=dst)(hdn:∀ k,dst=some k→k<c.n)
  (hwp:aR c.P c.Y dr K (bj A dst (.call f args) rest (az rest))) (hsim:bV c A a w) (hK:∀ B a' w',aR c.P c.Y dr K (az rest B)→bV c B a' w'→Kw a' w'):o.wpIn c.bz 9 c.P a w Kw Q:=by
 have hop0:=hop;simp only[bj] at hwp;unfold c4 at hop;split at hop <;>try (first | (simp at hop;done) | ((repeat' split at hop) <;>simp at hop;done))
 rename_i f' xs ts ho;split at hop
 case isFalse=>simp at hop
 simp only[t7,bR.call.injEq] at hop;obtain ⟨ys,hys,rfl,rfl⟩:=hop;refine uF (vs:=xs.toList.map a.eval) hop0 rfl rfl (fun D E ab=>kn ab xs.toList ts.toList ys hys) hsim hwp af hdn (fun hc =>?_) hK;have e:xs.map a.eval=(xs.toList.map a.eval).toArray:=by apply Array.ext';simp
 simp only[execOp,ho,resolve,Act.eval,Deferred.ofValue,Sem.run_bind,Sem.run_pure,Result.andThen_ok,invoke,Array.append_empty,Array.empty_append,mH hc];rw[←e]
theorem Ts{dr:Bool}{K:ai→Prop}{dst:Option Nat}{rest:List aC}{a:Act}{w:World}{Kw:Act→World→Prop}{Q:Exit→Act→World→Prop}{f:FuncId}{args:List aO}(hop:c4 c.P o=some (.jP f args))(af:o.dst=dst)(hdn:∀ k,dst=some k→k<c.n)
  (hwp:aR c.P c.Y dr K (bj A dst (.jP f args) rest (az rest))) (hsim:bV c A a w) (hK:∀ B a' w',aR c.P c.Y dr K (az rest B)→bV c B a' w'→Kw a' w'):o.wpIn c.bz 9 c.P a w Kw Q:=by
 have hop0:=hop;simp only[bj] at hwp;unfold c4 at hop;split at hop <;>try (first | (simp at hop;done) | ((repeat' split at hop) <;>simp at hop;done))
 rename_i f' xs ts ho;split at hop
 case isTrue=>simp at hop
 simp only[t7,bR.jP.injEq] at hop;obtain ⟨ys,hys,rfl,rfl⟩:=hop;obtain ⟨D,E,ab⟩:=hsim;cases hwp with
 |ext r hdr hx hw =>
  obtain ⟨v,g1,g2⟩:=hx c a w D E (xs.toList.map a.eval) rfl ab (kn ab xs.toList ts.toList ys hys);have e:xs.map a.eval=(xs.toList.map a.eval).toArray:=by apply Array.ext';simp
  have hrun:(execOp a.eval o).run c.P w=.ok (.value v) w:=by
   simp only[execOp,ho,resolve,Act.eval,Deferred.ofValue,Sem.run_bind,Sem.run_pure,Result.andThen_ok,invoke,Array.append_empty,Array.empty_append];rw[←e] at g1;exact g1
  refine ⟨km,?_⟩;rw[kQ hop0,hrun,Oper.uponIn_value];exact hK _ _ _ hw ⟨D,E,by rw[af];exact ab.aT hdn g2⟩
theorem Tk{dr:Bool}{K:ai→Prop}{dst:Option Nat}{rest:List aC}{a:Act}{w:World}{Kw:Act→World→Prop}{Q:Exit→Act→World→Prop} (hop:c4 c.P o=some (.iu))(af:o.dst=dst)(hdn:∀ k,dst=some k→k<c.n)
  (hwp:aR c.P c.Y dr K (bj A dst (.iu) rest (az rest))) (hsim:bV c A a w) (hK:∀ B a' w',aR c.P c.Y dr K (az rest B)→bV c B a' w'→Kw a' w'):o.wpIn c.bz 9 c.P a w Kw Q:=by
 have hop0:=hop;simp only[bj] at hwp;split at hwp
 case h_2=>cases hwp
 rename_i d;split at hwp
 case h_2=>cases hwp
 rename_i hf;unfold c4 at hop;split at hop <;>try (first | (simp at hop;done) | ((repeat' split at hop) <;>simp at hop;done))
 rename_i t ho;exact (Le ho af (hdn d rfl) hf).wp hop0 hsim (fun a' w' ab=>hK _ a' w' hwp ab)
theorem Tl{dr:Bool}{K:ai→Prop}{dst:Option Nat}{rest:List aC}{a:Act}{w:World}{Kw:Act→World→Prop}{Q:Exit→Act→World→Prop}{e:TypeId}{bytes:Nat}{z:I}{n:aO}(hop:c4 c.P o=some (.jY e bytes z n))(af:o.dst=dst)(hdn:∀ k,dst=some k→k<c.n)
  (hwp:aR c.P c.Y dr K (bj A dst (.jY e bytes z n) rest (az rest))) (hsim:bV c A a w) (hK:∀ B a' w',aR c.P c.Y dr K (az rest B)→bV c B a' w'→Kw a' w'):o.wpIn c.bz 9 c.P a w Kw Q:=by
 have hop0:=hop;simp only[bj] at hwp;split at hwp
 case h_2=>cases hwp
 rename_i d;split at hwp
 case h_2=>cases hwp
 rename_i hf;split at hwp
 case h_2=>cases hwp
 rename_i k m hn;split at hwp
 case isFalse=>cases hwp
 rename_i hc;unfold c4 at hop;split at hop <;>try (first | (simp at hop;done) | ((repeat' split at hop) <;>simp at hop;done))
 rename_i t l l' ho;split at hop
 case h_2=>cases hop
 rename_i e' n' hu ao;split at hop
 case h_2=>cases hop
 rename_i z' hz;split at hop
 case isFalse=>cases hop
 rename_i hc2;simp only[v6,bR.jY.injEq] at hop;obtain ⟨rfl,rfl,rfl,rfl⟩:=hop;obtain ⟨j,rfl⟩:=Int.eq_ofNat_of_zero_le hc.1;simp only[Int.toNat_natCast] at hc hwp;exact (Lf ho (WU hc2.1) hu ao hn hz hc2.2.1 hc2.2.2 hc.2.1 hc.2.2 af (hdn d rfl) hf).wp hop0 hsim (fun a' w' ab=>hK _ a' w' hwp ab)
theorem Tm{dr:Bool}{K:ai→Prop}{dst:Option Nat}{rest:List aC}{a:Act}{w:World}{Kw:Act→World→Prop}{Q:Exit→Act→World→Prop}{ty:cz}{m k v:aO}(hop:c4 c.P o=some (.eN ty m k v))(af:o.dst=dst)(hdn:∀ k,dst=some k→k<c.n)
  (hwp:aR c.P c.Y dr K (bj A dst (.eN ty m k v) rest (az rest))) (hsim:bV c A a w) (hK:∀ B a' w',aR c.P c.Y dr K (az rest B)→bV c B a' w'→Kw a' w'):o.wpIn c.bz 9 c.P a w Kw Q:=by
 have hop0:=hop;simp only[bj] at hwp;split at hwp
 case h_2=>cases hwp
 split at hwp
 case h_2=>cases hwp
 rename_i n hm;split at hwp
 case h_2=>cases hwp
 rename_i ks vs hn;split at hwp
 case h_2=>cases hwp
 rename_i ks' vs' ao;unfold c4 at hop;split at hop <;>try (first | (simp at hop;done) | ((repeat' split at hop) <;>simp at hop;done))
 all_goals
  rename_i t mo ko vo ho;split at hop
  case h_2=>cases hop
  rename_i kt et m' k' hu J U;split at hop
  case h_2=>cases hop
  rename_i ty' v' hk ah;simp only[v6,bR.eN.injEq] at hop;obtain ⟨rfl,rfl,rfl,rfl⟩:=hop
 ·exact (Ab (.inl ho) hu hk J U ah hm hn ao af).wp hop0 hsim (fun a' w' ab=>hK _ a' w' hwp ab)
 ·exact (Ab (.inr ho) hu hk J U ah hm hn ao af).wp hop0 hsim (fun a' w' ab=>hK _ a' w' hwp ab)
theorem Tj{dr:Bool}{K:ai→Prop}{dst:Option Nat}{rest:List aC}{a:Act}{w:World}{Kw:Act→World→Prop}{Q:Exit→Act→World→Prop}{ty:cz}{m k:aO}(hop:c4 c.P o=some (.ir ty m k))(af:o.dst=dst)(hdn:∀ k,dst=some k→k<c.n)
  (hwp:aR c.P c.Y dr K (bj A dst (.ir ty m k) rest (az rest))) (hsim:bV c A a w) (hK:∀ B a' w',aR c.P c.Y dr K (az rest B)→bV c B a' w'→Kw a' w'):o.wpIn c.bz 9 c.P a w Kw Q:=by
 have hop0:=hop;simp only[bj] at hwp;split at hwp
 case h_2=>cases hwp
 split at hwp
 case h_2=>cases hwp
 rename_i n hm;split at hwp
 case h_2=>cases hwp
 rename_i ks vs hn;split at hwp
 case h_2=>cases hwp
 rename_i ks' vs' ao;unfold c4 at hop;split at hop <;>try (first | (simp at hop;done) | ((repeat' split at hop) <;>simp at hop;done))
 rename_i args tys ho;split at hop
 case h_2=>cases hop
 rename_i mo ko t t' ha ht;split at hop
 case h_2=>cases hop
 rename_i kt et m' k' hu J U;simp only[t7,bR.ir.injEq] at hop;obtain ⟨ty',hk,rfl,rfl,rfl⟩:=hop;have ha':args = #[mo,ko]:=by apply Array.ext';simpa using ha
 have ht':tys = #[t,t']:=by apply Array.ext';simpa using ht
 subst ha' ht';exact (Ld ho hu hk J U hm hn ao af).wp hop0 hsim (fun a' w' ab=>hK _ a' w' hwp ab)
theorem Tq{dr:Bool}{K:ai→Prop}{dst:Option Nat}{rest:List aC}{a:Act}{w:World}{Kw:Act→World→Prop}{Q:Exit→Act→World→Prop}{x:aO}(hop:c4 c.P o=some (.jm x))(af:o.dst=dst)(hdn:∀ k,dst=some k→k<c.n)
  (hwp:aR c.P c.Y dr K (bj A dst (.jm x) rest (az rest))) (hsim:bV c A a w) (hK:∀ B a' w',aR c.P c.Y dr K (az rest B)→bV c B a' w'→Kw a' w'):o.wpIn c.bz 9 c.P a w Kw Q:=by
 have hop0:=hop;simp only[bj] at hwp;split at hwp
 case h_2=>cases hwp
 rename_i d;split at hwp
 case h_2=>cases hwp
 rename_i hf;split at hwp
 case h_2=>cases hwp
 rename_i ks vs hx;unfold c4 at hop;split at hop <;>try (first | (simp at hop;done) | ((repeat' split at hop) <;>simp at hop;done))
 rename_i t y ho;split at hop
 case h_2=>cases hop
 rename_i kt et hu;simp only[t7,bR.jm.injEq] at hop;obtain ⟨z,hz,rfl⟩:=hop;exact (Lg ho hu hz hx af (hdn d rfl) hf).wp hop0 hsim (fun a' w' ab=>hK _ a' w' hwp ab)
theorem Tp{dr:Bool}{K:ai→Prop}{dst:Option Nat}{rest:List aC}{a:Act}{w:World}{Kw:Act→World→Prop}{Q:Exit→Act→World→Prop}{x:aO}(hop:c4 c.P o=some (.hP x))(af:o.dst=dst)(hdn:∀ k,dst=some k→k<c.n)
  (hwp:aR c.P c.Y dr K (bj A dst (.hP x) rest (az rest))) (hsim:bV c A a w) (hK:∀ B a' w',aR c.P c.Y dr K (az rest B)→bV c B a' w'→Kw a' w'):o.wpIn c.bz 9 c.P a w Kw Q:=by
 have hop0:=hop;simp only[bj] at hwp;split at hwp
 case h_2=>cases hwp
 rename_i n hx;split at hwp
 case h_2=>cases hwp
 rename_i ks vs left cur hn;unfold c4 at hop;split at hop <;>try (first | (simp at hop;done) | ((repeat' split at hop) <;>simp at hop;done))
 rename_i y ho;simp only[t7,bR.hP.injEq] at hop;obtain ⟨z,hz,rfl⟩:=hop;obtain ⟨D,E,ab⟩:=hsim;obtain ⟨w',v,hrun,hor⟩:=UY ho hz hx hn (by rw[af];exact hdn) ab;refine ⟨km,?_⟩;rw[kQ hop0,hrun,Oper.uponIn_value];rw[af] at hor;split at hwp
 ·rename_i ao;rcases hor with ⟨_,hor⟩ | ⟨i,k,x,hi,_⟩
  ·exact hK _ _ _ hwp (by rw[af];exact hor)
  ·rw[ao] at hi;cases hi
 ·rename_i ao;rcases hor with ⟨h,_⟩ | ⟨i,k,x,hi,hk,hx,hor⟩
  ·exact absurd h ao
  ·cases hwp with
   |any hdr hall =>
    have:=hall i hi;simp only[hk,hx] at this;exact hK _ _ _ this (by rw[af];exact hor)
theorem Tg{dr:Bool}{K:ai→Prop}{dst:Option Nat}{rest:List aC}{a:Act}{w:World}{Kw:Act→World→Prop}{Q:Exit→Act→World→Prop}{x:aO}{args:List aO}(hop:c4 c.P o=some (.fF x args))(af:o.dst=dst)(hdn:∀ k,dst=some k→k<c.n)
  (hwp:aR c.P c.Y dr K (bj A dst (.fF x args) rest (az rest))) (hsim:bV c A a w) (hK:∀ B a' w',aR c.P c.Y dr K (az rest B)→bV c B a' w'→Kw a' w'):o.wpIn c.bz 9 c.P a w Kw Q:=by
 have hop0:=hop;simp only[bj] at hwp;unfold c4 at hop;split at hop <;>try (first | (simp at hop;done) | ((repeat' split at hop) <;>simp at hop;done))
 rename_i y xs ts _ ho;split at hop
 case h_2=>cases hop
 rename_i y' ys J U;simp only[v6,bR.fF.injEq] at hop;obtain ⟨rfl,rfl⟩:=hop;obtain ⟨D,E,ab⟩:=hsim;have hv:=bT ab J;split at hwp
 ·rename_i f caps hx;rw[hx] at hv;obtain ⟨cs,q1,q2⟩:=hv;simp only[al] at q2;obtain ⟨vs,q3,q4⟩:=q2;have hval:a.eval y=jf f vs:=by simpa[bu,I.isAgg,q3] using q1.symm
  have caps_ok:∀ D' E',aU c A a w D' E'→ft (aZ w D' E') caps vs:=fun D' E' hs'=>by
   have hv':=bT hs' J;rw[hx] at hv';obtain ⟨cs',q1',q2'⟩:=hv';simp only[al] at q2';obtain ⟨vs',q3',q4'⟩:=q2';have hval':a.eval y=jf f vs':=by simpa[bu,I.isAgg,q3'] using q1'.symm
   rw[hval] at hval';have:=L6 hval';subst this;exact rh q4'
  have e:xs.map a.eval=(xs.toList.map a.eval).toArray:=by apply Array.ext';simp
  rcases Nat.lt_or_ge f 1000000 with hf | hf
  ·rw[vc hf,vb hf] at hwp;rw[me hf] at hval;refine uF (vs:=xs.toList.map a.eval++vs) hop0 rfl rfl (fun D' E' hs'=>(kn hs' xs.toList ts.toList ys U).append (caps_ok D' E' hs')) ⟨D,E,ab⟩ hwp af hdn (fun hc =>?_) hK;simp only[execOp,ho,resolve,hval,Deferred.ofValue,Sem.run_bind,Sem.run_pure,Result.andThen_ok,invoke,Array.empty_append,mH hc];rw[e];simp
  ·obtain ⟨g,rfl⟩:∃ g:Nat,f=g+1000000:=⟨Nat.sub f 1000000,(Nat.sub_add_cancel hf).symm⟩
   rw[sd,u9] at hwp;rw[p5] at hval;refine uF (vs:=vs++xs.toList.map a.eval) hop0 rfl rfl (fun D' E' hs'=>(caps_ok D' E' hs').append (kn hs' xs.toList ts.toList ys U)) ⟨D,E,ab⟩ hwp af hdn (fun hc =>?_) hK;simp only[execOp,ho,resolve,hval,Deferred.ofValue,Sem.run_bind,Sem.run_pure,Result.andThen_ok,invoke,Array.append_empty,mH hc];rw[e];simp
 ·rename_i u hx;rw[hx] at hv;obtain ⟨cs,q1,q2⟩:=hv;simp only[al] at q2;have hval:a.eval y=u:=by simpa[bu,I.isAgg,q2.1] using q1.symm
  refine If (vs:=xs.toList.map a.eval) hop0 (fun D' E' hs'=>kn hs' xs.toList ts.toList ys U) ⟨D,E,ab⟩ hwp af hdn (fun l ao =>?_) hK;subst ao;have e:xs.map a.eval=(xs.toList.map a.eval).toArray:=by apply Array.ext';simp
  simp only[execOp,ho,resolve,hval,Deferred.ofValue,Sem.run_bind,Sem.run_pure,Result.andThen_ok,invoke,Array.empty_append];rw[e]
 ·cases hwp
theorem Tn{dr:Bool}{K:ai→Prop}{dst:Option Nat}{rest:List aC}{a:Act}{w:World}{Kw:Act→World→Prop}{Q:Exit→Act→World→Prop}{neg:Bool}{x:aO}(hop:c4 c.P o=some (.nilS neg x))(af:o.dst=dst)(hdn:∀ k,dst=some k→k<c.n)
  (hwp:aR c.P c.Y dr K (bj A dst (.nilS neg x) rest (az rest))) (hsim:bV c A a w) (hK:∀ B a' w',aR c.P c.Y dr K (az rest B)→bV c B a' w'→Kw a' w'):o.wpIn c.bz 9 c.P a w Kw Q:=by
 have hop0:=hop;simp only[bj] at hwp;split at hwp
 case isFalse=>exact A8 hop af hdn hsim hK hwp
 rename_i hu;cases hwp with
 |any hdr hall =>
 unfold c4 at hop;split at hop <;>try (first | (simp at hop;done) | ((repeat' split at hop) <;>simp at hop;done))
 rename_i bop t y z yt ho;split at hop
 ·simp at hop
 ·simp at hop
 ·rename_i e y' z' hut J U;split at hop
  ·rename_i s;split at hop
   ·rename_i hopp;simp only[v6,bR.nilS.injEq] at hop;obtain ⟨rfl,rfl⟩:=hop;have ho':o.op=.binOp (if (bop==.neq)=true then .neq else .eql) t y z yt:=by
     rcases hopp with rfl | rfl <;>simpa using ho
    obtain ⟨D,E,ab⟩:=hsim;have hund:∃ sz,ak A y'=.slice sz []∨ak A y'=.c0 sz:=by
     generalize ak A y'=q at hu;cases q <;>simp only[js,Z2,List.isEmpty_iff] at hu
     ·rename_i sz;exact ⟨sz,.inr rfl⟩
     ·rename_i sz es;subst hu;exact ⟨sz,.inl rfl⟩
    obtain ⟨b,hrun⟩:=UZ ho' hut J U hund ab;refine ⟨km,?_⟩;rw[kQ hop0,hrun,Oper.uponIn_value];have hb:=hall (if b then 0 else 1) (by cases b <;>simp);refine hK _ _ _ hb ⟨D,E,?_⟩;rw[af];have e:((if b=true then (0:Nat) else 1)==0)=b:=by cases b <;>rfl
    rw[e];exact ab.aT hdn (nx b)
   ·cases hop
  ·cases hop
 ·split at hop <;>simp at hop
 ·split at hop <;>simp at hop
 ·cases hop
theorem Tc{dr:Bool}{K:ai→Prop}{dst:Option Nat}{rest:List aC}{a:Act}{w:World}{Kw:Act→World→Prop}{Q:Exit→Act→World→Prop}{e:TypeId}{esz bytes:Nat}{z:I}{s x:aO}(hop:c4 c.P o=some (.dm e esz bytes z s x))(af:o.dst=dst)(hdn:∀ k,dst=some k→k<c.n)
  (hwp:aR c.P c.Y dr K (bj A dst (.dm e esz bytes z s x) rest (az rest))) (hsim:bV c A a w) (hK:∀ B a' w',aR c.P c.Y dr K (az rest B)→bV c B a' w'→Kw a' w'):o.wpIn c.bz 9 c.P a w Kw Q:=by
 have hop0:=hop;simp only[bj] at hwp;unfold c4 at hop;split at hop <;>try (first | (simp at hop;done) | ((repeat' split at hop) <;>simp at hop;done))
 rename_i args tys ho;split at hop
 case h_2=>cases hop
 rename_i y q t t' ha ht;split at hop
 case h_2=>cases hop
 rename_i e' s' x' k1 k2 k3;split at hop
 case isFalse=>split at hop <;>simp at hop
 rename_i hk;simp only[t7,bR.dm.injEq] at hop;obtain ⟨zz,hz1,rfl,rfl,rfl,rfl,rfl,rfl⟩:=hop;obtain ⟨rfl,hk2,hk3⟩:=hk;have ha':args = #[y,q]:=by apply Array.ext';simpa using ha
 have ht':tys = #[t,t]:=by apply Array.ext';simpa using ht
 subst ha' ht';rw[hz1] at hk3;simp only[Z7,v6] at hk3;have hinfo:(c.P.info? e').isSome=true:=by
  obtain ⟨ti,_,hti,_⟩:=kX hz1;rw[hti];rfl
 have grow:∀ es ys,eE A (c.P.cellsOf e') (ak A s')=some es→eE A (c.P.cellsOf e') (ak A x')=some ys→ys≠[]→(∀ a w D E,aU c A a w D E→∀ ad l cp,a.eval y=.slice ad l cp→cp<l+ys.length) →
   aR c.P c.Y dr K (fN A dst (c.P.cellsOf e') (c.P.bytesOf e') zz es ys (az rest))→o.wpIn c.bz 9 c.P a w Kw Q:=fun es ys hse hsx hne hfull h=>by
  simp only[fN] at h;split at h
  case h_2=>cases h
  rename_i d;split at h
  case h_2=>cases h
  rename_i hf;split at h
  case isFalse=>cases h
  rename_i hb;cases h with
  |any hdr hall =>
   obtain ⟨D,E,ab⟩:=hsim;obtain ⟨v,w',m,g1,g2,g3⟩:=Gz ho k1 k2 k3 hz1 hk3 hse hsx hb.1 af (hdn d rfl) hf hne ab (hfull a w D E ab) hb.2;refine ⟨km,?_⟩;rw[kQ hop0,g1,Oper.uponIn_value,af];rw[af] at g3;exact hK _ _ _ (hall m g2) g3
 split at hwp
 ·rename_i n l hs';split at hwp
  case h_2=>cases hwp
  rename_i sz ys hx';split at hwp
  case h_3=>cases hwp
  case h_2 =>
   rename_i T xs hn;split at hwp
   case isFalse=>cases hwp
   rename_i hok;obtain ⟨J,U,ah,ar,h5,h6,h7,h8⟩:=hok;subst ah ar;have hl5:ys.length=(qg ys).length:=(congrArg List.length h5).trans (by simp);rw[hl5] at h7 h8 hwp;rw[h5] at hx';have hd':=K7 (o:=o) ho k1 k2 k3 hz1 U hs' hn J hx' (fun e=>h6 (by rw[h5,e];rfl)) h7 h8 (by rw[af];exact hdn);exact hd'.wp hop0 hsim (fun a' w' ab=>by rw[af] at ab;exact hK _ a' w' hwp ab)
  rename_i T sz' es hn;split at hwp
  case isFalse=>cases hwp
  rename_i hok;obtain ⟨J,U,ah,ar,h5,h6,h7⟩:=hok;subst U ah ar;have hd':=K6 (o:=o) ho k1 k2 k3 hz1 hk3 hk2 hs' hn J hx' rfl h5 h6 h7 (by rw[af];exact hdn);exact hd'.wp hop0 hsim (fun a' w' ab=>by rw[af] at ab;exact hK _ a' w' hwp ab)
 ·simp only[eW] at hwp;split at hwp
  case h_2=>cases hwp
  rename_i es ys hse hsx;split at hwp
  ·rename_i hne;subst hne;exact ((K9 ho k1 hinfo k2 k3 hse hsx).does (by rw[af];exact hdn)).wp hop0 hsim (fun a' w' ab=>by rw[af] at ab;exact hK _ a' w' hwp ab)
  ·rename_i hne;have hpos:0<ys.length:=List.length_pos_iff.2 hne;split at hwp
   ·rename_i z0 hsv;refine grow es ys hse hsx hne (fun a w D E ab ad l cp hv =>?_) hwp;have aW:=bT ab k2;rw[hsv] at aW;obtain ⟨cs,q1,q2⟩:=aW;simp only[al] at q2;have:a.eval y=.slice none 0 0:=by simpa[bu,I.isAgg,q2] using q1.symm
    rw[this] at hv;simp only[Value.slice.injEq] at hv;omega
   ·rename_i z0 hsv;refine grow es ys hse hsx hne (fun a w D E ab ad l cp hv =>?_) hwp;have aW:=bT ab k2;rw[hsv] at aW;obtain ⟨cs,q1,q2⟩:=aW;simp only[al] at q2;obtain ⟨ad',q2⟩:=q2;have:a.eval y=.slice ad' 0 0:=by simpa[bu,I.isAgg,q2] using q1.symm
    rw[this] at hv;simp only[Value.slice.injEq] at hv;omega
   ·rename_i n p sz lo l hsv;split at hwp
    case h_2=>cases hwp
    rename_i b hn;split at hwp
    case h_2=>cases hwp
    rename_i fs hat;split at hwp
    ·rename_i hroom;split at hwp
     case isFalse=>cases hwp
     rename_i hok;obtain ⟨rfl,hsh⟩:=hok;exact (K8 ho k1 hinfo k2 k3 hsv hn hat hsx hroom hsh (by rw[af];exact hdn)).wp hop0 hsim (fun a' w' ab=>by rw[af] at ab;exact hK _ a' w' hwp ab)
    ·rename_i hroom;refine grow es ys hse hsx hne (fun a w D E ab ad l' cp hv =>?_) hwp;have aW:=bT ab k2;rw[hsv] at aW;obtain ⟨_,bb,cs,T,off,c1,c2,c3,_,_,_,_,_,_,_,_,_,_,r1,nI,td⟩:=ab.view (fs:=fs) aW (by simp only[cC,hn,hat]);rw[td] at hv;simp only[Value.slice.injEq] at hv;omega
   ·cases hwp
theorem Td{dr:Bool}{K:ai→Prop}{dst:Option Nat}{rest:List aC}{a:Act}{w:World}{Kw:Act→World→Prop}{Q:Exit→Act→World→Prop}{e:TypeId}{esz bytes:Nat}{z:I}{s n:aO}(hop:c4 c.P o=some (.lf e esz bytes z s n))(af:o.dst=dst)(hdn:∀ k,dst=some k→k<c.n)
  (hwp:aR c.P c.Y dr K (bj A dst (.lf e esz bytes z s n) rest (az rest))) (hsim:bV c A a w) (hK:∀ B a' w',aR c.P c.Y dr K (az rest B)→bV c B a' w'→Kw a' w'):o.wpIn c.bz 9 c.P a w Kw Q:=by
 have hop0:=hop;simp only[bj] at hwp;unfold c4 at hop;split at hop <;>try (first | (simp at hop;done) | ((repeat' split at hop) <;>simp at hop;done))
 rename_i args tys ho;split at hop
 case h_2=>cases hop
 rename_i y q t t' ha ht;split at hop
 case h_2=>cases hop
 rename_i e' s' x' k1 k2 k3;split at hop
 case isTrue=>simp at hop
 split at hop
 case isFalse=>cases hop
 rename_i hk;simp only[t7,bR.lf.injEq] at hop;obtain ⟨zz,hz1,rfl,rfl,rfl,rfl,rfl,rfl⟩:=hop;obtain ⟨hint,hk2,hk3⟩:=hk;have ha':args = #[y,q]:=by apply Array.ext';simpa using ha
 have ht':tys = #[t,t']:=by apply Array.ext';simpa using ht
 subst ha' ht';rw[hz1] at hk3;simp only[Z7,v6] at hk3;obtain ⟨kt,hkt⟩:∃ kt,c.P.underlying t'=some (.int kt):=by
  cases hu:c.P.underlying t' with
  |none=>rw[hu] at hint;cases hint
  |some dsc=>cases dsc <;>rw[hu] at hint <;>first | exact ⟨_,rfl⟩ | cases hint
 split at hwp
 case h_2=>cases hwp
 rename_i kx b6 hx';simp only[ue] at hwp;split at hwp
 case h_2=>cases hwp
 rename_i es hse;split at hwp
 case h_2=>cases hwp
 rename_i nn p sz lo l hsv;split at hwp
 case h_2=>cases hwp
 rename_i bb hn;split at hwp
 case h_2=>cases hwp
 rename_i fs hat;split at hwp
 case isFalse=>cases hwp
 rename_i hroom;simp only[fN] at hwp;split at hwp
 case h_2=>cases hwp
 rename_i d;split at hwp
 case h_2=>cases hwp
 rename_i hf;split at hwp
 case isFalse=>cases hwp
 rename_i hb;rw[List.length_replicate] at hb;cases hwp with
 |any hdr hall =>
  obtain ⟨D,E,ab⟩:=hsim;obtain ⟨v,w',m,g1,g2,g3⟩:=GA ho k1 k2 k3 hkt hx' rfl hroom.1 hk2 hz1 hk3 hse hb.1 af (hdn d rfl) hf ab (fun ad l' cp hv=>by
   have aW:=bT ab k2;rw[hsv] at aW;have hsv':=hse;obtain ⟨_,b1,cs,T,off,c1,c2,c3,_,_,_,_,_,_,_,_,_,_,r1,nI,td⟩:=ab.view (fs:=fs) aW (by simp only[cC,hn,hat]);rw[td] at hv;simp only[Value.slice.injEq] at hv;have hel:es.length=l:=by
    rw[hsv] at hse;simp only[eE,cC,hn,hat] at hse;split at hse
    ·simp only[v6] at hse;rw[←hse,X6,List.length_drop];omega
    ·cases hse
   omega) hb.2
  refine ⟨km,?_⟩;rw[kQ hop0,g1,Oper.uponIn_value,af];rw[af] at g3;have:=hall m (by rw[List.length_replicate];exact g2);rw[List.length_replicate] at this;exact hK _ _ _ this g3
theorem Th{dr:Bool}{K:ai→Prop}{dst:Option Nat}{rest:List aC}{a:Act}{w:World}{Kw:Act→World→Prop}{Q:Exit→Act→World→Prop}{esz:Nat}{z:I}{x:aO}(hop:c4 c.P o=some (.jx esz z x))(af:o.dst=dst)(hdn:∀ k,dst=some k→k<c.n)
  (hwp:aR c.P c.Y dr K (bj A dst (.jx esz z x) rest (az rest))) (hsim:bV c A a w) (hK:∀ B a' w',aR c.P c.Y dr K (az rest B)→bV c B a' w'→Kw a' w'):o.wpIn c.bz 9 c.P a w Kw Q:=by
 have hop0:=hop;simp only[bj] at hwp;split at hwp
 case h_2=>cases hwp
 unfold c4 at hop;split at hop <;>try (first | (simp at hop;done) | ((repeat' split at hop) <;>simp at hop;done))
 rename_i args tys ho;split at hop
 case h_2=>cases hop
 rename_i y t ha ht;split at hop
 case h_2=>cases hop
 rename_i e' x' k1 k2;simp only[t7,bR.jx.injEq] at hop;obtain ⟨zz,hz1,rfl,rfl,rfl⟩:=hop;have ha':args = #[y]:=by apply Array.ext';simpa using ha
 have ht':tys = #[t]:=by apply Array.ext';simpa using ht
 subst ha' ht';have nothing:aR c.P c.Y dr K (az rest A)→(∀ a w D E,aU c A a w D E→∃ ad cp,a.eval y=.slice ad 0 cp)→o.wpIn c.bz 9 c.P a w Kw Q:=fun h hv=>by
  obtain ⟨D,E,ab⟩:=hsim;obtain ⟨ad,cp,hv⟩:=hv a w D E ab;refine ⟨km,?_⟩;have hrun:(execOp a.eval o).run c.P w=.ok (.value (.tuple #[])) w:=by
   cases ad <;>simp[execOp,ho,resolve,invoke,builtin,Builtin.clear_,run_underlying k1,hv]
  rw[kQ hop0,hrun,Oper.uponIn_value,af];exact hK _ _ _ h ⟨D,E,ab⟩
 unfold oy at hwp;split at hwp
 ·rename_i n p sz lo l hv;split at hwp
  case h_2=>cases hwp
  rename_i b hn;split at hwp
  case h_2=>cases hwp
  rename_i fs hat;split at hwp
  case isFalse=>cases hwp
  rename_i hok;obtain ⟨rfl,hsh⟩:=hok;exact (Lb ho k1 k2 hz1 hv hn hat hsh af).wp hop0 hsim (fun a' w' ab=>hK _ a' w' hwp ab)
 ·rename_i z0 hv;refine nothing hwp fun a w D E ab =>?_;have aW:=bT ab k2;rw[hv] at aW;obtain ⟨cs,q1,q2⟩:=aW;simp only[al] at q2;exact ⟨none,0,by simpa[bu,I.isAgg,q2] using q1.symm⟩
 ·rename_i z0 hv;refine nothing hwp fun a w D E ab =>?_;have aW:=bT ab k2;rw[hv] at aW;obtain ⟨cs,q1,q2⟩:=aW;simp only[al] at q2;obtain ⟨ad,q2⟩:=q2;exact ⟨ad,0,by simpa[bu,I.isAgg,q2] using q1.symm⟩
 ·cases hwp
theorem Ti{dr:Bool}{K:ai→Prop}{dst:Option Nat}{rest:List aC}{a:Act}{w:World}{Kw:Act→World→Prop}{Q:Exit→Act→World→Prop}{esz:Nat}{x y:aO}(hop:c4 c.P o=some (.ky esz x y))(af:o.dst=dst)(hdn:∀ k,dst=some k→k<c.n)
  (hwp:aR c.P c.Y dr K (bj A dst (.ky esz x y) rest (az rest))) (hsim:bV c A a w) (hK:∀ B a' w',aR c.P c.Y dr K (az rest B)→bV c B a' w'→Kw a' w'):o.wpIn c.bz 9 c.P a w Kw Q:=by
 have hop0:=hop;simp only[bj] at hwp;unfold c4 at hop;split at hop <;>try (first | (simp at hop;done) | ((repeat' split at hop) <;>simp at hop;done))
 rename_i args tys ho;split at hop
 case h_2=>cases hop
 rename_i u v t t' ha ht;split at hop
 case h_2=>cases hop
 rename_i e' x' y' k1 k2 k3;split at hop
 case isFalse=>cases hop
 rename_i hk;simp only[v6,bR.ky.injEq] at hop;obtain ⟨rfl,rfl,rfl⟩:=hop;obtain ⟨rfl,hinfo⟩:=hk;have ha':args = #[u,v]:=by apply Array.ext';simpa using ha
 have ht':tys = #[t,t]:=by apply Array.ext';simpa using ht
 subst ha' ht';unfold r8 at hwp;split at hwp
 ·rename_i n p sz lo l ys hv hsx;split at hwp
  case h_2=>cases hwp
  rename_i b hn;split at hwp
  case h_2=>cases hwp
  rename_i fs hat;split at hwp
  case isFalse=>cases hwp
  rename_i hok;obtain ⟨rfl,hsh⟩:=hok;exact (Lc ho k1 hinfo k2 k3 hv hn hat hsx rfl hsh (by rw[af];exact hdn)).wp hop0 hsim (fun a' w' ab=>by rw[af] at ab;exact hK _ a' w' hwp ab)
 ·cases hwp
theorem sr{dr:Bool}{K:ai→Prop}{op:bR}{dst:Option Nat}{rest:List aC}{a:Act}{w:World}{Kw:Act→World→Prop}{Q:Exit→Act→World→Prop}(hop:c4 c.P o=some op)(af:o.dst=dst)(hdn:∀ k,dst=some k→k<c.n)
  (hwp:aR c.P c.Y dr K (bj A dst op rest (az rest))) (hsim:bV c A a w) (hK:∀ B a' w',aR c.P c.Y dr K (az rest B)→bV c B a' w'→Kw a' w'):o.wpIn c.bz 9 c.P a w Kw Q:=by
 cases op with
 |alloc z=>exact Tb hop af hdn hwp hsim hK
 |box x=>exact Te hop af hdn hwp hsim hK
 |bd s x v=>exact Tr hop af hdn hwp hsim hK
 |call f args=>exact Tf hop af hdn hwp hsim hK
 |jP f args=>exact Ts hop af hdn hwp hsim hK
 |iu=>exact Tk hop af hdn hwp hsim hK
 |jY e bytes z n=>exact Tl hop af hdn hwp hsim hK
 |eN ty m k v=>exact Tm hop af hdn hwp hsim hK
 |ir ty m k=>exact Tj hop af hdn hwp hsim hK
 |jm x=>exact Tq hop af hdn hwp hsim hK
 |hP x=>exact Tp hop af hdn hwp hsim hK
 |fF x args=>exact Tg hop af hdn hwp hsim hK
 |nilS neg x=>exact Tn hop af hdn hwp hsim hK
 |dm e esz bytes z s x=>exact Tc hop af hdn hwp hsim hK
 |lf e esz bytes z s n=>exact Td hop af hdn hwp hsim hK
 |jx esz z x=>exact Th hop af hdn hwp hsim hK
 |ky esz x y=>exact Ti hop af hdn hwp hsim hK
 |_=>exact A8 hop af hdn hsim hK (by simpa only[bj] using hwp)
theorem sx{j t:Nat}{aS:Array Oper}{a:Act}{w:World}{b b':Bool}(ab:bV c A a w)(hg:o.guard=some (j,b))(ht:(aS[j]?).bind (·.dst)=some t)(hv:A.t t=.bool b'):Region.wanted o (yielded aS a.tmps)=(b'==b):=by
 obtain ⟨D,E,ab⟩:=ab;have h:=ab.dL t;rw[hv] at h;have h:=j8 h;have hy:yielded aS a.tmps j=some b':=by
  unfold yielded;rw[ht];simp only[Option.bind_some];simp only[Array.getD_eq_getD_getElem?] at h;cases bH:a.tmps[t]? with
  |none=>simp[bH,undef] at h
  |some v=>simp only[bH,Option.getD_some] at h;subst h;rfl
 unfold Region.wanted;rw[hg];simp only[hy];cases b <;>cases b' <;>rfl
theorem sy{j t:Nat}{aS:Array Oper}{a:Act}{w:World}{b:Bool}(ab:bV c A a w)(hg:o.guard=some (j,b))(ht:(aS[j]?).bind (·.dst)=some t)(hv:A.t t=.undef):Region.wanted o (yielded aS a.tmps)=false:=by
 obtain ⟨D,E,ab⟩:=ab;have h:=ab.dL t;rw[hv] at h;simp only[aZ] at h;have hy:yielded aS a.tmps j=none:=by
  unfold yielded;rw[ht];simp only[Option.bind_some];simp only[Array.getD_eq_getD_getElem?] at h;cases bH:a.tmps[t]? with
  |none=>rfl
  |some v=>simp only[bH,Option.getD_some] at h;subst h;rfl
 unfold Region.wanted;rw[hg];simp only[hy];rfl
theorem bV.mD{a:Act}{w:World}(h:bV c A a w){d:Option Nat}(af:∀ k,d=some k→k<c.n):bV c (A.aT d .undef) (a.put d undef) w:=by
 obtain ⟨D,E,h⟩:=h;exact ⟨D,E,h.aT af (by simp[aZ])⟩
theorem sw{dr:Bool}{K:ai→Prop}{aS:Array Oper}{Q:Exit→Act→World→Prop}(hQ:∀ B a w,K B→bV c B a w→Q .normal a w):∀ (l:List Oper) (gs:List aC) (A:ai) (a:Act) (w:World),fE c.P c.n aS l=some gs→aR c.P c.Y dr K (az gs A) →
  bV c A a w→wpListIn c.bz 9 c.P aS Q l a w
 | [],gs,A,a,w,hc,hwp,ab=>by
  simp only[fE,v6] at hc;subst hc;simp only[az] at hwp;cases hwp with
  |done hk=>exact hQ A a w hk ab
 |o::l,gs,A,a,w,hc,hwp,ab=>by
  simp only[fE] at hc;split at hc
  case h_2=>cases hc
  rename_i g gs' hg hgs;simp only[v6] at hc;subst hc;obtain ⟨J,U,ah,ar⟩:=nd hg;have step:aR c.P c.Y dr K (bj A g.dst g.op gs' (az gs'))→o.wpIn c.bz 9 c.P a w (wpListIn c.bz 9 c.P aS Q l) Q:=fun h =>
   sr J U.symm (by rw[U];exact ah) h ab (fun B a' w' hw hs'=>sw hQ l gs' B a' w' hgs hw hs')
  simp only[wpListIn];simp only[az] at hwp;rcases ar with ⟨h5,h6⟩ | ⟨j,b,t,h5,h6,h7⟩
  ·rw[h6] at hwp;have hw:Region.wanted o (yielded aS a.tmps)=true:=by simp[Region.wanted,h5]
   rw[hw,if_pos rfl];exact step hwp
  ·rw[h7] at hwp;simp only at hwp;split at hwp
   ·rename_i b' hb';rw[sx ab h5 h6 hb'];split at hwp
    ·rename_i hbb;subst hbb;simp only[BEq.rfl,if_true];exact step hwp
    ·rename_i hbb;have:(b'==b)=false:=by simpa using hbb
     rw[this];simp only[Z2,if_false];exact ⟨fun f _=>lz c f,sw hQ l gs' _ _ w hgs hwp (by rw[U];exact ab.mD ah)⟩
   ·rename_i hb';rw[sy ab h5 h6 hb'];simp only[Z2,if_false];exact ⟨fun f _=>lz c f,sw hQ l gs' _ _ w hgs hwp (by rw[U];exact ab.mD ah)⟩
   ·cases hwp
end
def aO.sl:aO→List Nat
 | .t n=>[n]
 | .c _=>[]
def sR:Option aO→List Nat
 |some x=>x.sl
 |none=>[]
def jo(l:List aO):List Nat:=l.flatMap aO.sl
def bR.cW:bR→List Nat
 | .mv x=>x.sl
 | .pick c a b=>c.sl++(a.sl++b.sl)
 | .bin _ x y=>x.sl++y.sl
 | .eqv _ _ x y=>x.sl++y.sl
 | .nilS _ x=>x.sl
 | .conv _ x=>x.sl
 | .un _ x=>x.sl
 | .ld _ x=>x.sl
 | .fa _ _ x=>x.sl
 | .fl _ _ _ x=>x.sl
 | .ia _ _ x i=>x.sl++i.sl
 | .is _ x i=>x.sl++i.sl
 | .ix _ _ _ x i=>x.sl++i.sl
 | .len x=>x.sl
 | .lenT x=>x.sl
 | .va _ _ x=>x.sl
 | .sl _ x lo hi mx=>x.sl++(sR lo++(sR hi++sR mx))
 | .bld _ ps=>jo (ps.map (·.2))
 | .bs _ _ ps=>jo ps
 | .ext x _=>x.sl
 | .mk _ caps=>jo caps
 | .alloc _=>[]
 | .box x=>x.sl
 | .bd _ x v=>x.sl++v.sl
 | .dm _ _ _ _ s x=>s.sl++x.sl
 | .lf _ _ _ _ s x=>s.sl++x.sl
 | .cap x=>x.sl
 | .bs0 _=>[]
 | .jx _ _ x=>x.sl
 | .ky _ x y=>x.sl++y.sl
 | .call _ args=>jo args
 | .fF x args=>x.sl++jo args
 | .jP _ args=>jo args
 | .nilC x=>x.sl
 | .ptrE _ x y=>x.sl++y.sl
 | .max2 x y=>x.sl++y.sl
 | .jY _ _ _ n=>n.sl
 | .iu=>[]
 | .lk _ _ _ m k=>m.sl++k.sl
 | .eN _ m k v=>m.sl++(k.sl++v.sl)
 | .ir _ m k=>m.sl++k.sl
 | .jm x=>x.sl
 | .hP x=>x.sl
 | .ent x=>x.sl
def aC.cW(g:aC):List Nat:=g.op.cW++(match g.guard with | some (t,_)=>[t] | none=>[])
def bR.gv:bR→Nat
 | .mv _ | .pick .. | .bin .. | .eqv .. | .nilS .. | .conv .. | .un .. | .fl .. | .ix .. | .lenT _ | .bld .. | .ext .. | .mk .. | .nilC _ | .ptrE .. | .max2 .. =>0
 | .ld .. | .fa .. | .ia .. | .is .. | .len _ | .va .. | .bs .. | .sl .. | .cap _ | .bs0 _ | .lk .. | .ent _=>1
 | .call .. | .fF .. =>2
 | .alloc _ | .box _=>3
 | .bd .. =>4
 | .dm .. | .lf .. | .jx .. | .ky .. | .jP .. | .jY .. | .iu | .eN .. | .ir .. | .jm _ | .hP _=>5
def uK(a b:Nat):Bool:=(decide (a≤2)&&decide (b≤3))||(a==0&&b==4)
def mf(g h:aC):Bool:=uK g.op.gv h.op.gv&&(match g.dst with
  |some d => !h.cW.contains d&&h.dst != some d
  |none=>true)&&(match h.dst with
  |some d => !g.cW.contains d
  |none=>true)
def dZ(A A':ai)(l:List Nat):Prop:=∀ k∈l,A'.t k=A.t k
section
variable {A A':ai}
theorem cY{x:aO}(h:dZ A A' x.sl):ak A' x=ak A x:=by
 cases x with
 |t n=>exact h n (by simp[aO.sl])
 |c x=>rfl
theorem dZ.l{l m:List Nat}(h:dZ A A' (l++m)):dZ A A' l:=fun k hk=>h k (List.mem_append_left _ hk)
theorem dZ.r{l m:List Nat}(h:dZ A A' (l++m)):dZ A A' m:=fun k hk=>h k (List.mem_append_right _ hk)
theorem lr:∀ {l:List aO},dZ A A' (jo l)→l.map (ak A')=l.map (ak A)
 | [],_=>rfl
 |x::l,h=>by
  simp only[jo,List.flatMap_cons] at h;simp only[Z3,cY h.l,lr (l:=l) h.r]
theorem oB{x:Option aO}(h:dZ A A' (sR x)):x.map (ak A')=x.map (ak A):=by
 cases x with
 |none=>rfl
 |some x=>simp only[Z7,cY (x:=x) h]
theorem Am:∀ {l:List (Nat×aO)},dZ A A' (jo (l.map (·.2)))→(l.map fun p=>(p.1,ak A' p.2))=l.map fun p=>(p.1,ak A p.2)
 | [],_=>rfl
 |x::l,h=>by
  simp only[jo,Z3,List.flatMap_cons] at h;simp only[Z3,cY h.l,Am (l:=l) h.r]
theorem qA{f g:I→Option I}(h:∀ x v,f x=some v→g x=some v):∀ {xs vs:List I},fI f xs=some vs→fI g xs=some vs
 | [],vs,hx=>by simpa only[fI] using hx
 |x::xs,vs,hx=>by
  simp only[fI] at hx ⊢;cases J:f x with
  |none=>rw[J] at hx;cases hx
  |some y=>cases U:fI f xs with
   |none=>rw[J,U] at hx;cases hx
   |some ys=>rw[J,U] at hx;rw[h x y J,qA h U];exact hx
theorem vh(hu:ee A A'):∀ (k:Nat) (x v:I),cQ A k x=some v→cQ A' k x=some v
 |0,_,_,h=>by simp[cQ] at h
 |k+1,x,v,h=>by
  have ih:=vh hu k;simp only[cQ] at h ⊢;split at h
  ·rename_i hc;rw[if_pos hc];exact h
  ·rename_i hc;rw[if_neg hc];cases x <;>simp only[] at h ⊢ <;>try (cases h;done)
   case agg fs =>
    simp only[t7] at h ⊢;obtain ⟨a,J,U⟩:=h;exact ⟨a,qA ih J,U⟩
   case func f fs =>
    split at h
    case isFalse hf=>rw[if_neg hf];exact h
    rename_i hf;rw[if_pos hf];simp only[t7] at h ⊢;obtain ⟨a,J,U⟩:=h;exact ⟨a,qA ih J,U⟩
   case ptr n p =>
    cases af:cC A (.ptr n p) with
    |none=>rw[af] at h;cases h
    |some y =>
     rw[af] at h;rw[je hu af];simp only[t7] at h ⊢;obtain ⟨a,J,U⟩:=h;exact ⟨a,ih _ _ J,U⟩
   case view n p sz lo l =>
    cases af:cC A (.ptr n p) with
    |none=>rw[af] at h;cases h
    |some y=>rw[af] at h;rw[je hu af];exact h
   case mref n =>
    cases ho:A.o n with
    |none=>rw[ho] at h;cases h
    |some y =>
     rw[ho] at h;rw[hu n y ho];cases y <;>try (cases h;done)
     simp only at h ⊢;split at h
     ·rename_i hk;rw[if_pos hk];simp only[t7] at h ⊢;obtain ⟨a,J,U⟩:=h;exact ⟨a,qA ih J,U⟩
     ·cases h
   case own n l =>
    cases ho:A.o n with
    |none=>rw[ho] at h;cases h
    |some y=>rw[ho] at h;rw[hu n y ho];exact h
mutual
theorem AA(hu:ee A A'){aN:Bool} : ∀ {x v:I},bh aN A x=some v→bh aN A' x=some v
 | .ptr n p,v,h=>by
  simp only[bh] at h ⊢;cases aN <;>simp only[Z2,if_false,if_true] at h ⊢
  ·exact h
  ·cases af:cC A (.ptr n p) with
   |none=>rw[af] at h;cases h
   |some y =>
    rw[af] at h;rw[je hu af];simp only at h ⊢;split at h
    ·rename_i hc;rw[if_pos hc];exact h
    ·rename_i hc;rw[if_neg hc];simp only[t7] at h ⊢;obtain ⟨a,J,U⟩:=h;exact ⟨a,vh hu 9 _ _ J,U⟩
 | .mref n,v,h=>by
  simp only[bh] at h ⊢;cases aN <;>simp only[Z2,if_false,if_true] at h ⊢
  ·exact h
  ·cases ho:A.o n with
   |none=>rw[ho] at h;cases h
   |some y =>
    rw[ho] at h;rw[hu n y ho];cases y <;>try (cases h;done)
    simp only at h ⊢;split at h
    ·rename_i hk;rw[if_pos hk];simp only[t7] at h ⊢;obtain ⟨a,J,U⟩:=h;exact ⟨a,qA (vh hu 9) J,U⟩
    ·cases h
 | .db _,_,h=>by simp[bh] at h
 | .c7 _ _,_,h=>by simpa only[bh] using h
 | .own n k,v,h=>by
  simp only[bh] at h ⊢;cases ho:A.o n with
  |none=>rw[ho] at h;cases h
  |some y=>rw[ho] at h;rw[hu n y ho];exact h
 | .view n p sz lo k,v,h=>by
  simp only[bh] at h ⊢;cases aN <;>simp only[Z2,if_false,if_true] at h ⊢
  ·exact h
  ·cases af:cC A (.ptr n p) with
   |none=>rw[af] at h;cases h
   |some y=>rw[af] at h;rw[je hu af];exact h
 | .func f caps,v,h=>by
  simp only[bh] at h ⊢;split at h
  case isFalse hf=>rw[if_neg hf];exact h
  rename_i hf;rw[if_pos hf];simp only[t7] at h ⊢;obtain ⟨a,J,U⟩:=h;exact ⟨a,kE hu J,U⟩
 | .agg fs,v,h=>by
  simp only[bh,t7] at h ⊢;obtain ⟨a,J,U⟩:=h;exact ⟨a,kE hu J,U⟩
 | .nils _,_,h | .c0 _,_,h | .tuple _,_,h | .undef,_,h | .df,_,h | .bool _,_,h | .int _ _,_,h | .bO _,_,h | .nilp,_,h | .dn,_,h | .dS,_,h | .any,_,h | .raw _,_,h | .slice _ _,_,h | .ref _,_,h | .iface _ _,_,h=>by simpa only[bh] using h
theorem kE(hu:ee A A'){aN:Bool} : ∀ {xs vs:List I},bZ aN A xs=some vs→bZ aN A' xs=some vs
 | [],vs,h=>by simpa only[bZ] using h
 |x::xs,vs,h=>by
  simp only[bZ] at h ⊢;cases J:bh aN A x with
  |none=>rw[J] at h;cases h
  |some y=>cases U:bZ aN A xs with
   |none=>rw[J,U] at h;cases h
   |some ys=>rw[J,U] at h;rw[AA hu J,kE hu U];exact h
end
theorem wJ{op:bR}(hc:op.gv=0)(h:dZ A A' op.cW):bm A' op=bm A op:=by
 cases op <;>simp only[bR.gv] at hc <;>try (cases hc;done)
 all_goals simp only[bR.cW] at h
 case mv x=>simp only[bm,cY h]
 case pick c a b=>simp only[bm,cY h.l,cY h.r.l,cY h.r.r]
 case bin _ x y=>simp only[bm,cY h.l,cY h.r]
 case eqv _ _ x y=>simp only[bm,cY h.l,cY h.r]
 case nilS x=>simp only[bm,cY h]
 case conv x=>simp only[bm,cY h]
 case un x=>simp only[bm,cY h]
 case fl x=>simp only[bm,cY h]
 case ix x i=>simp only[bm,cY h.l,cY h.r]
 case lenT x=>simp only[bm,cY h]
 case bld zs ps=>simp only[bm,Am h]
 case ext x i=>simp only[bm,cY h]
 case mk f caps=>simp only[bm,lr h]
 case nilC x=>simp only[bm,cY h]
 case ptrE neg x y=>simp only[bm,cY h.l,cY h.r]
 case max2 x y=>simp only[bm,cY h.l,cY h.r]
theorem UI(hu:ee A A'){m:I}{q:List I×List I}(h:fQ A m=some q):fQ A' m=some q:=by
 cases m with
 |mref n =>
  simp only[fQ] at h ⊢;cases af:A.o n with
  |none=>simp only[af] at h;cases h
  |some y=>simp only[af] at h;simp only[hu n y af];exact h
 |raw v=>cases v <;>first | (cases h;done) | (rename_i m;cases m <;>first | exact h | cases h)
 |c7 ks vs=>exact h
 |_=>simp only[fQ] at h;cases h
theorem CE{op:bR}(hu:ee A A')(h:dZ A A' op.cW){v:I}(hv:bm A op=some v):bm A' op=some v:=by
 by_cases hc:op.gv=0
 ·rw[wJ hc h];exact hv
 cases op <;>try (exact absurd rfl hc)
 all_goals simp only[bR.cW] at h
 case ld s x =>
  simp only[bm,cY h] at hv ⊢;cases af:cC A (ak A x) with
  |none=>rw[af] at hv;cases hv
  |some y=>rw[af] at hv;rw[je hu af];exact hv
 case fa f off x =>
  simp only[bm,cY h] at hv ⊢;generalize ak A x=z at *;cases z <;>try (first | exact hv | (rename_i y;cases y <;>exact hv))
  rename_i n p;cases af:cC A (.ptr n p) with
  |none=>simp only[af] at hv;cases hv
  |some y=>simp only[af] at hv;simp only[je hu af];exact hv
 case ia n esz x i =>
  simp only[bm,cY h.l,cY h.r] at hv ⊢;generalize ak A x=z at *;cases z <;>try (first | exact hv | (rename_i y;cases y <;>exact hv))
  rename_i n p;cases af:cC A (.ptr n p) with
  |none=>simp only[af] at hv;(repeat' split at hv) <;>cases hv
  |some y=>simp only[af] at hv;simp only[je hu af];exact hv
 case is esz x i =>
  simp only[bm,cY h.l,cY h.r] at hv ⊢;generalize ak A i=q at *;cases q <;>try (exact hv)
  simp only at hv ⊢;generalize ak A x=z at *;cases z <;>try (first | exact hv | (rename_i y;cases y <;>exact hv))
  ·rename_i n p;cases af:A.o n with
   |none=>simp only[af] at hv;cases hv
   |some y=>simp only[af] at hv;simp only[hu n y af];exact hv
  ·rename_i n p sz lo k;simp only at hv ⊢;cases af:cC A (.ptr n p) with
   |none=>simp only[af] at hv;cases hv
   |some y=>simp only[af] at hv;simp only[je hu af];exact hv
 case len x =>
  simp only[bm,cY h] at hv ⊢;generalize ak A x=z at *;cases z <;>try (first | exact hv | (rename_i y;cases y <;>exact hv))
  rename_i n p;cases af:A.o n with
  |none=>simp only[af] at hv;cases hv
  |some y=>simp only[af] at hv;simp only[hu n y af];exact hv
 case cap x =>
  simp only[bm,cY h] at hv ⊢;generalize ak A x=z at *;cases z <;>try (first | exact hv | (rename_i y;cases y <;>exact hv))
  rename_i n p sz lo k;simp only at hv ⊢;cases af:cC A (.ptr n p) with
  |none=>simp only[af] at hv;cases hv
  |some y=>simp only[af] at hv;simp only[je hu af];exact hv
 case bs0 esz=>exact hv
 case sl esz x lo hi mx =>
  simp only[bm,cY h.l,oB h.r.l,oB h.r.r.l,oB h.r.r.r] at hv ⊢;generalize ak A x=z at *;cases z <;>try (first | exact hv | (rename_i y;cases y <;>exact hv))
  rename_i n p sz l0 k;simp only at hv ⊢;cases af:cC A (.ptr n p) with
  |none=>simp only[af] at hv;cases hv
  |some y=>simp only[af] at hv;simp only[je hu af];exact hv
 case va n esz x =>
  simp only[bm,cY h] at hv ⊢;generalize ak A x=z at *;cases z <;>try (first | exact hv | (rename_i y;cases y <;>exact hv))
  rename_i n p;cases af:cC A (.ptr n p) with
  |none=>simp only[af] at hv;cases hv
  |some y=>simp only[af] at hv;simp only[je hu af];exact hv
 case lk ty z ok m k =>
  simp only[bm,cY h.l,cY h.r] at hv ⊢;cases af:fQ A (ak A m) with
  |none=>rw[af] at hv;cases hv
  |some y=>rw[af] at hv;rw[UI hu af];exact hv
 case ent x =>
  simp only[bm,cY h] at hv ⊢;generalize ak A x=z at *;cases z <;>try (exact hv)
  rename_i n;simp only at hv ⊢;cases af:A.o n with
  |none=>simp only[af] at hv;cases hv
  |some y=>simp only[af] at hv;simp only[hu n y af];exact hv
 case bs esz ps =>
  simp only[bm,lr h] at hv ⊢;cases af:bZ false A (ps.map (ak A)) with
  |none=>rw[af] at hv;cases hv
  |some y=>rw[af] at hv;rw[kE hu af];exact hv
 all_goals (simp only[bm] at hv;cases hv)
end
def pass(A:ai)(g:aC):Prop:=match g.guard with | none=>True | some (t,b)=>A.t t=.bool b
def gh(A:ai)(g:aC):Prop:=match g.guard with | none=>False | some (t,b)=>A.t t=.bool (!b)∨A.t t=.undef
inductive iX (P:Program) (A:ai):bR→I→Prop where
 |pure {op:bR} {v:I} : bm A op=some v→iX P A op v
 |flat {f:FuncId} {args:List aO} {cargs:List I} {r:I} : bZ true A (args.map (ak A))=some cargs→bf P f cargs r→r.flat=true→iX P A (.call f args) r
 |lead {f:FuncId} {args:List aO} {cargs:List I} {r:I} : bZ false A (args.map (ak A))=some cargs→bf P f cargs r→iX P A (.call f args) r
 |tH {x:aO} {f:FuncId} {caps:List I} {args:List aO} {cargs:List I} {r:I} : ak A x=.func f caps→bZ true A (hE f (args.map (ak A)) caps)=some cargs→bf P (kC f) cargs r→r.flat=true→iX P A (.fF x args) r
 |tI {x:aO} {f:FuncId} {caps:List I} {args:List aO} {cargs:List I} {r:I} : ak A x=.func f caps→bZ false A (hE f (args.map (ak A)) caps)=some cargs→bf P (kC f) cargs r→iX P A (.fF x args) r
def rN(A:ai)(op:bR)(x:I):Prop:=op=.alloc x∨∃ y,op=.box y∧(ak A y).bS=true∧x=ak A y
def rO(A:ai)(op:bR)(n:Nat)(z:aq):Prop:=∃ s x v p b old,op=.bd s x v∧ak A x=.ptr n p∧A.o n=some (.box b)∧b.at p=some old∧wu s (ak A v) old∧z=.box (b.eh p (ak A v))
def F0(A:ai)(dst:Option Nat)(op:bR)(B:ai):Prop:=op.gv=5∧∀ (rest:List aC) (k:ai→cH),bj A dst op rest k=k B
theorem Xr{A:ai}{neg:Bool}{x:aO}{v:I}(h:bm A (.nilS neg x)=some v):js (ak A x)=false:=by
 simp only[bm] at h;generalize ak A x=q at *;cases q <;>simp only[js] <;>simp only at h <;>try (cases h;done)
 rename_i sz es;cases es with
 |nil=>simp at h
 |cons=>rfl
inductive fb (P:Program) (g:aC) (A:ai):ai→Prop where
 |skip:gh A g→fb P g A (A.aT g.dst .undef)
 |val {v:I} : pass A g→iX P A g.op v→fb P g A (A.aT g.dst v)
 |iS {d:Nat} {x:I} : pass A g→g.dst=some d→rN A g.op x→A.o d=none→fb P g A ((A.aV d (.box x)).put d (.ptr d []))
 |bd {n:Nat} {z:aq} : pass A g→g.dst=none→rO A g.op n z→fb P g A (A.aV n z)
 |gU {B:ai} : pass A g→F0 A g.dst g.op B→fb P g A B
theorem um{b' b:Bool}(h:b'≠b):b' = !b:=by cases b <;>cases b' <;>simp_all
section
variable {P:Program} {Y:Value→List I→List (Nat×aq)→cA→Prop} {K:ai→Prop}
theorem fb.Cd{A:ai}{g:aC}{rest:List aC}(hp:pass A g)(h:aR P Y true K (bj A g.dst g.op rest (az rest))):∃ B,fb P g A B∧aR P Y true K (az rest B):=by
 have pure:aR P Y true K (cL (bm A g.op) fun v=>az rest (A.aT g.dst v))→∃ B,fb P g A B∧aR P Y true K (az rest B):=by
  intro h;cases hv:bm A g.op with
  |none=>rw[hv] at h;cases h
  |some v=>rw[hv] at h;exact ⟨_,.val hp (.pure hv),h⟩
 obtain ⟨dst,op,gd⟩:=g;cases op with
 |alloc z =>
  simp only[bj] at h;split at h
  case h_2=>cases h
  split at h
  case h_2=>cases h
  rename_i af _ ho;exact ⟨_,.iS hp rfl (.inl rfl) ho,h⟩
 |box x =>
  simp only[bj] at h;split at h
  case h_2=>cases h
  split at h
  case h_2=>cases h
  rename_i af _ ho;split at h
  case isFalse=>cases h
  rename_i hv;exact ⟨_,.iS hp rfl (.inr ⟨x,rfl,hv,rfl⟩) ho,h⟩
 |bd s x v =>
  simp only[bj] at h;split at h
  case h_2=>cases h
  split at h
  case h_2=>cases h
  rename_i n p hx;split at h
  case h_2=>cases h
  rename_i b hb;split at h
  case h_2=>cases h
  rename_i old hat;split at h
  case isFalse=>cases h
  rename_i hok;exact ⟨_,.bd hp rfl ⟨s,x,v,p,b,old,rfl,hx,hb,hat,hok,rfl⟩,h⟩
 |nilS neg x =>
  simp only[bj] at h;split at h
  ·cases h with | any hdr=>cases hdr
  ·exact pure h
 |dm e esz bytes z s x =>
  simp only[bj] at h;split at h
  ·rename_i n l hs';split at h
   case h_2=>cases h
   rename_i sz ys hx';split at h
   case h_3=>cases h
   case h_2 =>
    rename_i T xs hn;split at h
    case isFalse=>cases h
    rename_i hok;exact ⟨_,.gU hp ⟨rfl,fun rest k=>by simp only[bj,hs',hx',hn,if_pos hok]⟩,h⟩
   rename_i T sz' es hn;split at h
   case isFalse=>cases h
   rename_i hok;exact ⟨_,.gU hp ⟨rfl,fun rest k=>by simp only[bj,hs',hx',hn,if_pos hok]⟩,h⟩
  ·rename_i hno;have hg:∀ (rest:List aC) (k:ai→cH),bj A dst (.dm e esz bytes z s x) rest k=eW A dst esz bytes z (ak A s) (eE A esz (ak A s)) (eE A esz (ak A x)) k:=fun rest k=>by
    simp only[bj]
   simp only[eW] at h hg;split at h
   case h_2=>cases h
   rename_i es ys hse hsx;simp only[hse,hsx] at hg;have grow:¬ aR P Y true K (fN A dst esz bytes z es ys (az rest)):=fun h=>by
    simp only[fN] at h;split at h
    case h_2=>cases h
    split at h
    case h_2=>cases h
    split at h
    case isFalse=>cases h
    cases h with | any hdr=>cases hdr
   split at h
   ·rename_i hne;simp only[if_pos hne] at hg;exact ⟨_,.gU hp ⟨rfl,hg⟩,h⟩
   ·rename_i hne;simp only[if_neg hne] at hg;split at h
    ·exact absurd h grow
    ·exact absurd h grow
    ·rename_i n p sz lo l hsv;split at h
     case h_2=>cases h
     rename_i b hn;split at h
     case h_2=>cases h
     rename_i fs hat;split at h
     ·rename_i hroom;split at h
      case isFalse=>cases h
      rename_i hok;simp only[hsv,hn,hat,if_pos hroom,if_pos hok] at hg;exact ⟨_,.gU hp ⟨rfl,hg⟩,h⟩
     ·exact absurd h grow
    ·cases h
 |jP f args =>
  simp only[bj] at h;cases h with | ext r hdr=>cases hdr
 |lf e esz bytes z s n =>
  exfalso
  simp only[bj] at h;split at h
  case h_2=>cases h
  simp only[ue] at h;split at h
  case h_2=>cases h
  split at h
  case h_2=>cases h
  split at h
  case h_2=>cases h
  split at h
  case h_2=>cases h
  split at h
  case isFalse=>cases h
  simp only[fN] at h;split at h
  case h_2=>cases h
  split at h
  case h_2=>cases h
  split at h
  case isFalse=>cases h
  cases h with | any hdr=>cases hdr
 |iu =>
  simp only[bj] at h;split at h
  case h_2=>cases h
  rename_i d;split at h
  case h_2=>cases h
  rename_i hf;exact ⟨_,.gU hp ⟨rfl,fun rest k=>by simp only[bj,hf]⟩,h⟩
 |jY e bytes z n =>
  simp only[bj] at h;split at h
  case h_2=>cases h
  rename_i d;split at h
  case h_2=>cases h
  rename_i hf;split at h
  case h_2=>cases h
  rename_i k m hn;split at h
  case isFalse=>cases h
  rename_i hc;exact ⟨_,.gU hp ⟨rfl,fun rest k=>by simp only[bj,hf,hn,if_pos hc]⟩,h⟩
 |eN ty m key v =>
  simp only[bj] at h;split at h
  case h_2=>cases h
  split at h
  case h_2=>cases h
  rename_i n hm;split at h
  case h_2=>cases h
  rename_i ks vs hn;split at h
  case h_2=>cases h
  rename_i ks' vs' ao;exact ⟨_,.gU hp ⟨rfl,fun rest k=>by simp only[bj,hm,hn,ao]⟩,h⟩
 |ir ty m key =>
  simp only[bj] at h;split at h
  case h_2=>cases h
  split at h
  case h_2=>cases h
  rename_i n hm;split at h
  case h_2=>cases h
  rename_i ks vs hn;split at h
  case h_2=>cases h
  rename_i ks' vs' ao;exact ⟨_,.gU hp ⟨rfl,fun rest k=>by simp only[bj,hm,hn,ao]⟩,h⟩
 |jm x =>
  simp only[bj] at h;split at h
  case h_2=>cases h
  rename_i d;split at h
  case h_2=>cases h
  rename_i hf;split at h
  case h_2=>cases h
  rename_i ks vs hx;exact ⟨_,.gU hp ⟨rfl,fun rest k=>by simp only[bj,hf,hx]⟩,h⟩
 |hP x =>
  simp only[bj] at h;split at h
  case h_2=>cases h
  rename_i n hx;split at h
  case h_2=>cases h
  rename_i ks vs left cur hn;split at h
  ·rename_i ao;exact ⟨_,.gU hp ⟨rfl,fun rest k=>by simp only[bj,hx,hn,if_pos ao]⟩,h⟩
  ·cases h with | any hdr=>cases hdr
 |jx esz z x =>
  simp only[bj] at h;split at h
  case h_2=>cases h
  have hg:∀ (rest:List aC) (k:ai→cH),bj A none (.jx esz z x) rest k=oy A esz z k (ak A x):=fun rest k=>rfl;simp only[oy] at h hg;split at h
  ·rename_i n p sz lo l hv;split at h
   case h_2=>cases h
   rename_i b hn;split at h
   case h_2=>cases h
   rename_i fs hat;split at h
   case isFalse=>cases h
   rename_i hok;simp only[hv,hn,hat,if_pos hok] at hg;exact ⟨_,.gU hp ⟨rfl,hg⟩,h⟩
  ·rename_i z0 hv;simp only[hv] at hg;exact ⟨_,.gU hp ⟨rfl,hg⟩,h⟩
  ·rename_i z0 hv;simp only[hv] at hg;exact ⟨_,.gU hp ⟨rfl,hg⟩,h⟩
  ·cases h
 |ky esz x y =>
  have hg:∀ (rest:List aC) (k:ai→cH),bj A dst (.ky esz x y) rest k=r8 A dst esz k (ak A x) (eE A esz (ak A y)):=fun rest k=>rfl;simp only[bj] at h;simp only[r8] at h hg;split at h
  ·rename_i n p sz lo l ys hv hsx;split at h
   case h_2=>cases h
   rename_i b hn;split at h
   case h_2=>cases h
   rename_i fs hat;split at h
   case isFalse=>cases h
   rename_i hok;simp only[hv,hsx,hn,hat,if_pos hok] at hg;exact ⟨_,.gU hp ⟨rfl,hg⟩,h⟩
  ·cases h
 |call f args =>
  simp only[bj] at h;generalize J:bZ true A (args.map (ak A))=a1 at h;generalize U:bZ false A (args.map (ak A))=a2 at h;cases h with
  |flat r hc hf hw=>exact ⟨_,.val hp (.flat J hc hf),hw⟩
  |lead r hc hw=>exact ⟨_,.val hp (.lead U hc),hw⟩
  |jy ns r hdr=>cases hdr
  |bN aN ρ os cargs post hdr=>cases hdr
 |fF x args =>
  simp only[bj] at h;split at h
  case h_3=>cases h
  case h_2=>cases h with | tK os cargs post hdr=>cases hdr
  rename_i f caps hx;generalize J:bZ true A (hE f (args.map (ak A)) caps)=a1 at h;generalize U:bZ false A (hE f (args.map (ak A)) caps)=a2 at h;cases h with
  |flat r hc hf hw=>exact ⟨_,.val hp (.tH hx J hc hf),hw⟩
  |lead r hc hw=>exact ⟨_,.val hp (.tI hx U hc),hw⟩
  |jy ns r hdr=>cases hdr
  |bN aN ρ os cargs post hdr=>cases hdr
 |_=>exact pure (by simpa only[bj] using h)
theorem fb.wm{A:ai}{g:aC}{rest:List aC}(h:aR P Y true K (az (g::rest) A)):∃ B,fb P g A B∧aR P Y true K (az rest B):=by
 simp only[az] at h;split at h
 ·rename_i hg;exact fb.Cd (by simp only[pass,hg]) h
 ·rename_i t b hg;split at h
  ·rename_i b' hb;split at h
   ·rename_i hbb;subst hbb;exact fb.Cd (by simp only[pass,hg];exact hb) h
   ·rename_i hbb;refine ⟨_,.skip (by simp only[gh,hg];exact .inl (by rw[hb,um hbb])),h⟩
  ·rename_i hb;exact ⟨_,.skip (by simp only[gh,hg];exact .inr hb),h⟩
  ·cases h
theorem mZ{A:ai}{g:aC}{rest:List aC}(hp:pass A g):az (g::rest) A=bj A g.dst g.op rest (az rest):=by
 simp only[az];cases hg:g.guard with
 |none=>rfl
 |some tb =>
  obtain ⟨t,b⟩:=tb;simp only[pass,hg] at hp;simp only[hp,if_true]
theorem fb.xt{A B:ai}{g:aC}{rest:List aC}(h:fb P g A B)(hw:aR P Y true K (az rest B)):aR P Y true K (az (g::rest) A):=by
 cases h with
 |skip hn =>
  simp only[az];cases hg:g.guard with
  |none=>simp only[gh,hg] at hn
  |some tb =>
   obtain ⟨t,b⟩:=tb;simp only[gh,hg] at hn;rcases hn with hn | hn
   ·simp only[hn];rw[if_neg (by cases b <;>simp)];exact hw
   ·simp only[hn];exact hw
 |val hp hv =>
  rw[mZ hp];obtain ⟨dst,op,gd⟩:=g;cases hv with
  |pure hv =>
   have hv':bm A op=some _:=hv;cases op <;>try (simp only[bj,hv',cL] <;>first | exact hw | (simp only[bm] at hv';cases hv');done)
   all_goals first
    |(simp only[bm] at hv';cases hv';done)
    |(simp only[bj,Xr hv',Z2,if_false,hv',cL];exact hw)
  |flat J U ah=>simp only[bj,J];exact .flat _ U ah hw
  |lead J U=>simp only[bj,J];exact .lead _ U hw
  |tH aW J U ah=>simp only[bj,aW,J];exact .flat _ U ah hw
  |tI aW J U=>simp only[bj,aW,J];exact .lead _ U hw
 |iS hp af hm ho =>
  rw[mZ hp];obtain ⟨dst,op,gd⟩:=g;simp only at af;subst af;rcases hm with hm | ⟨y,hm,hv,rfl⟩ <;>simp only at hm <;>subst hm
  ·simp only[bj,ho];exact hw
  ·simp only[bj,ho,hv,if_true];exact hw
 |bd hp af hm =>
  rw[mZ hp];obtain ⟨dst,op,gd⟩:=g;simp only at af;subst af;obtain ⟨s,x,v,p,b,old,J,U,ah,ar,h5,rfl⟩:=hm;simp only at J;subst J;simp only[bj,U,ah,ar,if_pos h5];exact hw
 |gU hp hm =>
  rw[mZ hp,hm.2];exact hw
theorem iX.cM{A A':ai}{op:bR}{v:I}(h:iX P A op v)(hu:ee A A')(ha:dZ A A' op.cW):iX P A' op v:=by
 cases h with
 |pure h=>exact .pure (CE hu ha h)
 |flat J U ah=>exact .flat (by rw[lr ha];exact kE hu J) U ah
 |lead J U=>exact .lead (by rw[lr ha];exact kE hu J) U
 |tH aW J U ah=>simp only[bR.cW] at ha;exact .tH (by rw[cY ha.l];exact aW) (by rw[lr ha.r];exact kE hu J) U ah
 |tI aW J U=>simp only[bR.cW] at ha;exact .tI (by rw[cY ha.l];exact aW) (by rw[lr ha.r];exact kE hu J) U
theorem iX.jy{A A':ai}{op:bR}{v:I}(h:iX P A op v)(hc:op.gv=0)(ha:dZ A A' op.cW):iX P A' op v:=by
 cases h with
 |pure h=>exact .pure (by rw[wJ hc ha];exact h)
 |_=>simp[bR.gv] at hc
theorem my{A A':ai}{g:aC}(ha:dZ A A' g.cW)(h:pass A g):pass A' g:=by
 unfold pass at *;cases hg:g.guard with
 |none=>trivial
 |some tb=>simp only[hg] at h ⊢;rw[ha tb.1 (by simp[aC.cW,hg])];exact h
theorem oY{A A':ai}{g:aC}(ha:dZ A A' g.cW)(h:gh A g):gh A' g:=by
 unfold gh at *;cases hg:g.guard with
 |none=>simp only[hg] at h
 |some tb=>simp only[hg] at h ⊢;rw[ha tb.1 (by simp[aC.cW,hg])];exact h
theorem aC.jH{A A':ai}{g:aC}(ha:dZ A A' g.cW):dZ A A' g.op.cW:=fun k hk=>ha k (List.mem_append_left _ hk)
def ki(P:Program)(g:aC)(A:ai)(v:I):Prop:=(gh A g∧v=.undef)∨(pass A g∧iX P A g.op v)
theorem ki.step{A:ai}{g:aC}{v:I}(h:ki P g A v):fb P g A (A.aT g.dst v):=by
 rcases h with ⟨h,rfl⟩ | ⟨h,k⟩
 ·exact .skip h
 ·exact .val h k
theorem ki.cM{A A':ai}{g:aC}{v:I}(h:ki P g A v)(hu:ee A A')(ha:dZ A A' g.cW):ki P g A' v:=by
 rcases h with ⟨h,rfl⟩ | ⟨h,k⟩
 ·exact .inl ⟨oY ha h,rfl⟩
 ·exact .inr ⟨my ha h,k.cM hu (aC.jH ha)⟩
theorem ki.jy{A A':ai}{g:aC}{v:I}(h:ki P g A v)(hc:g.op.gv=0)(ha:dZ A A' g.cW):ki P g A' v:=by
 rcases h with ⟨h,rfl⟩ | ⟨h,k⟩
 ·exact .inl ⟨oY ha h,rfl⟩
 ·exact .inr ⟨my ha h,k.jy hc (aC.jH ha)⟩
theorem fb.xq{A B:ai}{g:aC}(h:fb P g A B)(hc:g.op.gv≤2):∃ v,ki P g A v∧B=A.aT g.dst v:=by
 cases h with
 |skip h=>exact ⟨_,.inl ⟨h,rfl⟩,rfl⟩
 |val h k=>exact ⟨_,.inr ⟨h,k⟩,rfl⟩
 |iS J U ah ar=>rcases ah with ah | ⟨y,ah,_⟩ <;>(rw[ah] at hc;simp[bR.gv] at hc)
 |bd J U ah=>obtain ⟨s,x,v,p,b,old,ar,_⟩:=ah;rw[ar] at hc;simp[bR.gv] at hc
 |gU J ah=>rw[ah.1] at hc;omega
theorem pg{A:ai}{a b:Option Nat}{v u:I}(h:∀ d,a=some d→b≠some d):(A.aT a v).aT b u=(A.aT b u).aT a v:=by
 cases a with
 |none=>rfl
 |some d=>cases b with
  |none=>rfl
  |some e =>
   have hne:d≠e:=fun he=>h d rfl (by rw[he]);simp only[ai.aT,ai.put,ai.mk.injEq,and_true]
   funext k
   by_cases J:k=e <;>by_cases U:k=d <;>simp_all
theorem h1{A:ai}{d:Option Nat}{v:I} : (A.aT d v).o=A.o:=by cases d <;>rfl
theorem lK{A:ai}{d:Option Nat}{v:I}{l:List Nat}(h:∀ k,d=some k→k∉l):dZ A (A.aT d v) l:=by
 cases d with
 |none=>exact fun _ _=>rfl
 |some e =>
  intro k hk;have:k≠e:=fun he=>h e rfl (he▸hk);simp[ai.aT,ai.put,this]
theorem dZ.symm{A A':ai}{l:List Nat}(h:dZ A A' l):dZ A' A l:=fun k hk=>(h k hk).symm
theorem rN.same{A A':ai}{op:bR}{x:I}(h:rN A op x)(ha:dZ A A' op.cW):rN A' op x:=by
 rcases h with h | ⟨y,J,U,ah⟩
 ·exact .inl h
 ·subst J;have:=cY (x:=y) ha;exact .inr ⟨y,rfl,by rw[this];exact U,by rw[this];exact ah⟩
theorem rO.same{A A':ai}{op:bR}{n:Nat}{z:aq}(h:rO A op n z)(ho:A'.o=A.o)(ha:dZ A A' op.cW):rO A' op n z:=by
 obtain ⟨s,x,v,p,b,old,J,U,ah,ar,h5,h6⟩:=h;subst J;simp only[bR.cW] at ha;have e1:=cY ha.l;have e2:=cY ha.r;exact ⟨s,x,v,p,b,old,rfl,by rw[e1];exact U,by rw[ho];exact ah,ar,by rw[e2];exact h5,by rw[e2];exact h6⟩
theorem T8{g h:aC}(hi:mf g h=true):uK g.op.gv h.op.gv=true∧(∀ d,g.dst=some d→d∉h.cW)∧(∀ d,g.dst=some d→h.dst≠some d)∧(∀ d,h.dst=some d→d∉g.cW):=by
 simp only[mf,t8] at hi;obtain ⟨⟨J,U⟩,ah⟩:=hi;refine ⟨J,fun d af =>?_,fun d af =>?_,fun d af =>?_⟩
 ·rw[af] at U;simp at U;exact U.1
 ·rw[af] at U;simp at U;exact U.2
 ·rw[af] at ah;simpa using ah
theorem fb.ry{A B C:ai}{g h:aC}(hi:mf g h=true)(J:fb P g A B)(U:fb P h B C):∃ B',fb P h A B'∧fb P g B' C:=by
 obtain ⟨hc,i1,i2,i3⟩:=T8 hi;simp only[uK,Bool.or_eq_true,t8,decide_eq_true_eq,beq_iff_eq] at hc;have hg2:g.op.gv≤2:=by rcases hc with hc | hc <;>omega
 obtain ⟨v,hv,rfl⟩:=J.xq hg2;have ag:dZ (A.aT g.dst v) A h.cW:=(lK i1).symm;have cM:ee (A.aT g.dst v) A:=fun n x hx=>by rwa [h1] at hx
 cases U with
 |skip hn =>
  exact ⟨_,.skip (oY ag hn),by
   rw[pg i2];exact (hv.cM (by intro n x hx;rwa [h1]) (lK i3)).step⟩
 |val hp hu =>
  exact ⟨_,.val (my ag hp) (hu.cM cM (aC.jH ag)),by
   rw[pg i2];exact (hv.cM (by intro n x hx;rwa [h1]) (lK i3)).step⟩
 |iS hp af hm ho =>
  rename_i d x;rw[h1] at ho;refine ⟨_,.iS (my ag hp) af (hm.same (aC.jH ag)) ho,?_⟩;have e:((A.aT g.dst v).aV d (.box x)).put d (.ptr d [])=((A.aV d (.box x)).put d (.ptr d [])).aT g.dst v:=by
   cases hgd:g.dst with
   |none=>rfl
   |some e =>
    have hne:e≠d:=fun he=>i2 e hgd (by rw[af,he]);simp only[ai.aT,ai.put,ai.aV,ai.mk.injEq,and_true]
    funext k
    by_cases J:k=e <;>by_cases U:k=d <;>simp_all
  rw[e];refine (hv.cM (fun n y hy =>?_) (fun k hk =>?_)).step
  ·have:n≠d:=fun he=>by rw[he,ho] at hy;cases hy
   simp only[ai.put,ai.aV,this,if_false];exact hy
  ·have:k≠d:=fun he=>i3 d af (he▸hk);simp only[ai.put,ai.aV,this,if_false]
 |bd hp af hm =>
  rename_i n z;have hc0:g.op.gv=0:=by
   obtain ⟨s,x,v,p,b,old,ar,_⟩:=hm;rcases hc with hc | hc
   ·rw[ar] at hc;exact absurd hc.2 (by simp[bR.gv])
   ·exact hc.1
  refine ⟨_,.bd (my ag hp) af (hm.same h1.symm (aC.jH ag)),?_⟩;have e:(A.aT g.dst v).aV n z=(A.aV n z).aT g.dst v:=by cases g.dst <;>rfl
  rw[e];exact (ki.jy (A':=A.aV n z) hv hc0 (fun _ _=>rfl)).step
 |gU hp hm =>
  exfalso
  rw[hm.1] at hc;omega
theorem aR.ry{A:ai}{g h:aC}{rest:List aC}(hi:mf g h=true)(hw:aR P Y true K (az (g::h::rest) A)):aR P Y true K (az (h::g::rest) A):=by
 obtain ⟨B,J,U⟩:=fb.wm hw;obtain ⟨C,ah,ar⟩:=fb.wm U;obtain ⟨B',h5,h6⟩:=fb.ry hi J ah;exact h5.xt (h6.xt ar)
theorem aR.nc{g:aC} : ∀ {l:List aC} {r:List aC} {A:ai},(∀ j∈l,mf j g=true)→aR P Y true K (az (l++g::r) A)→aR P Y true K (az (g::(l++r)) A)
 | [],r,A,_,h=>h
 |j::l,r,A,hi,h=>by
  obtain ⟨B,J,U⟩:=fb.wm (g:=j) (rest:=l++g::r) h;have ah:=aR.nc (l:=l) (r:=r) (fun k hk=>hi k (by simp[hk])) U;exact aR.ry (hi j (by simp)) (J.xt ah)
end
def ca(o:Oper):List Nat:=(o.after.toList.filter fun e=>Region.binds .any e).map (·.on)
def kV(cl:List Nat):List Nat→Nat
 | []=>0
 |k::ks=>(2^k ||| cl.getD k 0) ||| kV cl ks
def sa(on:List (List Nat))(gs:List aC)(cl:List Nat):Bool :=
 (List.range gs.length).all fun i=>(on.getD i []).all (fun k=>decide (k<i))&&Nat.beq (cl.getD i 0) (kV cl (on.getD i [])) &&
  (List.range i).all fun j=>(cl.getD i 0).testBit j||mf (gs.getD j default) (gs.getD i default)
theorem rC{cl:List Nat}{j:Nat} : ∀ {l:List Nat},(kV cl l).testBit j=true→j∈l∨∃ k∈l,(cl.getD k 0).testBit j=true
 | [],h=>by simp[kV] at h
 |k::ks,h=>by
  simp only[kV,Nat.testBit_or,Bool.or_eq_true,Nat.testBit_two_pow,decide_eq_true_eq] at h;rcases h with (h | h) | h
  ·exact .inl (by simp[h])
  ·exact .inr ⟨k,by simp,h⟩
  ·rcases rC h with h | ⟨m,J,U⟩
   ·exact .inl (by simp[h])
   ·exact .inr ⟨m,by simp[J],U⟩
structure tO (l:List Oper) (gs:List aC):Prop where
 ib:∀ i o,l[i]?=some o→∀ k∈ca o,k<i
 oL:∀ (S:Nat→Prop),(∀ i o,l[i]?=some o→S i→∀ k∈ca o,S k)→∀ i o g j,l[i]?=some o→gs[i]?=some g→(∀ k∈ca o,S k)→j<i→¬ S j→mf (gs.getD j default) g=true
theorem Ll{l:List Oper}{gs:List aC}{cl:List Nat}(hlen:gs.length=l.length)(h:sa (l.map ca) gs cl=true):tO l gs:=by
 simp only[sa,X0,zz4] at h;have fx:∀ i o,l[i]?=some o→∃ g,gs[i]?=some g∧(∀ k∈ca o,k<i)∧(∀ j,(cl.getD i 0).testBit j=true→j∈ca o∨∃ k∈ca o,(cl.getD k 0).testBit j=true)∧∀ j,j<i→(cl.getD i 0).testBit j=true∨mf (gs.getD j default) g=true:=by
  intro i o ho;have hi:i<l.length:=(Z5.1 ho).1;have J:=h i (by omega);have hon:(l.map ca).getD i []=ca o:=by simp[Z0,ho]
  have hgi:i<gs.length:=by omega
  have hg:gs[i]?=some gs[i]:=Y2 hgi;have hgd:gs.getD i default=gs[i]:=by simp[Z0,hg]
  rw[hon,hgd] at J;simp only[t8,X0,decide_eq_true_eq,Bool.or_eq_true,zz4] at J;have hb:=Nat.eq_of_beq_eq_true J.1.2;exact ⟨_,hg,J.1.1,fun j hj=>rC (by rw[←hb];exact hj),J.2⟩
 refine ⟨fun i o ho=>(fx i o ho).choose_spec.2.1,?_⟩;intro S hS i o g j ho hg hon hj hnj;have key:∀ n i o,i≤n→l[i]?=some o→(∀ k∈ca o,S k)→∀ j,(cl.getD i 0).testBit j=true→S j:=by
  intro n
  induction n with
  |zero =>
   intro i o hi ho hon j hj;obtain ⟨g,_,J,U,_⟩:=fx i o ho;rcases U j hj with h | ⟨k,hk,_⟩
   ·exact hon j h
   ·have:=J k hk;omega
  |succ n ih =>
   intro i o hi ho hon j hj;obtain ⟨g,_,J,U,_⟩:=fx i o ho;rcases U j hj with h | ⟨k,hk,hjk⟩
   ·exact hon j h
   ·have hki:=J k hk;have hkl:k<l.length:=Nat.lt_trans hki (Z5.1 ho).1;obtain ⟨ok,hok⟩:∃ ok,l[k]?=some ok:=⟨l[k],Y2 hkl⟩
    exact ih k ok (by omega) hok (hS k ok hok (hon k hk)) j hjk
 obtain ⟨g',hg',_,_,ah⟩:=fx i o ho;rw[hg,v6] at hg';subst hg';rcases ah j hj with h | h
 ·exact absurd (key i i o (Z4 _) ho hon j h) hnj
 ·exact h
def iB(listed:Array Bool)(n:Nat):List Nat:=(List.range n).filter fun i => !listed.getD i true
def nM(gs:List aC)(listed:Array Bool)(n:Nat):List aC:=(iB listed n).map fun i=>gs.getD i default
theorem DM{i n:Nat}(h:i<n):List.range n=List.range i++i::(List.range (n-(i+1))).map (i+1 + ·):=by
 conv=>lhs;rw[show n=(i+1)+(n-(i+1)) by omega,List.range_add]
 rw[List.range_succ];simp
theorem Wu{listed:Array Bool}{i n:Nat}(h:i<n)(ab:listed.size=n)(hu:listed.getD i true=false):∃ l1 l2,iB listed n=l1++i::l2∧iB (listed.setIfInBounds i true) n=l1++l2∧∀ j∈l1,j<i∧listed.getD j true=false:=by
 have same:∀ j,j≠i→(listed.setIfInBounds i true).getD j true=listed.getD j true:=fun j hj=>getD_set_ne true (Ne.symm hj);have hit:(listed.setIfInBounds i true).getD i true=true:=by simp[ab,h]
 refine ⟨(List.range i).filter fun j => !listed.getD j true,((List.range (n-(i+1))).map (i+1 + ·)).filter fun j => !listed.getD j true,?_,?_,?_⟩
 ·simp only[iB];rw[DM h,List.filter_append,List.filter_cons];simp only[hu,Bool.not_false,if_true]
 ·simp only[iB];rw[DM h,List.filter_append,List.filter_cons];simp only[hit,Bool.not_true,Z2,if_false]
  congr 1
  ·refine List.filter_congr fun j hj =>?_;rw[same j (by have:=zz4.1 hj;omega)]
  ·refine List.filter_congr fun j hj =>?_;obtain ⟨k,_,rfl⟩:=X1.1 hj;rw[same _ (by omega)]
 ·intro j hj;simp only[X9,zz4,Bool.not_eq_true'] at hj;exact hj
theorem DW{n:Nat} : iB (Array.replicate n false) n=List.range n:=by
 simp only[iB];refine List.filter_eq_self.2 fun i hi =>?_;have:=zz4.1 hi;simp[this]
theorem UJ(gs:List aC):((List.range gs.length).map fun i=>gs.getD i default)=gs:=by
 apply List.ext_getElem
 ·simp
 ·intro i J U;simp[Z0,U]
section
variable {c:cO}
theorem ic{P:Program}{n:Nat}{aS:Array Oper} : ∀ {l:List Oper} {gs:List aC},fE P n aS l=some gs→gs.length=l.length∧∀ (i:Nat) (o:Oper),l[i]?=some o→∃ g,gs[i]?=some g∧lh P n aS o=some g
 | [],gs,h=>by simp only[fE,v6] at h;subst h;exact ⟨rfl,fun i o ho=>by simp at ho⟩
 |o::l,gs,h=>by
  simp only[fE] at h;split at h
  case h_2=>cases h
  rename_i g gs' hg hgs;simp only[v6] at h;subst h;obtain ⟨J,U⟩:=ic (l:=l) hgs;refine ⟨by simp[J],fun i o' ho =>?_⟩;cases i with
  |zero=>simp only[List.getElem?_cons_zero,v6] at ho;subst ho;exact ⟨g,rfl,hg⟩
  |succ i=>simpa using U i o' (by simpa using ho)
theorem S9{K:ai→Prop}{aS:Array Oper}{Q:Exit→Act→World→Prop}{o:Oper}{g:aC}{rest:List aC}{A:ai}{a:Act}{w:World}{Kw:Act→World→Prop}(hg:lh c.P c.n aS o=some g)(hwp:aR c.P c.Y true K (az (g::rest) A))(ab:bV c A a w)
  (hK:∀ B a' w',aR c.P c.Y true K (az rest B)→bV c B a' w'→Kw a' w'):if Region.wanted o (yielded aS a.tmps) then o.wpIn c.bz 9 c.P a w Kw Q else (∀ f,o.about c.P w a.eval=some f→c.bz.fn f)∧Kw (a.put o.dst undef) w:=by
 obtain ⟨J,U,ah,ar⟩:=nd hg;have step:aR c.P c.Y true K (bj A g.dst g.op rest (az rest))→o.wpIn c.bz 9 c.P a w Kw Q:=fun h =>
  sr J U.symm (by rw[U];exact ah) h ab (fun B a' w' hw hs'=>hK B a' w' hw hs')
 simp only[az] at hwp;rcases ar with ⟨h5,h6⟩ | ⟨j,b,t,h5,h6,h7⟩
 ·rw[h6] at hwp;have hw:Region.wanted o (yielded aS a.tmps)=true:=by simp[Region.wanted,h5]
  rw[hw,if_pos rfl];exact step hwp
 ·rw[h7] at hwp;simp only at hwp;split at hwp
  ·rename_i b' hb';rw[sx ab h5 h6 hb'];split at hwp
   ·rename_i hbb;subst hbb;simp only[BEq.rfl,if_true];exact step hwp
   ·rename_i hbb;have:(b'==b)=false:=by simpa using hbb
    rw[this];simp only[Z2,if_false];exact ⟨fun f _=>lz c f,hK _ _ _ hwp (by rw[U];exact ab.mD ah)⟩
  ·rename_i hb';rw[sy ab h5 h6 hb'];simp only[Z2,if_false];exact ⟨fun f _=>lz c f,hK _ _ _ hwp (by rw[U];exact ab.mD ah)⟩
  ·cases hwp
theorem Gj{K:ai→Prop}{aS:Array Oper}{gs:List aC}{Q:Exit→Act→World→Prop}(hQ:∀ B a w,K B→bV c B a w→Q .normal a w)(hgs:fE c.P c.n aS aS.toList=some gs)(af:tO aS.toList gs) :
  ∀ (fuel:Nat) (listed:Array Bool) (A:ai) (a:Act) (w:World),listed.size=aS.size→(∀ i o,aS.toList[i]?=some o→listed.getD i false=true→∀ k∈ca o,listed.getD k false=true)→(iB listed aS.size).length≤fuel →
   aR c.P c.Y true K (az (nM gs listed aS.size) A)→bV c A a w→wpAnyIn c.bz 9 c.P .any aS Q fuel listed a w:=by
 obtain ⟨hlen,hat⟩:=ic hgs;have onOf_mem:∀ (o:Oper) (e:Edge),e∈o.after→Region.binds .any e=true→e.on∈ca o:=fun o e he hb=>by
  simp only[ca,X1,X9];exact ⟨e,⟨by simpa using he,hb⟩,rfl⟩
 have of_onOf:∀ (o:Oper) (k:Nat),k∈ca o→∃ e∈o.after,Region.binds .any e=true∧e.on=k:=fun o k hk=>by
  simp only[ca,X1,X9] at hk;obtain ⟨e,⟨J,U⟩,ah⟩:=hk;exact ⟨e,by simpa using J,U,ah⟩
 have last:∀ (listed:Array Bool) (A:ai) (a:Act) (w:World),listed.size=aS.size→Region.ready .any aS listed=[]→aR c.P c.Y true K (az (nM gs listed aS.size) A)→bV c A a w→Q .normal a w:=by
  intro listed A a w hsz hr hwp ab;have hnone:iB listed aS.size=[]:=by
   have all:∀ n,∀ i,i<n→i<aS.size→listed.getD i true=true:=by
    intro n
    induction n with
    |zero=>intro i hi;omega
    |succ n ih =>
     intro i hi his;cases hb:listed.getD i true with
     |true=>rfl
     |false =>
      exfalso
      have ho:aS[i]?=some aS[i]:=zz2 his;have:i∈Region.ready .any aS listed:=mem_ready.2 ⟨hb,aS[i],ho,fun e he hbd=>by
       have hlt:=af.ib i aS[i] (by simp) e.on (onOf_mem _ e he hbd);have J:=ih e.on (by omega) (by omega);have U:e.on<listed.size:=by omega
       simpa[Array.getD_eq_getD_getElem?,U] using J⟩
      rw[hr] at this;cases this
   simp only[iB];refine List.filter_eq_nil_iff.2 fun i hi =>?_;have:=all (i+1) i (by omega) (zz4.1 hi);simp only[this,Bool.not_true,Z2,not_false_eq_true]
  simp only[nM,hnone,X7,az] at hwp;cases hwp with
  |done hk=>exact hQ A a w hk ab
 intro fuel
 induction fuel with
 |zero =>
  intro listed A a w hsz hcl hcnt hwp ab;have hnone:iB listed aS.size=[]:=List.length_eq_zero_iff.1 (by omega);have hr:Region.ready .any aS listed=[]:=by
   refine List.eq_nil_iff_forall_not_mem.2 fun i hi =>?_;obtain ⟨J,o,ho,_⟩:=mem_ready.1 hi;have:i∈iB listed aS.size:=by
    simp only[iB,X9,zz4,J,Bool.not_false,and_true];exact (Y0.1 ho).1
   rw[hnone] at this;cases this
  exact ⟨hr,last listed A a w hsz hr hwp ab⟩
 |succ fuel ih =>
  intro listed A a w hsz hcl hcnt hwp ab;refine ⟨fun hr=>last listed A a w hsz hr hwp ab,fun i hi =>?_⟩;obtain ⟨hun,o,ho,hall⟩:=mem_ready.1 hi;have hin:i<aS.size:=(Y0.1 ho).1;obtain ⟨l1,l2,e1,e2,hl1⟩:=Wu hin hsz hun;have hol:aS.toList[i]?=some o:=by simpa using ho
  obtain ⟨g,hgi,hcg⟩:=hat i o hol;have hon:∀ k∈ca o,listed.getD k false=true:=fun k hk=>by
   obtain ⟨e,J,U,ah⟩:=of_onOf o k hk;exact ah▸hall e J U
  have hgd:gs.getD i default=g:=by simp[Z0,hgi]
  have hwp':aR c.P c.Y true K (az (g::nM gs (listed.setIfInBounds i true) aS.size) A):=by
   simp only[nM,e1,Y3,Z3,hgd] at hwp;simp only[nM,e2,Y3];refine aR.nc (fun j hj =>?_) hwp;obtain ⟨k,hk,rfl⟩:=X1.1 hj;obtain ⟨hk1,hk2⟩:=hl1 k hk;refine af.oL (fun k=>listed.getD k false=true) hcl i o g k hol hgi hon hk1 ?_;have hks:k<listed.size:=by omega
   simp[Array.getD_eq_getD_getElem?,hks] at hk2 ⊢;exact hk2
  unfold wpOpIn;rw[ho];refine S9 hcg hwp' ab fun B a' w' hw hs'=>ih _ B a' w' (by simpa using hsz) ?_ ?_ hw hs'
  ·intro m om hom hm k hk;by_cases hmi:m=i
   ·subst hmi;rw[hol,v6] at hom;subst hom;exact getD_set_true (hon k hk)
   ·rw[getD_set_ne false (Ne.symm hmi)] at hm;exact getD_set_true (hcl m om hom hm k hk)
  ·have:(iB listed aS.size).length=(iB (listed.setIfInBounds i true) aS.size).length+1:=by
    rw[e1,e2];simp;omega
   omega
theorem Wt{K:ai→Prop}{aS:Array Oper}{gs:List aC}{Q:Exit→Act→World→Prop}{id:Nat}{A:ai}{a:Act}{w:World}(hm:c.P.follows .mixedOrders=true)(hQ:∀ B a w,K B→bV c B a w→Q .normal a w)(hgs:fE c.P c.n aS aS.toList=some gs)(af:tO aS.toList gs)
  (hwp:aR c.P c.Y true K (az gs A)) (ab:bV c A a w):(Code.region id aS true).wpIn c.bz 9 c.P Q a w:=by
 refine wpIn_region_any hm (Gj hQ hgs af aS.size (Array.replicate aS.size false) A a _ (by simp) ?_ ?_ ?_ ?_)
 ·intro i o _ h
  exfalso
  simp only[Array.getD_eq_getD_getElem?,Array.getElem?_replicate] at h;split at h <;>simp at h
 ·rw[DW];simp
 ·have ao:=(ic hgs).1;simp only[X2] at ao;simp only[nM,DW];rw[←ao,UJ];exact hwp
 ·obtain ⟨D,E,ab⟩:=ab;exact ⟨D,E,ab.grow (w' := { w with drawn:=w.drawn+1 }) ⟨rfl,rfl,rfl,Z4 _,fun _ _=>rfl⟩ (fun _ _ h=>h) (fun _ _ h _=>h) (fun b o h=>ab.aQ b o h)⟩
end
inductive br where
 |cg (on:Option (List (List Nat))) (gs:List aC)
 |seq (x y:br)
 |cond (b:aO) (x y:br)
 |block (id:Nat) (x:br)
 |loop (x:br)
 |exit (id:Nat)
 |ret
 |skip
 |scope (x:br)
 |label
 |uh
 |lS (f:aO) (ps:List Nat) (x y:br)
 deriving Inhabited
def en(P:Program)(n:Nat):Code→Option br
 | .region _ aS draw=>match fE P n aS aS.toList with
  |some gs=>if (!draw||P.follows .mixedOrders)=true then some (.cg (bif draw then some (aS.toList.map ca) else none) gs) else none
  |none=>some .uh
 | .seq x y=>match en P n x,en P n y with
  |some x,some y=>some (.seq x y)
  |_,_=>none
 | .cond b x y=>match bo P 0 b,en P n x,en P n y with
  |some b,some x,some y=>some (.cond b x y)
  |_,_,_=>none
 | .block id x=>match en P n x with
  |some x=>some (.block id x)
  |none=>none
 | .loop x=>match en P n x with
  |some x=>some (.loop x)
  |none=>none
 | .exit id=>some (.exit id)
 | .ret=>some .ret
 | .skip=>some .skip
 | .scope x=>match en P n x with
  |some x=>some (.scope x)
  |none=>none
 | .label _=>some .label
 | .rangeFunc f ps x y=>match bo P 0 f,en P n x,en P n y with
  |some f,some x,some y=>if (ps.toList.all fun p=>p<n)=true then some (.lS f ps.toList x y) else none
  |_,_,_=>none
 |_=>none
def sH(c:cO)(Q:Exit→ai→Prop):Exit→Act→World→Prop:=fun e a w=>∃ A,Q e A∧bV c A a w
def ae(c:cO)(x:br)(Q:Exit→ai→Prop)(A:ai):Prop :=
 ∀ code,en c.P c.n code=some x→∀ a w,bV c A a w→code.wpIn c.bz 9 c.P (sH c Q) a w
def ej(k:ai→Prop)(Q:Exit→ai→Prop):Exit→ai→Prop
 | .normal,A=>k A
 |e,A=>Q e A
def jw(id:Nat)(Q:Exit→ai→Prop):Exit→ai→Prop
 | .exit id',A=>if id'=id then Q .normal A else Q (.exit id') A
 |e,A=>Q e A
section
variable {c:cO} {A:ai} {Q:Exit→ai→Prop}
def K1(d:Option (List (List Nat)))(gs:List aC)(cl:List Nat):Bool:=match d with
 |none=>true
 |some on=>sa on gs cl
theorem ae.cg{d:Option (List (List Nat))}{gs:List aC}{cl:List Nat}(af:K1 d gs cl=true)(h:∀ K:ai→Prop,(∀ B,Q .normal B→K B)→aR c.P c.Y d.isSome K (az gs A)):ae c (.cg d gs) Q A:=by
 intro code hc a w ab;cases code <;>simp only[en] at hc <;>try (first | (cases hc;done) | ((repeat' split at hc) <;>cases hc;done))
 rename_i id aS draw;split at hc
 ·rename_i gs' hgs;split at hc
  case isFalse=>cases hc
  rename_i hok;simp only[v6,br.cg.injEq] at hc;obtain ⟨rfl,rfl⟩:=hc;cases draw with
  |false=>exact wpIn_region_list (sw (K:=Q .normal) (fun B a w hk ab=>⟨B,hk,ab⟩) aS.toList gs' A a w hgs (h _ fun _ hb=>hb) ab)
  |true =>
   simp only[Bool.not_true,Bool.false_or] at hok;exact Wt (K:=Q .normal) hok (fun B a w hk ab=>⟨B,hk,ab⟩) hgs (Ll (ic hgs).1 af) (h _ fun _ hb=>hb) ab
 ·cases hc
theorem ae.seq{x y:br}(h:ae c x (ej (fun B=>ae c y Q B) Q) A):ae c (.seq x y) Q A:=by
 intro code hc a w ab;cases code <;>simp only[en] at hc <;>try (first | (cases hc;done) | ((repeat' split at hc) <;>cases hc;done))
 rename_i cx cy;split at hc
 ·rename_i x' y' hx hy;simp only[v6,br.seq.injEq] at hc;obtain ⟨rfl,rfl⟩:=hc;refine wpIn_seq (wpIn_mono (h cx hx a w ab) ?_);rintro e a' w' ⟨B,hq,hs'⟩;cases e <;>simp only[ej,Exit.then] at * <;>first | exact hq cy hy a' w' hs' | exact ⟨B,hq,hs'⟩
 ·cases hc
theorem ae.cond{b:aO}{x y:br}{t:Bool}(hb:ak A b=.bool t)(J:t=true→ae c x Q A)(U:t=false→ae c y Q A):ae c (.cond b x y) Q A:=by
 intro code hc a w ab;cases code <;>simp only[en] at hc <;>try (first | (cases hc;done) | ((repeat' split at hc) <;>cases hc;done))
 rename_i cb cx cy;split at hc
 ·rename_i b' x' y' hb' hx hy;simp only[v6,br.cond.injEq] at hc;obtain ⟨rfl,rfl,rfl⟩:=hc;obtain ⟨D,E,hs'⟩:=ab;have hv:=bT hs' hb';rw[hb] at hv;exact wpIn_cond_split (j8 hv) (fun ht=>J ht cx hx a w ⟨D,E,hs'⟩) (fun ht=>U ht cy hy a w ⟨D,E,hs'⟩)
 ·cases hc
theorem ae.block{id:Nat}{x:br}(h:ae c x (jw id Q) A):ae c (.block id x) Q A:=by
 intro code hc a w ab;cases code <;>simp only[en] at hc <;>try (first | (cases hc;done) | ((repeat' split at hc) <;>cases hc;done))
 rename_i id' cx;split at hc
 ·rename_i x' hx;simp only[v6,br.block.injEq] at hc;obtain ⟨rfl,rfl⟩:=hc;refine wpIn_block (wpIn_mono (h cx hx a w ab) ?_);rintro e a' w' ⟨B,hq,hs'⟩;cases e <;>simp only[jw,Exit.inBlock] at * <;>first
   |exact ⟨B,hq,hs'⟩
   |(split at hq
     ·rename_i he;rw[if_pos he];exact ⟨B,hq,hs'⟩
     ·rename_i he;rw[if_neg he];exact ⟨B,hq,hs'⟩)
 ·cases hc
theorem ae.exit{id:Nat}(h:Q (.exit id) A):ae c (.exit id) Q A:=by
 intro code hc a w ab;cases code <;>simp only[en] at hc <;>try (first | (cases hc;done) | ((repeat' split at hc) <;>cases hc;done))
 simp only[v6,br.exit.injEq] at hc;subst hc;exact wpIn_exit ⟨A,h,ab⟩
theorem ae.ret(h:Q .ret A):ae c .ret Q A:=by
 intro code hc a w ab;cases code <;>simp only[en] at hc <;>try (first | (cases hc;done) | ((repeat' split at hc) <;>cases hc;done))
 exact wpIn_ret ⟨A,h,ab⟩
theorem ae.skip(h:Q .normal A):ae c .skip Q A:=by
 intro code hc a w ab;cases code <;>simp only[en] at hc <;>try (first | (cases hc;done) | ((repeat' split at hc) <;>cases hc;done))
 exact wpIn_skip ⟨A,h,ab⟩
theorem An{p:Nat→Prop}(h:∃ n,p n):∃ n,p n∧∀ m,p m→n≤m:=by
 obtain ⟨n,hn⟩:=h
 induction n using Nat.strongRecOn with
 |_ n ih =>
  by_cases hm:∃ m,m<n∧p m
  ·obtain ⟨m,J,U⟩:=hm;exact ih m J U
  ·exact ⟨n,hn,fun m hp=>Nat.le_of_not_lt fun hlt=>hm ⟨m,hlt,hp⟩⟩
open Classical in
noncomputable def least(p:Nat→Prop):Nat:=if h:∃ n,p n then (An h).choose else 0
theorem Bz{p:Nat→Prop}(h:∃ n,p n):p (least p)∧∀ m,p m→least p≤m:=by
 simp only[least,dif_pos h];exact (An h).choose_spec
theorem Xy{bz:Fence}{N:Nat}{P:Program}{code:Code}{QQ:Exit→Act→World→Prop}(a8:Nat→Act→World→Prop)(round:∀ n a w,a8 n a w→code.wpIn bz N P (Exit.then (fun a' w'=>∃ m,m<n∧a8 m a' w') QQ) a w) :
  ∀ n a w,a8 n a w→(Code.loop code).wpIn bz N P QQ a w:=by
 intro n a w h;refine wpIn_loop (fun a w=>∃ n,a8 n a w) (fun a w=>least fun n=>a8 n a w) ⟨n,h⟩ ?_;intro a w hI;have hm:=(Bz hI).1;refine wpIn_mono (round _ a w hm) ?_;intro e a' w' hq;cases e <;>simp only[Exit.then] at hq ⊢ <;>try exact hq
 obtain ⟨m,J,U⟩:=hq;exact ⟨⟨m,U⟩,Nat.lt_of_le_of_lt ((Bz ⟨m,U⟩).2 m U) J⟩
def bC(A B:ai):Prop:=∀ (c:cO) (a:Act) (w:World),bV c A a w→bV c B a w
theorem bC.refl(A:ai):bC A A:=fun _ _ _ h=>h
theorem bC.trans{A B C:ai}(h:bC A B)(k:bC B C):bC A C:=fun c a w ab=>k c a w (h c a w ab)
theorem ae.sub{x:br}{B:ai}(hsub:bC A B)(h:ae c x Q B):ae c x Q A:=fun code hc a w ab=>h code hc a w (hsub c a w ab)
theorem ae.mono{x:br}{Q':Exit→ai→Prop}(h:ae c x Q A)(hq:∀ e B,Q e B→Q' e B):ae c x Q' A :=
 fun code hc a w ab=>wpIn_mono (h code hc a w ab) fun e a' w' ⟨B,J,U⟩=>⟨B,hq e B J,U⟩
theorem ae.loop{σ:Type}(S:σ→ai)(C:σ→Prop)(m:σ→Nat)(s0:σ){x:br}(aW:C s0)(hsub:bC A (S s0))
  (round:∀ s,C s→ae c x (ej (fun B=>∃ s',C s'∧m s'<m s∧bC B (S s')) Q) (S s)):ae c (.loop x) Q A:=by
 intro code hc a w ab;cases code <;>simp only[en] at hc <;>try (first | (cases hc;done) | ((repeat' split at hc) <;>cases hc;done))
 rename_i cx;split at hc
 ·rename_i x' hx;simp only[v6,br.loop.injEq] at hc;subst hc;refine Xy (fun n a w=>∃ s,C s∧m s=n∧bV c (S s) a w) ?_ (m s0) a w ⟨s0,aW,rfl,hsub c a w ab⟩;rintro n a w ⟨s,hC,rfl,ab⟩;refine wpIn_mono (round s hC cx hx a w ab) ?_;rintro e a' w' ⟨B,hq,hs'⟩;cases e <;>simp only[ej,Exit.then] at * <;>first
   |exact ⟨B,hq,hs'⟩
   |(obtain ⟨s',J,U,ah⟩:=hq;exact ⟨m s',U,s',J,rfl,ah c a' w' hs'⟩)
 ·cases hc
end
inductive bQ where
 |tmp (t:Nat)
 |cell (a:Nat) (s:Option Nat)
def gF(P:Program):List ResultVar→Option (List bQ)
 | []=>some []
 | .tmp t::l=>(gF P l).map (.tmp t :: ·)
 | .cell a t::l=>match fH P t,gF P l with
  |some s,some l=>some (.cell a s::l)
  |_,_=>none
def tm(A:ai):bQ→Option I
 | .tmp t=>bh true A (A.t t)
 | .cell a s=>match cC A (A.t a) with
  |some x=>if b5 s x then bh true A x else none
  |none=>none
def e6(A:ai):List bQ→Option (List I)
 | []=>some []
 |r::rs=>match tm A r,e6 A rs with
  |some x,some xs=>some (x::xs)
  |_,_=>none
def jI:List I→I
 | [x]=>x
 |xs=>.tuple xs
def n1(args:List I):ai:=⟨fun t=>args.getD t .undef,fun _=>none⟩
def j6(rs:List bQ)(r:I):Exit→ai→Prop
 | .ret,A=>∃ xs,e6 A rs=some xs∧jI xs=r
 | .normal,A=>∃ xs,e6 A rs=some xs∧jI xs=r
 |_,_=>False
def n2(args:List I)(os:List (Nat×aq)):ai:=⟨fun t=>args.getD t .undef,aj os⟩
theorem xp{P:Program}{n:Nat}{w:World}{D:aP}{E:aY}{Y:Value→List I→List (Nat×aq)→cA→Prop}{args:List I}{os:List (Nat×aq)}{vs:List Value}(hD:∀ b o,D b o→b<w.heap.size)(ho:ju (fun _=>True) w D E (aj os))
  (hv:aE w D E args vs) (hn:vs.length≤n) (hos:∀ m,av os m=true→n≤m∧1000000≤m) (hy:oh ⟨P,w,D,n,cB E,E,Y,none,none⟩) :
  aU ⟨P,w,D,n,cB E,E,Y,none,none⟩ (n2 args os) { tmps:=vs.toArray++Array.replicate (n-vs.toArray.size) undef,defers:=[] } w D E:=by
 refine ⟨by simp;omega,⟨[],rfl,.nil,fun _ h=>by simp at h⟩,fun t =>?_,eU.refl _ _,fun _ _ h _=>h,hD,fun m =>?_,ho.cJ,fun m e h=>.inr ⟨e,h,.refl e⟩,fun m hm =>?_,fun _ _ h=>h,hy,.refl _ _⟩
 ·have key:∀ (args:List I) (vs:List Value) (t:Nat),aE w D E args vs→aZ w D E (args.getD t .undef) (vs.getD t undef):=by
   intro args
   induction args with
   |nil=>intro vs t h;simp only[aE] at h;subst h;simp[aZ]
   |cons x xs ih =>
    intro vs t h;simp only[aE] at h;obtain ⟨v,rest,cs,rfl,J,U,ah⟩:=h;cases t with
    |zero=>simpa using jh J U
    |succ t=>simpa using ih rest t ah
  have:=key args vs t hv;have e:(vs.toArray++Array.replicate (n-vs.toArray.size) undef).getD t undef=vs.getD t undef:=by
   simp only[Array.getD_eq_getD_getElem?,Z0];rcases Nat.lt_or_ge t vs.length with h | h
   ·rw[Array.getElem?_append_left (by simpa using h)];simp
   ·rw[Array.getElem?_append_right (by simpa using h),zz3 h];simp only[Array.getElem?_replicate];split <;>rfl
  simp only[n2];rw[e];exact this
 ·have h:=ho.bN m;simp only[n2];cases hx:aj os m with
  |none=>rw[hx] at h;exact h
  |some x =>
   rw[hx] at h;cases x with
   |box x =>
    obtain ⟨b,cs,T,k1,_,k3⟩:=h;exact ⟨b,cs,T,k1,.inr ⟨m,_,k1,rfl⟩,k3⟩
   |bW T sz es =>
    obtain ⟨aF,k1,k2,k3⟩:=h;refine ⟨aF,k1,k2,?_⟩;cases aF with
    |none=>exact k3
    |some bc =>
     obtain ⟨b,cap⟩:=bc;obtain ⟨cs,pre,rest,_,k4⟩:=k3;exact ⟨cs,pre,rest,.inr ⟨m,_,k1,rfl⟩,k4⟩
   |dC T xs =>
    obtain ⟨aF,k1,k2,k3⟩:=h;refine ⟨aF,k1,k2,?_⟩;cases aF with
    |none=>exact k3
    |some bc =>
     obtain ⟨b,cap⟩:=bc;obtain ⟨cs,rest,_,k4⟩:=k3;exact ⟨cs,rest,.inr ⟨m,_,k1,rfl⟩,k4⟩
   |dA x =>
    obtain ⟨b,k1,_,k3⟩:=h;exact ⟨b,k1,.inr ⟨m,_,k1,rfl⟩,k3⟩
   |bp ks vs =>
    obtain ⟨b,es,ck,k1,_,k3⟩:=h;exact ⟨b,es,ck,k1,.inr ⟨m,_,k1,rfl⟩,k3⟩
   |it ks vs left cur =>
    obtain ⟨r,b,es,ck,si,se,la,k1,_,k3⟩:=h;exact ⟨r,b,es,ck,si,se,la,k1,.inr ⟨m,_,k1,rfl⟩,k3⟩
 ·have h:=ho.bN m;refine hos m ?_;cases hx:aj os m with
  |none=>rw[hx] at h;exact absurd h hm
  |some x=>simp[av,hx]
def qZ(tmps:Array Value):ResultVar→Sem Value
 | .tmp t=>pure (tmps.getD t undef)
 | .cell a t=>do loadVar t (←asAddr (tmps.getD a undef))
theorem WE(fn:Func)(tmps:Array Value):results fn tmps=(do
  let vs ←fn.results.mapM (qZ tmps)
  pure (if h:vs.size=1 then vs[0] else .tuple vs)):=by
 unfold results;rfl
def qO(A:ai):bQ→Option I
 | .tmp t=>some (A.t t)
 | .cell a s=>match cC A (A.t a) with
  |some x=>if b5 s x then some x else none
  |none=>none
def lP(A A0:ai)(os:List (Nat×aq)):List bQ→List I→Prop
 | [],[]=>True
 |r::rs,y::ys=>(∃ x,qO A r=some x∧((y=x∧x.bS=true∧x.only (av os)=true)∨bh true A0 x=some y))∧lP A A0 os rs ys
 |_,_=>False
def ai.j9(A:ai)(os:List (Nat×aq)):ai:=⟨A.t,fun n=>if av os n then none else A.o n⟩
def iL(rs:List bQ)(post:cA)(A:ai):Prop :=
 ∃ (os:List (Nat×aq)) (xs:List I),(∀ n x,aj os n=some x→A.o n=some x∧x.only (av os)=true∧x.eb=true)∧lP A (A.j9 os) os rs xs∧post (jI xs) os
def nN(rs:List bQ)(post:cA):Exit→ai→Prop
 | .ret,A=>iL rs post A
 | .normal,A=>iL rs post A
 |_,_=>False
theorem wW{c:cO}{A:ai}{a:Act}{w:World}{D:aP}{E:aY}(ab:aU c A a w D E){A0:ai}(hu:ee A0 A){os:List (Nat×aq)}{D':aP}{E':aY}(hw:hl true A0 D E D')(ay:∀ n,av os n=true→E' n=E n)(hE':∀ n,av os n=false→E' n=none) :
  ∀ (rs:List ResultVar) (ls:List bQ) (xs:List I),gF c.P rs=some ls→lP A A0 os ls xs→∃ vs:List Value,(rs.mapM (qZ a.tmps)).run c.P w=.ok vs w∧aE w D' E' xs vs
 | [],ls,xs,hc,hr=>by
  simp only[gF,v6] at hc;subst hc;cases xs with
  |nil=>exact ⟨[],by simp,by simp[aE]⟩
  |cons x xs=>simp[lP] at hr
 |r::rs,ls,xs,hc,hr=>by
  have ao:dQ w D E' w D' E':=⟨hw.cU,fun _ _ _ _ h=>h,fun _ _ _ h=>h,fun _ aF l h=>⟨aF,l,h,Z4 _,fun _=>rfl⟩,fun _ _ h=>h,fun _ _ h=>h,fun _ _ _ _ h=>h⟩
  have fin1:∀ {x y:I} {v:Value},aZ w D E x v→((y=x∧x.bS=true∧x.only (av os)=true)∨bh true A0 x=some y)→∃ cs,bu y v cs∧al w D' E' y cs:=by
   intro x y v hv hf;rcases hf with ⟨rfl,J,U⟩ | hf
   ·have ah:=aZ.later ao (aZ.cX ay U hv);cases y <;>simp only[aZ] at ah <;>first | (simp[I.bS] at J;done) | exact ah
   ·have J:aE w D E [x] [v]:=kP [x] [v] (.cons hv .nil) (by
     intro z hz;simp only[X3] at hz;subst hz;cases z <;>simp_all[bh,I.bS])
    have U:=lx (E':=E') ab hu hw [x] [y] [v] J (by simp[bZ,hf]);simp only[aE] at U;obtain ⟨v',rest,cs,e,k1,k2,_⟩:=U;simp only[zz7] at e;obtain ⟨rfl,_⟩:=e;exact ⟨cs,k1,k2⟩
  cases r with
  |tmp t =>
   simp only[gF,t7] at hc;obtain ⟨ls',hl',rfl⟩:=hc;cases xs with
   |nil=>simp[lP] at hr
   |cons y ys =>
    simp only[lP] at hr;obtain ⟨⟨x,J,U⟩,ah⟩:=hr;simp only[qO,v6] at J;subst J;obtain ⟨vs,k1,k2⟩:=wW ab hu hw ay hE' rs ls' ys hl' ah;obtain ⟨cs,k3,k4⟩:=fin1 (ab.dL t) U;refine ⟨a.tmps.getD t undef::vs,?_,?_⟩
    ·simp only[List.mapM_cons,Sem.run_bind,qZ,Sem.run_pure,Result.andThen_ok,k1]
    ·simp only[aE];exact ⟨_,vs,cs,rfl,k3,k4,k2⟩
  |cell ad t =>
   simp only[gF] at hc;split at hc
   ·rename_i s ls' hk hl';simp only[v6] at hc;subst hc;cases xs with
    |nil=>simp[lP] at hr
    |cons y ys =>
     simp only[lP] at hr;obtain ⟨⟨x,J,U⟩,ah⟩:=hr;obtain ⟨vs,k1,k2⟩:=wW ab hu hw ay hE' rs ls' ys hl' ah;simp only[qO] at J;split at J
     ·rename_i z hz;split at J
      ·rename_i hok;simp only[v6] at J;subst J;obtain ⟨b,off,cs,q1,q2,q3⟩:=ab.x7 (ab.dL ad) hz;obtain ⟨v,q4,q5⟩:=El hk hok q2 q3;obtain ⟨cs',k3,k4⟩:=fin1 q5 U;refine ⟨v::vs,?_,?_⟩
       ·have e:(qZ a.tmps (.cell ad t)).run c.P w=.ok v w:=by
         simp only[qZ,Sem.run_bind,q1,asAddr,Sem.run_pure,Result.andThen_ok,q4]
        simp only[List.mapM_cons,Sem.run_bind,Sem.run_pure,Result.andThen_ok,k1,e]
       ·simp only[aE];exact ⟨_,vs,cs',rfl,k3,k4,k2⟩
      ·cases J
     ·cases J
   ·cases hc
theorem aU.zV{c:cO}{A:ai}{a:Act}{w:World}{D:aP}{E:aY}(h:aU c A a w D E)(hb:c.fe=none){B:Nat}{ds:List Deferred}(af:a.defers = { target:=.collected B,args := #[] } :: ds) :
  w.heap[B]?=some (.deferred (some []))∧aU c A { a with defers:=ds } (w.putObj B (.deferred none)) D E:=by
 have hdf:=h.er;rw[hb] at hdf;obtain ⟨Bs,J,U,ah⟩:=hdf;rw[af] at J;cases Bs with
 |nil=>cases J
 |cons B' Bs =>
  simp only[Z3,zz7,Deferred.mk.injEq,Target.collected.injEq,and_true] at J;obtain ⟨rfl,rfl⟩:=J;have hB:=ah B (by simp);have hlt:B<w.heap.size:=(Y0.1 hB.2).1;have ao:dQ w D E (w.putObj B (.deferred none)) D E :=
   ⟨fun _ _ h=>h,fun b o v _ hv=>uH hB.2 rfl hv,fun _ _ _ h=>h,fun _ aF l h=>⟨aF,l,h,Z4 _,fun _=>rfl⟩,fun _ _ h=>h,fun _ _ h=>h,fun b es ck _ hm=>(World.putObj_heap_other (fun e=>by rw[e,hB.2] at hm;cases hm)).trans hm⟩
  have hne:∀ {b:Nat} {cs:Array Value} {T:TypeId},w.heap[b]?=some (.cells cs T (0,0))→(w.putObj B (.deferred none)).heap[b]?=w.heap[b]?:=fun {b cs T} hb =>
   World.putObj_heap_other (fun e=>by rw[e,hB.2] at hb;cases hb)
  refine ⟨hB.2,h.sz,by rw[hb];refine ⟨Bs,rfl,(List.nodup_cons.1 U).2,fun B2 hB2=>⟨(ah B2 (by simp[hB2])).1,?_⟩⟩;rw[World.putObj_heap_other (fun e=>(List.nodup_cons.1 U).1 (by rw[←e];exact hB2))];exact (ah B2 (by simp[hB2])).2,fun t=>aZ.later ao (h.dL t),h.dH.trans ⟨rfl,rfl,rfl,by simp,fun k hk =>?_⟩,h.cU,fun b o af=>by have:=h.aQ b o af;simpa using this,fun n =>?_,h.cJ,h.dM,h.eK,h.cM,h.eS,h.ka ao⟩
  ·exact World.putObj_heap_other (fun e=>hk (e▸.inl hB.1))
  ·refine (h.bN n).later ao rfl fun e b he hb=>⟨?_,fun _ h=>h⟩
   have hob:=h.bN n;unfold cR at hob;split at hob
   ·rw[hob] at he;cases he
   ·obtain ⟨b',cs,T,k1,_,k3,_⟩:=hob;rw[k1,v6] at he;subst he;simp only[bJ.aF,v6] at hb;subst hb;exact hne k3
   ·obtain ⟨aF,k1,_,k3⟩:=hob;rw[k1,v6] at he;subst he;split at k3
    ·simp[bJ.aF] at hb
    ·obtain ⟨cs,pre,rest,_,k5,_⟩:=k3;simp only[bJ.aF,v6] at hb;subst hb;exact hne k5
   ·obtain ⟨b',k1,_,k3,k4,_⟩:=hob;rw[k1,v6] at he;subst he;simp only[bJ.aF,v6] at hb;subst hb;exact World.putObj_heap_other (fun e=>by rw[e,hB.2] at k3;cases k3;cases k4)
   ·obtain ⟨b',es,ck,k1,_,k3,_⟩:=hob;rw[k1,v6] at he;subst he;cases hb;exact World.putObj_heap_other (fun e=>by rw[e,hB.2] at k3;cases k3)
   ·obtain ⟨r,b',es,ck,si,se,la,k1,_,k3,_⟩:=hob;rw[k1,v6] at he;subst he;cases hb;exact World.putObj_heap_other (fun e=>by rw[e,hB.2] at k3;cases k3)
   ·obtain ⟨aF,k1,_,k3⟩:=hob;rw[k1,v6] at he;subst he;split at k3
    ·simp[bJ.aF] at hb
    ·obtain ⟨cs,m,_,k5,_⟩:=k3;simp only[bJ.aF,v6] at hb;subst hb;exact hne k5
def kY(w:World)(D:aP)(E:aY)(post:cA)(v:Value)(w':World):Prop :=
 ∃ D' E' r os',post r os'∧aZ w' D' E' r v∧ju (fun b=>w.heap.size≤b∨cB E b) w' D' E' (aj os') ∧
  eU (fun b=>w.heap.size≤b∨cB E b) w w'∧(∀ b o,D b o→D' b o)∧(∀ b o,D' b o→b<w'.heap.size)∧(∀ b o,D' b o→b<w.heap.size→¬ cB E b→D b o) ∧
  (∀ n e,E n=some e→av os' n=true→∃ e',E' n=some e'∧e.le e')∧gC w D w'
theorem aU.vQ{P:Program}{n:Nat}{w:World}{D:aP}{E:aY}{Y:Value→List I→List (Nat×aq)→cA→Prop}{kN:Option Nat}{fe:Option (List Deferred)}{A:ai}{a:Act}{w':World}{D':aP}{E':aY}
  (ab:aU ⟨P,w,D,n,cB E,E,Y,kN,fe⟩ A a w' D' E') {os:List (Nat×aq)} (J:∀ n x,aj os n=some x→A.o n=some x∧x.only (av os)=true∧x.eb=true) :
  ∃ D2 E2,hl true (A.j9 os) D' E' D2∧(∀ n,av os n=true→E2 n=E' n)∧(∀ n,av os n=false→E2 n=none)∧ju (fun b=>w.heap.size≤b∨cB E b) w' D2 E2 (aj os) ∧
   eU (fun b=>w.heap.size≤b∨cB E b) w w'∧(∀ b o,D b o→D2 b o)∧(∀ b o,D2 b o→b<w'.heap.size)∧(∀ b o,D2 b o→b<w.heap.size→¬ cB E b→D b o) ∧
   (∀ n e,E n=some e→av os n=true→∃ e',E2 n=some e'∧e.le e')∧gC w D w':=by
 obtain ⟨c,hc⟩:∃ c:cO,c=⟨P,w,D,n,cB E,E,Y,kN,fe⟩:=⟨_,rfl⟩
 rw[←hc] at ab;have hM:c.eV=fun b=>w.heap.size≤b∨cB E b:=by rw[hc];rfl
 obtain ⟨E2,hE2⟩:∃ E2:aY,E2=fun n=>if av os n then E' n else none:=⟨_,rfl⟩
 obtain ⟨D2,hD2⟩:∃ D2:aP,D2=fun b o=>b<w'.heap.size∧(D' b o∨(¬ cB E2 b∧c.eV b)):=⟨_,rfl⟩
 have e2:∀ n,av os n=true→E2 n=E' n:=fun n hn=>by rw[hE2];simp only[hn,if_true]
 have cut:∀ n e,E2 n=some e→av os n=true∧E' n=some e:=fun n e he=>by
  rw[hE2] at he;simp only at he;split at he
  ·exact ⟨by assumption,he⟩
  ·cases he
 have up2:∀ b o,D' b o→D2 b o:=fun b o af=>by
  rw[hD2];exact ⟨ab.aQ b o af,.inl af⟩
 have down:∀ b o,D2 b o→cB E2 b→D' b o:=fun b o af hb=>by
  rw[hD2] at af;rcases af.2 with h | h
  ·exact h
  ·exact absurd hb h.1
 have hu:ee (A.j9 os) A:=fun n x hx=>by
  simp only[ai.j9] at hx;split at hx
  ·cases hx
  ·exact hx
 have notOwn:∀ n e b,(A.j9 os).o n≠none→E' n=some e→e.aF=some b→¬ cB E2 b:=fun n e b hn he hb ho=>by
  obtain ⟨m,e',k1,k3⟩:=ho;obtain ⟨k1,k2⟩:=cut m e' k1;have:=ab.cJ n m e _ b he k2 hb k3;subst this;simp[ai.j9,k1] at hn
 have hw:hl true (A.j9 os) D' E' D2:=by
  refine ⟨up2,fun n T sz es b cap hn ay o _ =>?_,fun _ n x b aX hn ay o _ =>?_,fun _ n ks vs b hn ay =>?_⟩
  ·rw[hD2];refine ⟨ab.fO ay rfl,.inr ⟨notOwn n _ b (by rw[hn];simp) ay rfl,?_⟩⟩;obtain ⟨aF,k1,k2,k3⟩:=ab.bW (hu n _ hn);rw[ay] at k1;simp only[v6,bJ.rw.injEq,and_true] at k1;subst k1;obtain ⟨_,_,_,k4,_⟩:=k3;exact k4
  ·rw[hD2];refine ⟨ab.fO ay rfl,.inr ⟨notOwn n _ b (by rw[hn];simp) ay rfl,?_⟩⟩;obtain ⟨b',cs,T,k1,k2,_⟩:=ab.box (hu n _ hn);rw[k1] at ay;simp only[v6,bJ.aN.injEq] at ay;obtain ⟨rfl,_⟩:=ay;exact k2
  ·rw[hD2];refine ⟨ab.fO ay rfl,.inr ⟨notOwn n _ b (by rw[hn];simp) ay rfl,?_⟩⟩;obtain ⟨b',es,ck,k1,k2,_⟩:=ab.map (hu n _ hn);rw[k1] at ay;cases ay;exact k2
 have hst:gC w D w':=by
  have:=ab.fp;rw[hc] at this;exact this
 refine ⟨D2,E2,hw,e2,fun n hn=>by rw[hE2];simp[hn],⟨fun m =>?_,fun m m' e e' b g1 g2 g3 g4 =>?_⟩,?_,fun b o af=>up2 b o (ab.cM b o (by rw[hc];exact af)),fun b o af=>by rw[hD2] at af;exact af.1,fun b o af hlt hno =>?_,fun m e hm hin =>?_,hst⟩
 ·cases hx:aj os m with
  |none=>simp only[cR];rw[hE2];simp[av,hx]
  |some x =>
   have hm:av os m=true:=by simp[av,hx]
   obtain ⟨k1,k2,k3⟩:=J m x hx;have ho:=ab.bN m;rw[k1] at ho;have hl2:dQ w' D' E2 w' D2 E2:=⟨up2,fun _ _ _ _ h=>h,fun _ _ _ h=>h,fun _ aF l h=>⟨aF,l,h,Z4 _,fun _=>rfl⟩,fun _ _ h=>h,fun _ _ h=>h,fun _ _ _ _ h=>h⟩
   have nD:∀ e b,E' m=some e→e.aF=some b→∀ o,D2 b o→D' b o:=fun e b he hb o af=>down b o af ⟨m,e,(e2 m hm).trans he,hb⟩;cases x with
   |bW T sz es =>
    obtain ⟨aF,q1,q2,q3⟩:=ho;refine ⟨aF,(e2 m hm).trans q1,q2,?_⟩;cases aF with
    |none=>exact q3
    |some bc =>
     obtain ⟨b,cap⟩:=bc;obtain ⟨cs,pre,rest,g1,g2,g3,g4,g5,g6,g7,g8⟩:=q3;exact ⟨cs,pre,rest,by rw[←hM];exact g1,g2,g3,aM.later hl2 _ _ (aM.cX e2 _ _ (by simpa[aq.only] using k2) g4),g5,g6,g7,fun o af=>g8 o (nD _ b q1 rfl o af)⟩
   |box y =>
    obtain ⟨b',cs,T,q1,q2,q3,q4,q5⟩:=ho;exact ⟨b',cs,T,(e2 m hm).trans q1,by rw[←hM];exact q2,q3,al.later hl2 _ _ (al.cX e2 _ _ (by simpa[aq.only] using k2) q4),fun o af=>q5 o (nD _ b' q1 rfl o af)⟩
   |dA o =>
    obtain ⟨b',q1,q2,q3,q4,q5⟩:=ho;exact ⟨b',(e2 m hm).trans q1,by rw[←hM];exact q2,q3,q4,fun o af=>q5 o (nD _ b' q1 rfl o af)⟩
   |bp ks vs =>
    obtain ⟨b',es,ck,q1,q2,q3,q4,q5,q6,q7⟩:=ho;simp only[aq.only,t8] at k2;exact ⟨b',es,ck,(e2 m hm).trans q1,by rw[←hM];exact q2,q3,q4,aE.later hl2 _ _ (aE.cX e2 _ _ k2.1 q5),aE.later hl2 _ _ (aE.cX e2 _ _ k2.2 q6),fun o af=>q7 o (nD _ b' q1 rfl o af)⟩
   |it ks vs left cur=>cases k3
   |dC T xs =>
    obtain ⟨aF,q1,q2,q3⟩:=ho;refine ⟨aF,(e2 m hm).trans q1,q2,?_⟩;cases aF with
    |none=>exact q3
    |some bc =>
     obtain ⟨b,cap⟩:=bc;obtain ⟨cs,r,g1,g2,g3,g4,g5,g6,g7⟩:=q3;exact ⟨cs,r,by rw[←hM];exact g1,g2,g3,g4,g5,g6,fun o af=>g7 o (nD _ b q1 rfl o af)⟩
 ·exact ab.cJ m m' e e' b (cut m e g1).2 (cut m' e' g2).2 g3 g4
 ·rw[←hM];have:=ab.dH;rw[hc] at this ⊢;exact this
 ·rw[hD2] at af;have hnm:¬ c.eV b:=by
    rw[hM];rintro (h | h);· omega
    ·exact hno h
  rcases af.2 with h | h
  ·have:=ab.cU b o h hnm;rw[hc] at this;exact this
  ·exact absurd h.2 hnm
 ·rw[e2 m hin];have ho:A.o m≠none:=by
   cases hx:aj os m with
   |none=>simp[av,hx] at hin
   |some x=>rw[(J m x hx).1];simp
  rcases ab.dM m e (by rw[hc];exact hm) with h | h
  ·have hob:=ab.bN m;cases hx:A.o m with
   |none=>exact absurd hx ho
   |some x=>rw[hx] at hob;exact absurd h (sS hob)
  ·exact h
theorem aU.sG{P:Program}{n:Nat}{w:World}{D:aP}{E:aY}{Y:Value→List I→List (Nat×aq)→cA→Prop}{fe:Option (List Deferred)}{rs:List bQ}{post:cA}{fn:Func}{A:ai}{a:Act}{w':World}{D':aP}{E':aY}
  (ab:aU ⟨P,w,D,n,cB E,E,Y,none,fe⟩ A a w' D' E') (hrs:gF P fn.results.toList=some rs) (h:iL rs post A):∃ v,(results fn a.tmps).run P w'=.ok v w'∧kY w D E post v w':=by
 obtain ⟨os,xs,J,U,ah⟩:=h;obtain ⟨D2,E2,hw,e2,e2n,q1,q2,q3,q4,q5,q6⟩:=ab.vQ J;have hu:ee (A.j9 os) A:=fun n x hx=>by
  simp only[ai.j9] at hx;split at hx
  ·cases hx
  ·exact hx
 obtain ⟨vs,k1,k2⟩:=wW ab hu (os:=os) (E':=E2) hw e2 e2n fn.results.toList rs xs hrs U;have hres:(results fn a.tmps).run P w'=.ok (if h:vs.toArray.size=1 then vs.toArray[0] else .tuple vs.toArray) w':=by
  rw[WE,Sem.run_bind,Array.mapM_eq_mapM_toList,Sem.run_map,k1];rfl
 refine ⟨_,hres,D2,E2,jI xs,os,ah,?_,q1,q2,q3,q4,q5,q6⟩
 match xs,vs,k2 with
 | [x],vs,k2 =>
  simp only[aE] at k2;obtain ⟨v,rest,cs,rfl,q1,q2,rfl⟩:=k2;simpa[jI] using jh q1 q2
 | [],vs,k2 =>
  simp only[aE] at k2;subst k2;simp[jI,aZ,aE]
 |x::y::xs,vs,k2 =>
  have ao:vs.length≠1:=by
   simp only[aE] at k2;obtain ⟨v,rest,cs,rfl,_,_,v2,rest2,cs2,rfl,_⟩:=k2;simp
  simp only[jI,aZ];exact ⟨vs,by simp[ao],k2⟩
theorem BA{P:Program}{n:Nat}{w:World}{D:aP}{E:aY}{Y:Value→List I→List (Nat×aq)→cA→Prop}{rs:List bQ}{post:cA}{fn:Func}{A:ai}{D':aP}{E':aY}(hrs:gF P fn.results.toList=some rs)(h:iL rs post A) :
  ∀ (ds:List Deferred) (a:Act) (w':World),a.defers=ds→aU ⟨P,w,D,n,cB E,E,Y,none,none⟩ A a w' D' E'→LeavesInM Fence.wide 9 P fn a.tmps (fun e w'=>∃ v,e=.returned v∧kY w D E post v w') ds .returning w'
 | [],a,w',_,ab=>by
  obtain ⟨v,J,U⟩:=ab.sG hrs h;exact ⟨v,J,v,rfl,U⟩
 |d::ds,a,w',af,ab=>by
  obtain ⟨Bs,J,_⟩:=ab.er;rw[af] at J;cases Bs with
  |nil=>cases J
  |cons B Bs =>
   simp only[Z3,zz7] at J;obtain ⟨rfl,rfl⟩:=J;obtain ⟨k1,k2⟩:=ab.zV rfl af;exact ⟨by simp,.inl ⟨B,_,rfl,run_takeDeferred k1,BA hrs h _ { a with defers:=Bs.map _ } _ rfl k2⟩⟩
theorem ri{w:World}{D:aP}{E:aY} : ∀ {args:List I} {vs:List Value},aE w D E args vs→vs.length=args.length
 | [],vs,h=>by simp only[aE] at h;subst h;rfl
 |x::xs,vs,h=>by
  simp only[aE] at h;obtain ⟨v,rest,cs,rfl,_,_,ah⟩:=h;simp[ri ah]
def kd(P:Program)(f:FuncId)(Y:Value→List I→List (Nat×aq)→cA→Prop)(args:List I)(os:List (Nat×aq))(post:cA):Prop :=
 eX P f=true∧∀ (w:World) (D:aP) (E:aY) (vs:List Value),(∀ n,oh ⟨P,w,D,n,cB E,E,Y,none,none⟩)→(∀ b o,D b o→b<w.heap.size)→ju (fun _=>True) w D E (aj os)→aE w D E args vs →
  Calls P f vs.toArray w fun e w'=>∃ v,e=.returned v∧kY w D E post v w'
theorem kd.sT{P:Program}{f:FuncId}{fn:Func}{body:Code}{x:br}{rs:List bQ}{Y:Value→List I→List (Nat×aq)→cA→Prop}{args:List I}{os:List (Nat×aq)}{post:cA}(hf:P.funcs[f]?=some fn)(hb:fn.body=some body)(hcall:eX P f=true)(hc:en P fn.ntmps body=some x)
  (hrs:gF P fn.results.toList=some rs) (hn:args.length≤fn.ntmps) (hos:∀ m,av os m=true→fn.ntmps≤m∧1000000≤m) (h:∀ (w:World) (D:aP) (E:aY),ae ⟨P,w,D,fn.ntmps,cB E,E,Y,none,none⟩ x (nN rs post) (n2 args os)):kd P f Y args os post:=by
 refine ⟨hcall,fun w D E vs hy hD ho hv =>?_⟩;have hlen:=ri hv;have hsim:=xp (P:=P) (n:=fn.ntmps) (Y:=Y) hD ho hv (by omega) hos (hy fn.ntmps);refine (callsIn_wide (n:=9)).1 (callsIn_of_wp_marks hf hb trivial ?_);refine wpIn_mono (h w D E body hc _ w ⟨D,E,hsim⟩) ?_;rintro e a w' ⟨A,hq,D',E',ab⟩;cases e <;>simp only[nN] at hq <;>first
  |exact BA hrs hq a.defers a w' rfl ab
  |cases hq
theorem pA{P:Program}{w:World}{D:aP}{E:aY}{n:Nat}{fe:Option (List Deferred)}(ao:gB P w (cB E)):oh ⟨P,w,D,n,cB E,E,dh,none,fe⟩:=⟨ao,fun _ _ _ _ h=>h.elim⟩
theorem cN.Cc{P:Program}{f:FuncId}{args:List I}{os:List (Nat×aq)}{post:cA}(h:kd P f dh args os post):cN P f args os post :=
 ⟨h.1,fun w D E vs ao hD ho hv=>(h.2 w D E vs (fun _=>pA ao) hD ho hv).mono fun e w' ⟨v,he,D',E',r,os',k⟩=>⟨v,D',E',r,os',he,k⟩⟩
theorem bf.VH{P:Program}{f:FuncId}{args:List I}{r:I}(h:cN P f args [] (fun r' os'=>r'=r∧os'=[])):bf P f args r:=by
 refine ⟨h.1,fun w D vs ao hD hv =>?_⟩;have bH:ju (fun _=>True) w D c9 (aj []):=⟨fun n=>rfl,fun n m e e' b h=>by simp[c9] at h⟩
 refine (h.2 w D c9 vs (ao.nv fun b ⟨n,e,J,_⟩=>by simp[c9] at J) hD bH hv).mono fun e w' hq =>?_;obtain ⟨v,D',E',r',os',he,⟨J,U⟩,k1,k2,k3,k4,k5,k6,_⟩:=hq;subst J U;refine ⟨v,D',he,?_,?_,k5,fun b o af hlt=>k6 b o af hlt fun ⟨n,e,h,_⟩=>by simp[c9] at h⟩
 ·have:E'=c9:=by funext n;exact k2.bN n
  rw[←this];exact k1
 ·exact k3.GJ fun k hk hm=>by
   rcases hm with hm | ⟨n,e,h,_⟩
   ·omega
   ·simp[c9] at h
theorem WV(A:ai):A.j9 []=A:=rfl
theorem Ea{A:ai} : ∀ {rs:List bQ} {xs:List I},e6 A rs=some xs→lP A (A.j9 []) [] rs xs
 | [],xs,h=>by simp only[e6,v6] at h;subst h;trivial
 |r::rs,xs,h=>by
  simp only[e6] at h;split at h
  ·rename_i x xs' J U;simp only[v6] at h;subst h;refine ⟨?_,Ea U⟩;rw[WV];cases r with
   |tmp t=>exact ⟨_,rfl,.inr J⟩
   |cell a s =>
    simp only[tm,qO] at J ⊢;split at J
    ·rename_i y hy;split at J
     ·rename_i hok;exact ⟨y,by simp[hok],.inr J⟩
     ·cases J
    ·cases J
  ·cases h
theorem WG{rs:List bQ}{r:I}{e:Exit}{A:ai}(h:j6 rs r e A):nN rs (fun r' os'=>r'=r∧os'=[]) e A:=by
 cases e <;>simp only[j6] at h <;>first
  |exact h.elim
  |(obtain ⟨xs,J,U⟩:=h
    exact ⟨[],xs,fun n x hx=>by simp[aj] at hx,Ea J,U,rfl⟩)
theorem bf.sT{P:Program}{f:FuncId}{fn:Func}{body:Code}{x:br}{rs:List bQ}{args:List I}{r:I}(hf:P.funcs[f]?=some fn)(hb:fn.body=some body)(hcall:eX P f=true)(hc:en P fn.ntmps body=some x)
  (hrs:gF P fn.results.toList=some rs) (hn:args.length≤fn.ntmps) (h:∀ (w:World) (D:aP) (E:aY),ae ⟨P,w,D,fn.ntmps,cB E,E,dh,none,none⟩ x (j6 rs r) (n1 args)):bf P f args r:=by
 refine bf.VH (cN.Cc (kd.sT hf hb hcall hc hrs hn (fun m hm=>by simp[av,aj] at hm) fun w D E =>?_));exact (h w D E).mono fun e B hq=>WG hq
end Go.Abs
namespace Go.Abs
open Go Go.RowKit
def cF(ts:List (Nat×I)):List (Nat×I)→Prop
 | []=>True
 |(k,v)::r=>bU ts k=v∧cF ts r
def dB(os:List (Nat×aq)):List (Nat×aq)→Prop
 | []=>True
 |(k,v)::r=>aj os k=some v∧dB os r
def cS(p:Nat→Bool):List (Nat×I)→Prop
 | []=>True
 |(_,v)::r=>v.only p=true∧cS p r
theorem tE{ts:List (Nat×I)} : ∀ {ts':List (Nat×I)},cF ts ts'→∀ k,bU ts' k=.df∨bU ts' k=bU ts k
 | [],_,k=>.inl rfl
 |(j,v)::r,h,k=>by
  simp only[cF] at h;simp only[bU];split
  ·rename_i hk;subst hk;exact .inr h.1.symm
  ·exact tE h.2 k
theorem EB{os:List (Nat×aq)} : ∀ {os':List (Nat×aq)},dB os os'→∀ k,aj os' k=none∨aj os' k=aj os k
 | [],_,k=>.inl rfl
 |(j,v)::r,h,k=>by
  simp only[dB] at h;simp only[aj];split
  ·rename_i hk;subst hk;exact .inr h.1.symm
  ·exact EB h.2 k
theorem wz{p:Nat→Bool} : ∀ {ts:List (Nat×I)},cS p ts→∀ k,(bU ts k).only p=true
 | [],_,k=>by simp[bU,I.only]
 |(j,v)::r,h,k=>by
  simp only[cS] at h;simp only[bU];split
  ·exact h.1
  ·exact wz h.2 k
theorem Cj{p:Nat→Bool} : ∀ {os:List (Nat×aq)},cV p os→∀ k x,aj os k=some x→x.only p=true
 | [],_,k,x,hx=>by simp[aj] at hx
 |(j,v)::r,h,k,x,hx=>by
  simp only[cV] at h;simp only[aj] at hx;split at hx
  ·simp only[v6] at hx;subst hx;exact h.1
  ·exact Cj h.2 k x hx
theorem bC.dT{ts ts':List (Nat×I)}{os os':List (Nat×aq)}(J:cF ts ts')(U:dB os os')(ah:cS (av os') ts')(ar:cV (av os') os'):bC (au ts os) (au ts' os'):=by
 rintro c a w ⟨D,E,ab⟩;have hp:∀ n,av os' n=true→(if av os' n then E n else none)=E n:=fun n hn=>by simp[hn]
 refine ⟨D,fun n=>if av os' n then E n else none,ab.sz,ab.er,fun t =>?_,ab.dH,ab.cU,ab.aQ,fun n =>?_,fun n m e e' b J U ah ar =>?_,fun n e hn =>?_,ab.eK,ab.cM,ab.eS,ab.fp⟩
 ·have:=tE J t;rcases this with h | h
  ·simp only[au];rw[h];simp[aZ]
  ·refine aZ.cX (p:=av os') hp (wz ah t) ?_;have:=ab.dL t;simp only[au] at *;rw[h];exact this
 ·have ho:=ab.bN n;simp only[au] at *;rcases EB U n with h | h
  ·rw[h];simp[cR,av,h]
  ·rw[h];by_cases hin:aj os n=none
   ·rw[hin];simp[cR,av,h,hin]
   ·have ay:(if av os' n then E n else none)=E n:=hp n (by simp[av,h];cases bH:aj os n <;>simp_all);cases hx:aj os n with
    |none=>exact absurd hx hin
    |some x =>
     have hon:=Cj ar n x (h.trans hx);rw[hx] at ho;cases x with
     |box x =>
      obtain ⟨b,cs,T,k1,k2,k3,k4,k5⟩:=ho;exact ⟨b,cs,T,ay.trans k1,k2,k3,al.cX hp _ _ (by simpa[aq.only] using hon) k4,k5⟩
     |bW T sz es =>
      obtain ⟨aF,k1,k2,k3⟩:=ho;refine ⟨aF,ay.trans k1,k2,?_⟩;cases aF with
      |none=>exact k3
      |some bc =>
       obtain ⟨b,cap⟩:=bc;obtain ⟨cs,pre,rest,q1,q2,q3,q4,q5⟩:=k3;exact ⟨cs,pre,rest,q1,q2,q3,aM.cX hp _ _ (by simpa[aq.only] using hon) q4,q5⟩
     |dC T xs =>
      obtain ⟨aF,k1,k2,k3⟩:=ho;exact ⟨aF,ay.trans k1,k2,k3⟩
     |dA x =>
      obtain ⟨b,k1,k2⟩:=ho;exact ⟨b,ay.trans k1,k2⟩
     |bp ks vs =>
      obtain ⟨b,es,ck,k1,k2,k3,k4,k5,k6,k7⟩:=ho;simp only[aq.only,t8] at hon;exact ⟨b,es,ck,ay.trans k1,k2,k3,k4,aE.cX hp _ _ hon.1 k5,aE.cX hp _ _ hon.2 k6,k7⟩
     |it ks vs left cur =>
      obtain ⟨r,b,es,ck,si,se,la,k1,k2,k3,k4,k5,k6,k7⟩:=ho;simp only[aq.only,t8] at hon;exact ⟨r,b,es,ck,si,se,la,ay.trans k1,k2,k3,k4,aE.cX hp _ _ hon.1 k5,aE.cX hp _ _ hon.2 k6,k7⟩
 ·refine ab.cJ n m e e' b ?_ ?_ ah ar
  ·split at J
   ·exact J
   ·cases J
  ·split at U
   ·exact U
   ·cases U
 ·by_cases hi:av os' n=true
  ·simp only[hi,if_true];exact ab.dM n e hn
  ·simp only[hi];exact .inl rfl
def bK:Nat→List I→List (Nat×I)
 |_,[]=>[]
 |k,a::as=>(k,a)::bK (k+1) as
theorem BO:∀ (as:List I) (k t:Nat),bU (bK k as) t=if t<k then .df else (as[t-k]?).getD .df
 | [],k,t=>by simp[bK,bU]
 |a::as,k,t=>by
  simp only[bK,bU,BO as (k+1) t];by_cases h:t=k
  ·subst h;simp
  ·rw[if_neg h];by_cases U:t<k
   ·rw[if_pos (by omega),if_pos U]
   ·rw[if_neg (by omega),if_neg U,show t-k=(t-(k+1))+1 from by omega];simp
theorem tC(args:List I)(os:List (Nat×aq)):bC (n2 args os) (au (bK 0 args) os):=by
 rintro c a w ⟨D,E,ab⟩;refine ⟨D,E,ab.sz,ab.er,fun t =>?_,ab.dH,ab.cU,ab.aQ,ab.bN,ab.cJ,ab.dM,ab.eK,ab.cM,ab.eS,ab.fp⟩;have:=ab.dL t;simp only[au,BO,n2,Nat.not_lt_zero,if_false,Nat.sub_zero] at *;cases h:args[t]? with
 |none=>simp[aZ]
 |some x=>simpa[Z0,h] using this
theorem Xk(args:List I):bC (n1 args) (au (bK 0 args) []):=tC args []
theorem sM(ts:List (Nat×I))(os:List (Nat×aq))(d:Nat)(v:I):(au ts os).put d v=au ((d,v)::ts) os:=rfl
theorem B1(ts:List (Nat×I))(os:List (Nat×aq))(d:Nat)(v:I):(au ts os).aT (some d) v=au ((d,v)::ts) os:=rfl
theorem UR(A:ai)(v:I):A.aT none v=A:=rfl
theorem qB(ts:List (Nat×I))(os:List (Nat×aq))(d:Nat)(x:aq):(au ts os).aV d x=au ts ((d,x)::os):=rfl
theorem US(ts:List (Nat×I))(os:List (Nat×aq))(k:Nat):(au ts os).t k=bU ts k:=rfl
theorem UQ(ts:List (Nat×I))(os:List (Nat×aq))(k:Nat):(au ts os).o k=aj os k:=rfl
theorem cD(j:Nat)(v:I)(r:List (Nat×I))(k:Nat):bU ((j,v)::r) k=if k=j then v else bU r k:=rfl
theorem eg(j:Nat)(v:aq)(r:List (Nat×aq))(k:Nat):aj ((j,v)::r) k=if k=j then some v else aj r k:=rfl
theorem qx(k:Nat):aj [] k=none:=rfl
theorem Ly(A:ai)(k:Nat):ak A (.t k)=A.t k:=rfl
theorem Lx(A:ai)(x:I):ak A (.c x)=x:=rfl
noncomputable def c6(d:Option Nat)(rest:List aC)(A:ai)(v:I):cH:=az rest (A.aT d v)
theorem Uo(d:Option Nat)(rest:List aC)(A:ai)(v:I):c6 d rest A v=az rest (A.aT d v):=rfl
theorem G4(v:I)(k:I→cH):cL (some v) k=k v:=rfl
theorem Gm(A:ai):az [] A=.done A:=rfl
noncomputable def bG(A:ai)(d:Option Nat)(op:bR)(rest:List aC):cH:=bj A d op rest (az rest)
noncomputable def gI(x:I)(b:Bool)(d:Option Nat)(op:bR)(rest:List aC)(A:ai):cH :=
 match x with
 | .bool b'=>if b'=b then bG A d op rest else az rest (A.aT d .undef)
 | .undef=>az rest (A.aT d .undef)
 |_=>.fail
theorem aR.guard{P:Program}{Y:Value→List I→List (Nat×aq)→cA→Prop}{dr:Bool}{K:ai→Prop}{x b:Bool}{d:Option Nat}{op:bR}{rest:List aC}{A:ai}(J:x=b→aR P Y dr K (bG A d op rest))(U:x = !b→aR P Y dr K (az rest (A.aT d .undef))):aR P Y dr K (gI (.bool x) b d op rest A):=by
 unfold gI;by_cases h:x=b
 ·simp only[if_pos h];exact J h
 ·simp only[if_neg h];exact U (by cases x <;>cases b <;>simp_all)
def I.dI:I→Option (List I)
 | .agg fs=>some fs
 |_=>none
def oo(p:List Nat):Option I→Option I
 |some f=>f.at p
 |none=>none
def l8(i:Nat)(p:List Nat):Option (List I)→Option I
 |some fs=>oo p fs[i]?
 |none=>none
theorem x4(c:I):c.at []=some c:=by cases c <;>rfl
theorem GC(c:I)(i:Nat)(p:List Nat):c.at (i::p)=l8 i p c.dI:=by
 cases c <;>first | rfl | (rename_i fs;simp only[I.at,l8,I.dI,oo])
def xe(fs:List I)(i:Nat)(p:List Nat)(v:I):Option I→I
 |some f=>.agg (fs.set i (f.eh p v))
 |none=>.agg fs
def tu(c:I)(i:Nat)(p:List Nat)(v:I):Option (List I)→I
 |some fs=>xe fs i p v fs[i]?
 |none=>c
theorem nT(c v:I):c.eh [] v=v:=by cases c <;>rfl
theorem WX(c:I)(i:Nat)(p:List Nat)(v:I):c.eh (i::p) v=tu c i p v c.dI:=by
 cases c <;>first | rfl | (rename_i fs;simp only[I.eh,tu,I.dI];cases fs[i]? <;>rfl)
def ff(p:List Nat):Option aq→Option I
 |some (.box c)=>c.at p
 |_=>none
def gG(A:ai):I→Option I
 | .ref x=>some x
 | .ptr n p=>ff p (A.o n)
 |_=>none
theorem lj(A:ai)(x:I):cC A x=gG A x:=by
 cases x <;>first | rfl | (rename_i n p;simp only[cC,gG];cases A.o n with | none=>rfl | some y=>cases y <;>rfl)
def sV(s:Option Nat)(x:I):Option I:=if b5 s x=true then some x else none
def nB(s:Option Nat):Option I→Option I
 |some x=>sV s x
 |none=>none
open Classical in
noncomputable def dq(fs:List I)(f off:Nat)(y:I):Option I:=if f<fs.length∧I.sizes (fs.take f)=off then some y else none
noncomputable def pW(n:Nat)(p:List Nat)(f off:Nat):Option (List I)→Option I
 |some fs=>dq fs f off (.ptr n (p++[f]))
 |none=>none
noncomputable def oE(fs:List I)(f off:Nat):Option I→Option I
 |some v=>dq fs f off (.ref v)
 |none=>none
noncomputable def pX(f off:Nat):Option (List I)→Option I
 |some fs=>oE fs f off fs[f]?
 |none=>none
def fy:Option I→Option (List I)
 |some x=>x.dI
 |none=>none
noncomputable def iP(A:ai)(f off:Nat):I→Option I
 | .ref c=>pX f off c.dI
 | .ptr n p=>pW n p f off (fy (ff p (A.o n)))
 |_=>none
theorem V9(A:ai)(f off:Nat)(x:aO):bm A (.fa f off x)=iP A f off (ak A x):=by
 simp only[bm];generalize ak A x=y;cases y with
 |ref c =>
  cases c <;>simp only[iP,I.dI,pX]
  rename_i fs;cases h:fs[f]? with
  |none=>simp[oE]
  |some v =>
   have ao:f<fs.length:=(Z5.1 h).1;simp only[oE,dq,ao,true_and]

 |ptr n p =>
  simp only[iP,lj,gG];cases ff p (A.o n) with
  |none=>simp[fy,pW]
  |some c =>
   cases c <;>simp only[fy,I.dI,pW]
   simp only[dq]

 |_=>simp only[iP]
noncomputable def sn(f off:Nat)(s:Option Nat):Option (List I)→Option I
 |some fs=>match fs[f]? with
  |some v=>(dq fs f off v).bind (sV s)
  |none=>none
 |none=>none
theorem Wa(A:ai)(f off:Nat)(s:Option Nat)(x:aO):bm A (.fl f off s x)=sn f off s (ak A x).dI:=by
 simp only[bm];generalize ak A x=y;cases y <;>simp only[sn,I.dI]
 rename_i fs;cases h:fs[f]? with
 |none=>rfl
 |some v =>
  have ao:f<fs.length:=(Z5.1 h).1;simp only[dq,ao,true_and];by_cases J:I.sizes (fs.take f)=off <;>by_cases U:b5 s v=true <;>simp[J,U,sV]
open Classical in
noncomputable def lC(k:Int)(n:Nat)(y:Option I):Option I:=if 0≤k∧k<n then y else none
noncomputable def lB(n esz:Nat)(fs:List I)(y:Option I):Option I:=if iO n esz fs=true then y else none
noncomputable def sA(n esz:Nat)(k:Int):Option (List I)→Option I
 |some fs=>lB n esz fs ((fs[k.toNat]?).map .ref)
 |none=>none
noncomputable def qf(n esz m:Nat)(p:List Nat)(k:Int):Option (List I)→Option I
 |some fs=>lB n esz fs (some (.ptr m (p++[k.toNat])))
 |none=>none
noncomputable def nr(A:ai)(n esz:Nat)(k:Int):I→Option I
 | .ref c=>lC k n (sA n esz k c.dI)
 | .ptr m p=>lC k n (qf n esz m p k (fy (ff p (A.o m))))
 |_=>none
noncomputable def qe(A:ai)(n esz:Nat)(x:I):I→Option I
 | .int _ k=>nr A n esz k x
 |_=>none
theorem Wb(A:ai)(n esz:Nat)(x i:aO):bm A (.ia n esz x i)=qe A n esz (ak A x) (ak A i):=by
 simp only[bm];generalize ak A x=y;generalize ak A i=z;cases z <;>simp only[qe]
 rename_i kk k;cases y with
 |ref c =>
  simp only[nr,lC];split
  ·cases c <;>simp only[I.dI,sA,lB]
  ·rfl
 |ptr m p =>
  simp only[nr,lC,lj,gG];split
  ·cases ff p (A.o m) with
   |none=>simp[fy,qf]
   |some c=>cases c <;>simp only[fy,I.dI,qf,lB]
  ·rfl
 |_=>simp only[nr];split <;>rfl
open Classical in
noncomputable def mi(m:Nat)(p:List Nat)(sz lo l esz:Nat)(k:Int):Option (List I)→Option I
 |some _=>if sz=esz∧0≤k∧k<l then some (.ptr m (p++[lo+k.toNat])) else none
 |none=>none
open Classical in
noncomputable def jA(A:ai)(esz:Nat)(k:Int):I→Option I
 | .slice sz es=>if sz=esz∧0≤k∧k<es.length then (es[k.toNat]?).map .ref else none
 | .own m l=>match A.o m with
  |some (.bW _ sz es)=>if l=es.length∧sz=esz∧0≤k∧k<es.length then (es[k.toNat]?).map .ref else none
  |_=>none
 | .view m p sz lo l=>mi m p sz lo l esz k (fy (ff p (A.o m)))
 |_=>none
noncomputable def qh(A:ai)(esz:Nat)(x:I):I→Option I
 | .int _ k=>jA A esz k x
 |_=>none
theorem Wc(A:ai)(esz:Nat)(x i:aO):bm A (.is esz x i)=qh A esz (ak A x) (ak A i):=by
 simp only[bm];generalize ak A x=y;generalize ak A i=z;cases z <;>simp only[qh]
 cases y <;>simp only[jA]
 ·split <;>simp_all
 ·rename_i m p sz lo l;simp only[lj,gG];cases ff p (A.o m) with
  |none=>rfl
  |some c=>cases c <;>simp only[fy,I.dI,mi]
noncomputable def sD(n esz:Nat)(s:Option Nat)(k:Int):Option (List I)→Option I
 |some fs=>lC k n (lB n esz fs (nB s fs[k.toNat]?))
 |none=>none
noncomputable def ql(n esz:Nat)(s:Option Nat)(x:I):I→Option I
 | .int _ k=>sD n esz s k x.dI
 |_=>none
theorem Wd(A:ai)(n esz:Nat)(s:Option Nat)(x i:aO):bm A (.ix n esz s x i)=ql n esz s (ak A x) (ak A i):=by
 simp only[bm];generalize ak A x=y;generalize ak A i=z;cases z <;>simp only[ql]
 rename_i kk k;cases y <;>simp only[I.dI,sD]
 case agg fs =>
  simp only[lC,lB];split
  ·split
   ·cases fs[k.toNat]? <;>rfl
   ·rfl
  ·rfl
 all_goals (split <;>rfl)
def jg(A:ai):I→Option I
 | .slice _ es=>some (.int .i64 es.length)
 | .nils _=>some (.int .i64 0)
 | .c0 _=>some (.int .i64 0)
 | .own m l=>match A.o m with | some (.bW _ _ es)=>if l=es.length then some (.int .i64 es.length) else none | _=>none
 | .view _ _ _ _ k=>some (.int .i64 k)
 |_=>none
theorem Wf(A:ai)(x:aO):bm A (.len x)=jg A (ak A x):=by
 simp only[bm];generalize ak A x=y;cases y <;>rfl
open Classical in
noncomputable def rD(n esz:Nat)(fs:List I)(y:I):Option I:=if iO n esz fs=true∧n≤maxLen∧n≠0 then some y else none
noncomputable def rE(n esz m:Nat)(p:List Nat):Option (List I)→Option I
 |some fs=>rD n esz fs (.view m p esz 0 n)
 |none=>none
noncomputable def EM(n esz:Nat):Option (List I)→Option I
 |some fs=>rD n esz fs (.slice esz fs)
 |none=>none
noncomputable def n5(A:ai)(n esz:Nat):I→Option I
 | .ptr m p=>rE n esz m p (fy (ff p (A.o m)))
 | .ref c=>EM n esz c.dI
 |_=>none
theorem Wg(A:ai)(n esz:Nat)(x:aO):bm A (.va n esz x)=n5 A n esz (ak A x):=by
 simp only[bm];generalize ak A x=y;cases y with
 |ptr m p =>
  simp only[n5,lj,gG];cases ff p (A.o m) with
  |none=>simp[fy,rE]
  |some c=>cases c <;>simp only[fy,I.dI,rE,rD] <;>(split <;>simp_all)
 |ref c=>cases c <;>simp only[n5,I.dI,EM,rD] <;>(split <;>simp_all)
 |_=>simp only[n5]
theorem We(A:ai)(s:Option Nat)(x:aO):bm A (.ld s x)=nB s (gG A (ak A x)):=by
 simp only[bm,lj];cases gG A (ak A x) <;>simp only[nB,sV]
noncomputable def qL(A:ai)(d:Option Nat)(a b:aO)(rest:List aC):I→cH
 | .bool t=>az rest (A.aT d (if t then ak A a else ak A b))
 |_=>.fail
noncomputable def rB(op:UnOp)(x:I):Option I:=match op,x with
  | .not,.bool b=>some (.bool !b)
  | .neg,.int k n=>some (.int k (k.wrap (0-n)))
  | .xor,.int k n=>some (.int k (oz k n))
  |_,_=>none
def u7(i:Nat):I→Option I
 | .tuple fs=>fs[i]?
 |_=>none
def uL(k:IntKind):I→Option I
 | .int _ n=>some (.int k (k.wrap n))
 |_=>none
noncomputable def uc(A:ai)(d:Nat)(z:I)(rest:List aC):Option aq→cH
 |none=>az rest ((A.aV d (.box z)).put d (.ptr d []))
 |some _=>.fail
noncomputable def r4(A:ai)(d:Nat)(z:I)(rest:List aC)(v:Bool):cH:=if v=true then az rest ((A.aV d (.box z)).put d (.ptr d [])) else .fail
noncomputable def r3(A:ai)(d:Nat)(z:I)(rest:List aC):Option aq→cH
 |none=>r4 A d z rest z.bS
 |some _=>.fail
open Classical in
noncomputable def dk(A:ai)(s:Option Nat)(n:Nat)(p:List Nat)(b v:I)(rest:List aC):Option I→cH
 |some old=>if wu s v old then az rest (A.aV n (.box (b.eh p v))) else .fail
 |none=>.fail
noncomputable def tz(A:ai)(s:Option Nat)(n:Nat)(p:List Nat)(v:I)(rest:List aC):Option aq→cH
 |some (.box b)=>dk A s n p b v rest (b.at p)
 |_=>.fail
noncomputable def dx(A:ai)(s:Option Nat)(v:I)(rest:List aC):I→cH
 | .ptr n p=>tz A s n p v rest (A.o n)
 |_=>.fail
noncomputable def pP(A:ai)(d:Option Nat)(args:List I)(rest:List aC):I→cH
 | .func f caps=>.call (kC f) (hE f args caps) (bZ true A (hE f args caps)) (bZ false A (hE f args caps)) d rest A
 | .raw v=>.kq v args d rest A
 |_=>.fail
section
variable (d:Option Nat) (rest:List aC) (A:ai)
theorem F8(op:bR):az (⟨d,op,none⟩::rest) A=bG A d op rest:=rfl
theorem F9(op:bR)(t:Nat)(b:Bool):az (⟨d,op,some (t,b)⟩::rest) A=gI (A.t t) b d op rest A:=rfl
theorem Tw(op:bR):gI (.bool true) true d op rest A=bG A d op rest:=by simp[gI]
theorem Tt(op:bR):gI (.bool false) false d op rest A=bG A d op rest:=by simp[gI]
theorem Tv(op:bR):gI (.bool true) false d op rest A=az rest (A.aT d .undef):=by simp[gI]
theorem Tu(op:bR):gI (.bool false) true d op rest A=az rest (A.aT d .undef):=by simp[gI]
theorem Tx(op:bR)(b:Bool):gI .undef b d op rest A=az rest (A.aT d .undef):=rfl
theorem Vw(x:aO):bG A d (.mv x) rest=az rest (A.aT d (ak A x)):=rfl
theorem VA(c a b:aO):bG A d (.pick c a b) rest=qL A d a b rest (ak A c):=by
 simp only[bG,bj,bm];cases ak A c <;>simp only[cL,qL]
theorem U7(op:BinOp)(x y:aO):bG A d (.bin op x y) rest=cL (cv op (ak A x) (ak A y)) (c6 d rest A):=rfl
theorem Vg(ty:cz)(neg:Bool)(x y:aO):bG A d (.eqv ty neg x y) rest=cL ((bX ty (ak A x) (ak A y)).map fun b=>.bool (if neg then !b else b)) (c6 d rest A):=rfl
theorem VF(op:UnOp)(x:aO):bG A d (.un op x) rest=cL (rB op (ak A x)) (c6 d rest A):=rfl
theorem Ve(k:IntKind)(x:aO):bG A d (.conv k x) rest=cL (uL k (ak A x)) (c6 d rest A):=by
 simp only[bG,bj,bm];cases ak A x <;>rfl
theorem Vn(s:Option Nat)(x:aO):bG A d (.ld s x) rest=cL (nB s (gG A (ak A x))) (c6 d rest A):=by rw[←We];rfl
theorem Vi(f off:Nat)(x:aO):bG A d (.fa f off x) rest=cL (iP A f off (ak A x)) (c6 d rest A):=by rw[←V9];rfl
theorem Vj(f off:Nat)(s:Option Nat)(x:aO):bG A d (.fl f off s x) rest=cL (sn f off s (ak A x).dI) (c6 d rest A):=by rw[←Wa];rfl
theorem Vk(n esz:Nat)(x i:aO):bG A d (.ia n esz x i) rest=cL (qe A n esz (ak A x) (ak A i)) (c6 d rest A):=by rw[←Wb];rfl
theorem Vl(esz:Nat)(x i:aO):bG A d (.is esz x i) rest=cL (qh A esz (ak A x) (ak A i)) (c6 d rest A):=by rw[←Wc];rfl
theorem Vm(n esz:Nat)(s:Option Nat)(x i:aO):bG A d (.ix n esz s x i) rest=cL (ql n esz s (ak A x) (ak A i)) (c6 d rest A):=by rw[←Wd];rfl
theorem Vo(x:aO):bG A d (.len x) rest=cL (jg A (ak A x)) (c6 d rest A):=by rw[←Wf];rfl
theorem VG(n esz:Nat)(x:aO):bG A d (.va n esz x) rest=cL (n5 A n esz (ak A x)) (c6 d rest A):=by rw[←Wg];rfl
theorem U8(zs:List I)(ps:List (Nat×aO)):bG A d (.bld zs ps) rest=cL ((dK zs (ps.map fun p=>(p.1,ak A p.2))).map .agg) (c6 d rest A):=rfl
theorem Vh(x:aO)(i:Nat):bG A d (.ext x i) rest=cL (u7 i (ak A x)) (c6 d rest A):=by
 simp only[bG,bj,bm];cases ak A x <;>rfl
theorem Vs(f:FuncId)(caps:List aO):bG A d (.mk f caps) rest=cL (if ((caps.map (ak A)).all fun y=>y.bS)=true then some (.func f (caps.map (ak A))) else none) (c6 d rest A):=rfl
theorem U5(d:Nat)(z:I):bG A (some d) (.alloc z) rest=uc A d z rest (A.o d):=by
 simp only[bG,bj];cases A.o d <;>rfl
theorem U9(d:Nat)(x:aO):bG A (some d) (.box x) rest=r3 A d (ak A x) rest (A.o d):=by
 simp only[bG,bj];cases A.o d <;>simp only[r3,r4]
theorem VE(s:Option Nat)(x v:aO):bG A none (.bd s x v) rest=dx A s (ak A v) rest (ak A x):=by
 simp only[bG,bj];cases ak A x <;>simp only[dx]
 rename_i n p;cases A.o n with
 |none=>rfl
 |some y =>
  cases y <;>simp only[tz]
  rename_i b;cases b.at p <;>simp only[dk]
theorem Vb(f:FuncId)(args:List aO):bG A d (.call f args) rest=.call f (args.map (ak A)) (bZ true A (args.map (ak A))) (bZ false A (args.map (ak A))) d rest A:=rfl
theorem Vc(x:aO)(args:List aO):bG A d (.fF x args) rest=pP A d (args.map (ak A)) rest (ak A x):=by
 simp only[bG,bj];cases ak A x <;>rfl
end
end Go.Abs
namespace Go.Abs
open Go Go.RowKit
mutual
/-- Closed,and as a result is told: no nil slice but as the empty one. -/
def I.done:I→Bool
 | .agg fs=>I.hs fs
 | .slice _ es=>I.b9 es
 | .ref x=>x.bq
 | .func f caps=>decide (f<1000000)&&I.hs caps
 | .iface _ v=>v.bq
 | .c7 ks vs=>I.b9 ks&&I.b9 vs
 | .bool _ | .int _ _ | .bO _ | .nilp | .dn | .dS | .any | .raw _=>true
 |_=>false
def I.hs:List I→Bool
 | []=>true
 |x::xs=>x.done&&I.hs xs
end
mutual
theorem uO:∀ x:I,x.done=true→x.bq=true
 | .agg fs,h=>by simp only[I.done,I.bq] at *;exact uP fs h
 | .slice _ es,h=>by simpa only[I.done,I.bq] using h
 | .ref x,h=>by simpa only[I.done,I.bq] using h
 | .func _ caps,h=>by simp only[I.done,I.bq,t8] at *;exact uP caps h.2
 | .iface _ v,h=>by simpa only[I.done,I.bq] using h
 | .bool _,_ | .int _ _,_ | .bO _,_ | .nilp,_ | .dn,_ | .dS,_ | .any,_ | .raw _,_=>by simp[I.bq]
 | .c7 _ _,h=>by simpa only[I.done,I.bq] using h
 | .nils _,h | .c0 _,h | .ptr _ _,h | .own _ _,h | .view _ _ _ _ _,h | .mref _,h | .db _,h | .undef,h | .df,h | .tuple _,h=>by simp[I.done] at h
theorem uP:∀ xs:List I,I.hs xs=true→I.b9 xs=true
 | [],_=>rfl
 |x::xs,h=>by
  simp only[I.hs,I.b9,t8] at *;exact ⟨uO x h.1,uP xs h.2⟩
end
mutual
theorem Ax(aN:Bool)(A:ai):∀ x:I,x.done=true→bh aN A x=some x
 | .agg fs,h=>by simp only[I.done,bh] at *;rw[vm aN A fs h];rfl
 | .slice _ es,h=>by simp only[I.done] at h;simp[bh,h]
 | .ref x,h=>by simp only[I.done] at h;simp[bh,h]
 | .func _ caps,h=>by simp only[I.done,bh,t8,decide_eq_true_eq] at *;rw[if_pos h.1,vm aN A caps h.2];rfl
 | .iface _ v,h=>by simp only[I.done] at h;simp[bh,h]
 | .bool _,_ | .int _ _,_ | .bO _,_ | .nilp,_ | .dn,_ | .dS,_ | .any,_ | .raw _,_=>by simp[bh]
 | .c7 _ _,h=>by simp only[I.done] at h;simp[bh,h]
 | .nils _,h | .c0 _,h | .ptr _ _,h | .own _ _,h | .view _ _ _ _ _,h | .mref _,h | .db _,h | .undef,h | .df,h | .tuple _,h=>by simp[I.done] at h
theorem vm(aN:Bool)(A:ai):∀ xs:List I,I.hs xs=true→bZ aN A xs=some xs
 | [],_=>by simp[bZ]
 |x::xs,h=>by
  simp only[I.hs,t8] at h;simp only[bZ,Ax aN A x h.1,vm aN A xs h.2]
end
theorem Li{x:I}(h:x.done=true):x.bS=true:=by cases x <;>simp_all[I.done,I.bS]
class Enc (α:Type) where
 enc:α→I
 sz:Nat
 aX:cK
 gJ:Bool
 done:∀ x,(enc x).done=true
 size:∀ x,(enc x).size=sz
 iE:∀ x,(enc x).aX=aX
 agg:∀ x,(enc x).isAgg=gJ
open Enc (enc)
instance:Enc Int where
 enc n:=.int .i64 n
 sz:=1
 aX:=.one
 gJ:=false
 done _:=rfl
 size _:=by simp[I.size]
 iE _:=by simp[I.aX]
 agg _:=rfl
instance:Enc Bool where
 enc b:=.bool b
 sz:=1
 aX:=.one
 gJ:=false
 done _:=rfl
 size _:=by simp[I.size]
 iE _:=by simp[I.aX]
 agg _:=rfl
theorem ij{α:Type}[Enc α](l:List α):I.b9 (l.map enc)=true:=by
 induction l with
 |nil=>rfl
 |cons x l ih=>simp only[Z3,I.b9,uO _ (Enc.done x),ih,Bool.and_self]
theorem Lj{α:Type}[Enc α](l:List α):I.hs (l.map enc)=true:=by
 induction l with
 |nil=>rfl
 |cons x l ih=>simp only[Z3,I.hs,Enc.done x,ih,Bool.and_self]
theorem W3{α:Type}[Enc α](l:List α):I.sizes (l.map enc)=l.length*Enc.sz α:=by
 rw[I.h2 (sz:=Enc.sz α) _ (by simp only[X1];rintro x ⟨y,_,rfl⟩;exact Enc.size y)];simp
theorem xh{α:Type}[Enc α](l:List α):I.cT (l.map enc)=List.replicate l.length (Enc.aX α):=by
 induction l with
 |nil=>rfl
 |cons x l ih=>simp only[Z3,I.cT,Enc.iE x,ih,zz6,List.replicate_succ]
instance {α:Type} [Enc α]:Enc (List α) where
 enc l:=.slice (Enc.sz α) (l.map enc)
 sz:=1
 aX:=.one
 gJ:=false
 done l:=by simp only[I.done];exact ij l
 size _:=by simp[I.size]
 iE _:=by simp[I.aX]
 agg _:=rfl
structure xv (n:Nat) (α:Type) where
 l:List α
 h:l.length=n
instance {n:Nat} {α:Type} [Enc α]:Enc (xv n α) where
 enc x:=.agg (x.l.map enc)
 sz:=n*Enc.sz α
 aX:=.eD (List.replicate n (Enc.aX α))
 gJ:=true
 done x:=by simp only[I.done];exact Lj x.l
 size x:=by simp only[I.size,W3,x.h]
 iE x:=by simp only[I.aX,xh,x.h]
 agg _:=rfl
section
variable {α:Type} [Enc α]
theorem ln(aN:Bool)(A:ai)(x:α):bh aN A (enc x)=some (enc x):=Ax aN A _ (Enc.done x)
theorem kz(x:α):(enc x).bq=true:=uO _ (Enc.done x)
theorem cI(p:Nat→Bool)(x:α):(enc x).only p=true:=j0 p _ (kz x)
theorem ep(x:α):(enc x).bS=true:=Li (Enc.done x)
theorem lq(x:α):b5 none (enc x) = !(Enc.gJ α):=by simp[b5,Enc.agg]
theorem fg(n:Nat)(x:α):b5 (some n) (enc x)=(Enc.gJ α&&Enc.sz α==n):=by simp[b5,Enc.agg,Enc.size]
theorem kB(x:α):(enc x).size=Enc.sz α:=Enc.size x
theorem eH(x:α):(enc x).aX=Enc.aX α:=Enc.iE x
theorem eC(n:Int):(enc n:I)=.int .i64 n:=rfl
theorem Ln(n:Bool):(enc n:I)=.bool n:=rfl
theorem gT(l:List α):(enc l:I)=.slice (Enc.sz α) (l.map enc):=rfl
theorem jV:Enc.sz (List α)=1:=rfl
theorem lp:Enc.gJ (List α)=false:=rfl
theorem nh:Enc.aX (List α)=.one:=rfl
theorem Gh(l:List α):∀ x∈l.map (enc (α:=α)),x.size=Enc.sz α:=by
 simp only[X1];rintro x ⟨y,_,rfl⟩;exact Enc.size y
end
theorem l3(n:Int)(J:-9223372036854775808≤n)(U:n≤9223372036854775807):IntKind.i64.wrap n=n:=IntWalk.i64_in n ⟨J,U⟩
theorem bf.mk{P:Program}{f:FuncId}{fn:Func}{x:br}{rs:List bQ}{args:List I}{r:I}(hf:P.funcs[f]?=some fn)(hcall:eX P f=true)(hc:(fn.body.bind (en P fn.ntmps))=some x)
  (hrs:gF P fn.results.toList=some rs) (hn:args.length≤fn.ntmps) (h:∀ (w:World) (D:aP) (E:aY),ae ⟨P,w,D,fn.ntmps,cB E,E,dh,none,none⟩ x (j6 rs r) (au (bK 0 args) [])):bf P f args r:=by
 obtain ⟨body,hb,hc'⟩:=zz1.1 hc;exact bf.sT hf hb hcall hc' hrs hn (fun w D E=>(h w D E).sub (Xk args))
end Go.Abs
namespace Go.Abs.C
open Go Go.Abs
abbrev o(a:Nat)(x:bR):aC:=⟨some a,x,none⟩
abbrev bL(a:Nat)(x:bR)(k:Nat):aC:=⟨some a,x,some (k,true)⟩
abbrev on(a:Nat)(x:bR)(k:Nat):aC:=⟨some a,x,some (k,false)⟩
abbrev p(x:bR):aC:=⟨none,x,none⟩
abbrev a8(n:Int):aO:=.c (.int .i64 n)
abbrev T:aO:=.c (.bool true)
abbrev bz:aO:=.c (.bool false)
abbrev m(a b:Nat):aC:=⟨some a,.mv (.t b),none⟩
abbrev dc(a b k:Nat):aC:=⟨some a,.mv (.t b),some (k,true)⟩
abbrev mu(a b k:Nat):aC:=⟨some a,.mv (.t b),some (k,false)⟩
abbrev b6(a:Nat)(n:Int):aC:=⟨some a,.mv (.c (.int .i64 n)),none⟩
abbrev l(a b:Nat):aC:=⟨some a,.ld none (.t b),none⟩
abbrev dJ(a b k:Nat):aC:=⟨some a,.ld none (.t b),some (k,true)⟩
abbrev eJ(a b k:Nat):aC:=⟨some a,.ld none (.t b),some (k,false)⟩
abbrev L(a s b:Nat):aC:=⟨some a,.ld (some s) (.t b),none⟩
abbrev f(a b c d:Nat):aC:=⟨some a,.fa b c (.t d),none⟩
abbrev dR(a b c d k:Nat):aC:=⟨some a,.fa b c (.t d),some (k,true)⟩
abbrev fn(a b c d k:Nat):aC:=⟨some a,.fa b c (.t d),some (k,false)⟩
abbrev ad(a b:Nat)(n:Int):aC:=⟨some a,.bin .add (.t b) (.c (.int .i64 n)),none⟩
abbrev lt(a b c:Nat):aC:=⟨some a,.bin .lss (.t b) (.t c),none⟩
abbrev and(a b c:Nat):aC:=⟨some a,.pick (.t b) (.t c) (.c (.bool false)),none⟩
abbrev or(a b c:Nat):aC:=⟨some a,.pick (.t b) (.c (.bool true)) (.t c),none⟩
abbrev no(a b:Nat):aC:=⟨some a,.un .not (.t b),none⟩
abbrev b(a c:Nat):aC:=⟨some a,.box (.t c),none⟩
abbrev s(x y:br):br:=.seq x y
abbrev r(g:List aC):br:=.cg none g
abbrev ct(P:Program)(f:Func)(c:br):Prop:=f.body.bind (en P f.ntmps)=some c
abbrev cq(P:Program)(f:Func)(r:List bQ):Prop:=gF P f.results.toList=some r
abbrev cm(P:Program)(n:FuncId):Prop:=eX P n=true
theorem e{α:Type}{a b:α}(h:a=b):a=b:=h
end Go.Abs.C
