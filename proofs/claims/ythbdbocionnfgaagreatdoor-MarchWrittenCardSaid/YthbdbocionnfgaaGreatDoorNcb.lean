/-
  A part of the proof that the law MarchWritten returns true for every input; three tables of Go's library start as the text lays them (the card ties them); conditions: none beyond the statement's own. (part 2 of 6)
-/
import Derived.Maps.RangeRun
import Derived.Laws.MakeOwn
import Derived.Orders
import Derived.OrdersIn
import Derived.Test.YthbdbocionnfgaaGreatDoorNca
set_option linter.unusedSimpArgs false
set_option linter.unusedVariables false
set_option maxHeartbeats 16000000
set_option maxRecDepth 100000
namespace Go.Abs
open Go Go.RowKit
theorem AJ{w:World}{D:aP}{E:aZ} : ∀ (l:List cF) (xs ys:List I) (cs ds:List Value),l.all v7=true→hE l xs ys=some true→aM w D E xs cs→aM w D E ys ds→xs=ys∧cs=ds∧∀ v∈cs,∃ k n,v=.int k n
 | [],xs,ys,cs,ds,_,h,hx,hy=>by
  simp only[hE] at h;split at h
  ·simp only[aM] at hx hy;subst hx hy;exact ⟨rfl,rfl,fun v hv=>by simp at hv⟩
  ·cases h
 |t::ts,xs,ys,cs,ds,ha,h,hx,hy=>by
  simp only[List.all_cons,t8] at ha;simp only[hE] at h;split at h
  case h_2=>cases h
  rename_i f fs g gs;unfold iZ at h;split at h
  case h_2=>cases h
  rename_i a b J U;simp only[v6,t8] at h;obtain ⟨rfl,rfl⟩:=h;simp only[aM] at hx hy;obtain ⟨c1,c2,rfl,p1,p2⟩:=hx;obtain ⟨d1,d2,rfl,q1,q2⟩:=hy;obtain ⟨rfl,rfl,k3⟩:=AJ ts fs gs c2 d2 ha.2 U p2 q2;cases t with
  |i k =>
   simp only[b5] at J;split at J
   case h_2=>cases J
   rename_i k1 a k2 b;split at J
   case isFalse=>cases J
   rename_i hk;simp only[v6,beq_iff_eq] at J;subst J;obtain ⟨rfl,rfl⟩:=hk;simp only[al] at p1 q1;obtain ⟨rfl,_⟩:=p1;obtain ⟨rfl,_⟩:=q1;refine ⟨rfl,rfl,fun v hv =>?_⟩;rcases zy7.1 hv with hv | hv
   ·simp at hv;exact ⟨_,_,hv⟩
   ·exact k3 v hv
  |b | s | aU _ | p5 _ _=>simp[v7] at ha
theorem E0:∀ (cs:List Value) (n:Nat),(∀ v∈cs,∃ k m,v=.int k m)→((cs.zip cs).all fun (x,y)=>Instr.sameBits n x y)=true
 | [],_,_=>rfl
 |v::cs,n,h=>by
  obtain ⟨k,m,rfl⟩:=h v (by simp);simp only[List.zip_cons_cons,List.all_cons,t8];exact ⟨by cases n <;>simp[Instr.sameBits],E0 cs n fun v hv=>h v (by simp[hv])⟩
theorem Wt{P:Program}{t:TypeId}{ty:cF}{w:World}{D:aP}{E:aZ}{x y:I}{u v:Value}(hk:jR P t=some ty)(h:b5 ty x y=some true)(hx:a8 w D E x u)(hy:a8 w D E y v):x=y∧u=v∧Instr.sameBits 10000 u v=true:=by
 unfold jR at hk;split at hk
 ·rename_i k hu;simp only[v6] at hk;subst hk;simp only[b5] at h;split at h
  case h_2=>cases h
  split at h
  case isFalse=>cases h
  rename_i hk;simp only[v6,beq_iff_eq] at h;subst h;obtain ⟨rfl,rfl⟩:=hk;rw[(eW hx).1,(eW hy).1];exact ⟨rfl,rfl,by simp[Instr.sameBits]⟩
 ·rename_i fs hu;split at hk
  case h_2=>cases hk
  rename_i l ao;split at hk
  case isFalse=>cases hk
  rename_i hc;simp only[v6] at hk;subst hk;simp only[b5] at h;split at h
  case h_2=>cases h
  rename_i xs ys;obtain ⟨cs,rfl,hc1⟩:=jg hx;obtain ⟨ds,rfl,hd1⟩:=jg hy;obtain ⟨rfl,rfl,ah⟩:=AJ l xs ys cs ds hc.1 h hc1 hd1;refine ⟨rfl,rfl,?_⟩;simp only[Instr.sameBits,beq_self_eq_true,Bool.true_and];exact E0 cs _ ah
 ·cases hk
section
variable {P:Program} {w:World} {D:aP} {E:aZ}
theorem u6{t:TypeId}{ty:cF}{em:Bool}{x y:I}{v:Value}{r:Bool}(hk:jR P t=some ty)(hx:a8 w D E x v)(h:b5 ty x y=some r)(n:Nat):(Instr.checkKey em (n+2) t v).run P w=.ok () w:=by
 unfold jR at hk;split at hk
 ·rename_i k hu;simp only[v6] at hk;subst hk;simp only[b5] at h;split at h
  case h_2=>cases h
  rename_i k1 a k2 b;split at h
  case isFalse=>cases h
  rename_i hq;rw[(eW hx).1,hq.1];exact MapKept.run_checkKey hu (by simp[MapKept.IsKey]) em (n+1)
 ·rename_i fs hu;split at hk
  case h_2=>cases hk
  rename_i l ao;split at hk
  case isFalse=>cases hk
  rename_i hc;simp only[v6] at hk;subst hk;simp only[b5] at h;split at h
  case h_2=>cases h
  rename_i xs ys;obtain ⟨cs,rfl,hc1⟩:=jg hx;obtain ⟨d,af⟩:∃ d,d=11:=⟨_,rfl⟩
  rw[show (12:Nat)=d+1 from by omega] at ao;simp only[gK,hu] at ao;split at ao
  case isFalse=>cases ao
  rename_i hc2;simp only[t7,cF.aU.injEq] at ao;obtain ⟨l',ao,rfl⟩:=ao;rw[show n+2=(n+1)+1 from rfl,Instr.checkKey];simp only[Sem.run_bind,run_underlying hu,Result.andThen_ok];rw[←Array.forIn_toList];have key:∀ (L:List Field) (l:List cF) (xs ys:List I) (r:Bool) (c1 c2:List Value),
    (L.mapM fun f=>match gK P d f.type with
     |some ty=>if ty.size=P.cellsOf f.type then some ty else none
     | none => none) = some l → (∀ f ∈ L, f.name ≠ "_" ∧ qA (P.underlying f.type) = true) → pz P c1.length L = true → aM w D E xs c2 → hE l xs ys = some r → c1 ++ c2 = cs →
    Sem.run P (forIn L PUnit.unit (fun (f : Field) (_ : PUnit) => (if f.name ≠ "_" then (do
     let x ←part f.type cs.toArray f.offset
     Instr.checkKey em (n+1) f.type x
     pure (ForInStep.yield PUnit.unit)) else pure (ForInStep.yield PUnit.unit):Sem (ForInStep PUnit)))) w=.ok PUnit.unit w:=by
   intro L
   induction L with
   |nil=>intros;simp
   |cons f L ih =>
    intro l xs ys r c1 c2 hm hn ho hx h htot;simp only[List.mapM_cons,Option.bind_eq_bind,Option.pure_def,zx7,v6] at hm;obtain ⟨ty,hty,tys,htys,rfl⟩:=hm;split at hty
    case h_2=>cases hty
    rename_i ty' hd';split at hty
    case isFalse=>cases hty
    rename_i hsz;simp only[v6] at hty;subst hty;simp only[hE] at h;split at h
    case h_2=>cases h
    rename_i x xs y ys;unfold iZ at h;split at h
    case h_2=>cases h
    rename_i ra rb J U;simp only[aM] at hx;obtain ⟨e1,e2,rfl,k1,k2⟩:=hx;obtain ⟨s,q1,q2,q3⟩:=vh hd' hsz J;obtain ⟨u,p1,p2⟩:=oq (P:=P) (w:=w) (c1:=c1) (c3:=e2) q1 q2 k1;simp only[pz,t8,beq_iff_eq] at ho;have hsx:=oU ty' x y ra J;have hle:e1.length=P.cellsOf f.type:=by rw[al.length _ _ k1,hsx.1,hsz]
    have ih':=ih tys xs ys rb (c1++e1) e2 htys (fun g hg=>hn g (by simp[hg])) (by simp only[Z6,hle];exact ho.2) k2 U (by rw[←htot];simp);rw[zz0,htot,←ho.1] at p1;obtain ⟨hnm,hint⟩:=hn f (by simp);have hck:(Instr.checkKey em (n+1) f.type u).run P w=.ok () w:=by
     cases hu:P.underlying f.type with
     |none=>simp[hu,qA] at hint
     |some dd =>
      cases dd <;>simp[hu,qA] at hint
      rename_i q;have hti:ty'=.i q:=by
       rw[show d=10+1 from by omega] at hd';unfold gK at hd';simp only[hu,v6] at hd';exact hd'.symm
      subst hti;simp only[b5] at J;split at J
      case h_2=>cases J
      split at J
      case isFalse=>cases J
      rename_i hq;rw[(eW p2).1,hq.1];exact MapKept.run_checkKey hu (by simp[MapKept.IsKey]) em n
    simp only[List.forIn_cons,Sem.run_bind,hnm,ne_eq,not_false_eq_true,if_true,p1,Result.andThen_ok,hck,Sem.run_pure];exact ih'
  rw[key fs.toList l' xs ys r [] cs ao (fun f hf=>⟨by simpa using zy1.1 hc2.2.1 f hf,Array.all_eq_true_iff_forall_mem.1 hc.2 f (Array.mem_toList_iff.1 hf)⟩) hc2.2.2 hc1 h rfl];simp
 ·cases hk
theorem xy{x:I}{xs:List I}{vs:List Value}(h:aI w D E (x::xs) vs):∃ v rest,vs=v::rest∧a8 w D E x v∧aI w D E xs rest:=by
 simp only[aI] at h;obtain ⟨v,rest,cs,rfl,J,U,ah⟩:=h;exact ⟨v,rest,rfl,jx J U,ah⟩
def oI(r:Option Nat)(es:List MapEntry)(i:Nat)(q:Option (Nat×Value)):Prop :=
 (r=none∧q=none)∨∃ j e,r=some (i+j)∧es[j]?=some e∧q=some (i+j,e.val)
theorem oI.step{r:Option Nat}{es:List MapEntry}{e:MapEntry}{i:Nat}{q:Option (Nat×Value)}(h:oI r es (i+1) q):oI r (e::es) i q:=by
 rcases h with h | ⟨j,e',J,U,ah⟩
 ·exact .inl h
 ·exact .inr ⟨j+1,e',by rw[J];congr 1;omega,by simpa using U,by rw[ah];congr 2;omega⟩
theorem A6{q:IntKind}{k:I}{v:Value}(hv:a8 w D E k v):∀ (ks:List I) (es:List MapEntry) (i:Nat) (r:Option Nat),aI w D E ks (es.map (·.key))→eE (.i q) k ks i=some r →
  ∃ x,Instr.findNow (.int q) v es i=some x∧oI r es i x
 | [],es,i,r,hk,h=>by
  simp only[eE,v6] at h;simp only[aI,List.map_eq_nil_iff] at hk;subst h hk;exact ⟨none,rfl,.inl ⟨rfl,rfl⟩⟩
 |x::ks,es,i,r,hk,h=>by
  obtain ⟨u,rest,e1,hu,hr⟩:=xy hk;cases es with
  |nil=>cases e1
  |cons e es =>
   simp only[Z4,zw2] at e1;obtain ⟨rfl,rfl⟩:=e1;simp only[eE] at h;have same:∀ b,b5 (.i q) k x=some b→Instr.sameNow (.int q) v e.key=some b:=fun b hb=>by
    simp only[b5] at hb;split at hb
    case h_2=>cases hb
    split at hb
    case isFalse=>cases hb
    rename_i hq;simp only[v6] at hb;subst hb;rw[(eW hv).1,(eW hu).1];simp[Instr.sameNow,hq.1,hq.2]
   split at h
   ·rename_i hb;simp only[v6] at h;subst h;exact ⟨some (i,e.val),by simp[Instr.findNow,same _ hb],.inr ⟨0,e,rfl,rfl,rfl⟩⟩
   ·rename_i hb;obtain ⟨y,J,U⟩:=A6 hv ks es (i+1) r hr h;exact ⟨y,by simp[Instr.findNow,same _ hb,J],U.step⟩
   ·cases h
theorem A4{t:TypeId}{ty:cF}(hty:gK P 12 t=some ty){k:I}{v:Value}(hv:a8 w D E k v):∀ (ks:List I) (es:List MapEntry) (i:Nat) (r:Option Nat),aI w D E ks (es.map (·.key))→eE ty k ks i=some r →
  ∃ x,(Instr.findAsking t v es i).run P w=.ok x w∧oI r es i x
 | [],es,i,r,hk,h=>by
  simp only[eE,v6] at h;simp only[aI,List.map_eq_nil_iff] at hk;subst h hk;exact ⟨none,rfl,.inl ⟨rfl,rfl⟩⟩
 |x::ks,es,i,r,hk,h=>by
  obtain ⟨u,rest,e1,hu,hr⟩:=xy hk;cases es with
  |nil=>cases e1
  |cons e es =>
   simp only[Z4,zw2] at e1;obtain ⟨rfl,rfl⟩:=e1;simp only[eE] at h;have same:∀ b,b5 ty k x=some b→(Op.equal t v e.key).run P w=.ok b w:=fun b hb=>sD 12 t ty hty k x v e.key b hv hu hb _ (by simp[Op.maxDepth]);split at h
   ·rename_i hb;simp only[v6] at h;subst h;exact ⟨some (i,e.val),by simp[Instr.findAsking,same _ hb],.inr ⟨0,e,rfl,rfl,rfl⟩⟩
   ·rename_i hb;obtain ⟨y,J,U⟩:=A4 hty hv ks es (i+1) r hr h;exact ⟨y,by simp[Instr.findAsking,same _ hb,J],U.step⟩
   ·cases h
theorem o5{t:TypeId}{ty:cF}(hk:jR P t=some ty){k:I}{v:Value}(hv:a8 w D E k v){ks:List I}{es:List MapEntry}{r:Option Nat}(hks:aI w D E ks (es.map (·.key)))(h:eE ty k ks 0=some r) :
  ∃ x,(Instr.findKey t v es).run P w=.ok x w∧oI r es 0 x:=by
 have hk0:=hk;unfold jR at hk;split at hk
 ·rename_i q hu;simp only[v6] at hk;subst hk;obtain ⟨x,J,U⟩:=A6 hv ks es 0 r hks h;exact ⟨x,by simp[Instr.findKey,run_underlying hu,J],U⟩
 ·rename_i fs hu;split at hk
  case h_2=>cases hk
  rename_i l ao;split at hk
  case isFalse=>cases hk
  simp only[v6] at hk;subst hk;cases es with
  |nil =>
   cases ks with
   |nil =>
    simp only[eE,v6] at h;subst h;exact ⟨none,by simp[Instr.findKey,run_underlying hu,Instr.findNow],.inl ⟨rfl,rfl⟩⟩
   |cons x xs=>simp[aI] at hks
  |cons e es =>
   obtain ⟨x,J,U⟩:=A4 ao hv ks (e::es) 0 r hks h;exact ⟨x,by simp[Instr.findKey,run_underlying hu,Instr.findNow,Instr.sameNow,J],U⟩
 ·cases hk
theorem mj:∀ {xs:List I} {vs:List Value} {j:Nat} {v:Value},aI w D E xs vs→vs[j]?=some v→∃ x,xs[j]?=some x∧a8 w D E x v
 | [],vs,j,v,h,hj=>by simp only[aI] at h;subst h;simp at hj
 |x::xs,vs,j,v,h,hj=>by
  obtain ⟨u,rest,rfl,J,U⟩:=xy h;cases j with
  |zero=>simp only[List.getElem?_cons_zero,v6] at hj;subst hj;exact ⟨x,rfl,J⟩
  |succ j=>exact mj (xs:=xs) U (by simpa using hj)
end
section
variable {c:cT} {A:ai} {o:Oper} {x:I}
theorem WQ{a:Act}{w:World}{D:aP}{E:aZ}(ab:aV c A a w D E){m:I}{v:Value}{ks vs:List I}(hv:a8 w D E m v)(hm:fZ A m=some (ks,vs)) :
  (v=.map none∧ks=[]∧vs=[])∨∃ b es clock,v=.map (some b)∧w.heap[b]?=some (.map es clock)∧aI w D E ks (es.toList.map (·.key))∧aI w D E vs (es.toList.map (·.val)):=by
 unfold fZ at hm;split at hm
 ·simp only[v6,Prod.mk.injEq] at hm;obtain ⟨rfl,rfl⟩:=hm;obtain ⟨cs,q1,q2⟩:=hv;simp only[al] at q2;obtain ⟨b,es,ck,q3,q4,q5,q6⟩:=q2;exact .inr ⟨b,es,ck,by simpa[bB,I.isAgg,q3] using q1.symm,q4.1,q5,q6⟩
 ·rename_i n;split at hm
  case h_2=>cases hm
  rename_i ks' vs' hn;simp only[v6,Prod.mk.injEq] at hm;obtain ⟨rfl,rfl⟩:=hm;obtain ⟨cs,q1,q2⟩:=hv;simp only[al] at q2;obtain ⟨b,q3,q4⟩:=q2;obtain ⟨b',es,ck,k1,k2,k3,k4,k5,k6,k7⟩:=ab.map hn;rw[k1] at q3;cases q3;exact .inr ⟨_,es,ck,by simpa[bB,I.isAgg,q4] using q1.symm,k3,k5,k6⟩
 ·simp only[v6,Prod.mk.injEq] at hm;obtain ⟨rfl,rfl⟩:=hm;obtain ⟨cs,q1,q2⟩:=hv;simp only[al] at q2;exact .inl ⟨by simpa[bB,I.isAgg,q2.1] using q1.symm,rfl,rfl⟩
 ·cases hm
theorem oG{w:World}{D:aP}{E:aZ}{y:I}{v:Value}(hv:y.bR=true)(h:a8 w D E y v):∃ cs,bB y v cs∧al w D E y cs:=by
 cases y <;>simp[I.bR] at hv <;>exact h
theorem pL{w:World}{D:aP}{E:aZ} : ∀ {xs:List I} {vs:List Value} {j:Nat} {x:I},aI w D E xs vs→xs[j]?=some x→x.bR=true
 | [],_,j,x,_,h=>by simp at h
 |y::ys,vs,j,x,hr,h=>by
  simp only[aI] at hr;obtain ⟨v,rest,cs,rfl,J,U,ah⟩:=hr;cases j with
  |zero =>
   simp only[List.getElem?_cons_zero,v6] at h;subst h;cases y <;>simp only[al] at U <;>rfl
  |succ j=>exact pL (xs:=ys) ah (by simpa using h)
theorem ZN{x:I}{cs r:List Value}(h:mu x cs=some r):x.bR=true:=by
 cases x <;>first | rfl | (cases cs <;>simp[mu] at h)
theorem ZO{P:Program}{t:TypeId}{z:I}(hz:gj P t=some z)(hp:ug P t z=true):∃ zv,(∀ w,(zeroValue t).run P w=.ok zv w)∧z.bR=true∧∀ w D E,a8 w D E z zv:=by
 have hz0:=hz;obtain ⟨i,zv,hi,hzz,hzr⟩:=lB hz;have hv:z.bR=true:=by
  unfold gj at hz;split at hz
  ·split at hz
   ·rename_i hk;simp only[v6] at hz;subst hz;exact ZN hk
   ·cases hz
  ·cases hz
 refine ⟨zv,fun w=>by simp[zeroValue,typeInfo,hi,hzz],hv,fun w D E =>?_⟩;have J:=hzr w D E;simp only[ug,hi,Option.bind_some,hzz] at hp;refine jx (cs:=zv.cells.toList) ?_ J;cases zv <;>simp only[bB] at hp ⊢ <;>first
  |(rw[if_pos hp];simp[Value.cells])
  |(have hp':z.isAgg=false:=by simpa using hp
    rw[hp'];simp[Value.cells])
theorem V0{t kt et:TypeId}{m k:Operand}{m' k':aO}{ok:Bool}{ty:cF}{z v:I}{ks vs:List I}{there:Bool}(ho:o.op=.lookup t m k ok)(hu:c.P.underlying t=some (.map kt et))(hk:jR c.P kt=some ty)(hz:gj c.P et=some z)(hzp:ug c.P et z=true)
  (hm:br c.P 0 m=some m') (hk':br c.P 0 k=some k') (hmm:fZ A (ak A m')=some (ks,vs)) (ao:fp ty z (ak A k') ks vs=some (v,there)):dM c A o (if ok then .tuple [v,.bool there] else v) :=
 .same fun a w D E ab=>by
  have J:=bV ab hm;have U:=bV ab hk';obtain ⟨zv,hzrun,hzv,hzrv⟩:=ZO hz hzp;unfold fp at ao;split at ao
  case isFalse=>cases ao
  rename_i hkk;obtain ⟨rk,hrk⟩:=zz8.1 hkk;have hchk:=fun em=>u6 (P:=c.P) (w:=w) (em:=em) hk U hrk 9998;have bh:∀ u there,v.bR=true→a8 w D E v u→a8 w D E (if ok then .tuple [v,.bool there] else v) (if ok then Value.tuple #[u,.bool there] else u):=fun u there hval hu'=>by
   cases ok
   ·exact hu'
   ·obtain ⟨cs,q1,q2⟩:=oG hval hu';simp only[if_true,a8,aI];exact ⟨[u,.bool there],rfl,u,[.bool there],cs,rfl,q1,q2,.bool there,[],[.bool there],rfl,by simp[bB,I.isAgg],by simp[al],rfl⟩
  have main:∀ (es:Array MapEntry),aI w D E ks (es.toList.map (·.key))→aI w D E vs (es.toList.map (·.val))→∃ u,v.bR=true∧a8 w D E v u ∧
    ((∃ i,(Instr.findKey kt (a.eval k) es.toList).run c.P w=.ok (some (i,u)) w∧there=true)∨((Instr.findKey kt (a.eval k) es.toList).run c.P w=.ok none w∧u=zv∧there=false)):=fun es hks hvs=>by
   split at ao
   ·rename_i i hfi;simp only[t7,Prod.mk.injEq] at ao;obtain ⟨v',hv',rfl,rfl⟩:=ao;obtain ⟨q,q1,q2⟩:=o5 hk U hks hfi;rcases q2 with ⟨e,_⟩ | ⟨j,e,e1,e2,rfl⟩
    ·cases e
    ·simp only[Z1,v6] at e1;subst e1;obtain ⟨x,k1,k2⟩:=mj (j:=i) (v:=e.val) hvs (by simp only[zz9,e2,Z8]);rw[hv',v6] at k1;subst k1;exact ⟨e.val,pL hvs hv',k2,.inl ⟨_,q1,rfl⟩⟩
   ·rename_i hfi;simp only[v6,Prod.mk.injEq] at ao;obtain ⟨rfl,rfl⟩:=ao;obtain ⟨q,q1,q2⟩:=o5 hk U hks hfi;rcases q2 with ⟨_,rfl⟩ | ⟨j,e,e1,_⟩
    ·exact ⟨zv,hzv,hzrv w D E,.inr ⟨q1,rfl,rfl⟩⟩
    ·cases e1
   ·cases ao
  rcases WQ ab J hmm with ⟨e1,rfl,rfl⟩ | ⟨b,es,ck,e1,e2,e3,e4⟩
  ·obtain ⟨u,hval,hu',hrun⟩:=main #[] (by simp[aI]) (by simp[aI]);refine ⟨_,?_,bh u there hval hu'⟩;rcases hrun with ⟨i,q1,rfl⟩ | ⟨q1,rfl,rfl⟩ <;>
    simp only[execOp,ho,Instr.lookup,e1,Sem.run_bind,run_underlying hu,Result.andThen_ok,Sem.run_pure,hchk,q1,hzrun]
  ·obtain ⟨u,hval,hu',hrun⟩:=main es e3 e4;refine ⟨_,?_,bh u there hval hu'⟩;rcases hrun with ⟨i,q1,rfl⟩ | ⟨q1,rfl,rfl⟩ <;>
    simp only[execOp,ho,Instr.lookup,e1,Sem.run_bind,run_underlying hu,Result.andThen_ok,MapKept.run_getObj_map e2,Sem.run_pure,hchk,q1,hzrun]
theorem BF{y:Operand}{y':aO}(ho:o.op=.nilCheck y)(hy:br c.P 0 y=some y')(h:(∃ n p,ak A y'=.ptr n p)∨∃ z,ak A y'=.ref z):dM c A o (ak A y') :=
 .same fun a w D E ab=>by
  have J:=bV ab hy;rcases h with ⟨n,p,h⟩ | ⟨z,h⟩
  ·rw[h] at J ⊢;obtain ⟨b,aX,off,_,_,e⟩:=ln J;exact ⟨a.eval y,by simp only[execOp,ho,e,Sem.run_pure],J⟩
  ·rw[h] at J ⊢;obtain ⟨b,off,cs,e,_⟩:=pK J;exact ⟨a.eval y,by simp only[execOp,ho,e,Sem.run_pure],J⟩
theorem BR{w:World}{D:aP}{E:aZ}{x:I}{v:Value}{b:Bool}(h:iF x=some b)(hv:a8 w D E x v):∃ ad,v=.pointer ad∧ad.isNone=b:=by
 cases x <;>simp only[iF,v6] at h <;>try (cases h;done)
 case nilp =>
  subst h;obtain ⟨cs,q1,q2⟩:=hv;simp only[al] at q2;exact ⟨none,by simpa[bB,I.isAgg,q2] using q1.symm,rfl⟩
 case ptr n p =>
  subst h;obtain ⟨b,aX,off,_,_,e⟩:=ln hv;exact ⟨_,e,rfl⟩
 case ref z =>
  subst h;obtain ⟨b,off,cs,e,_⟩:=pK hv;exact ⟨_,e,rfl⟩
theorem V3{x y:Operand}{x' y':aO}{tys:Array TypeId}{v:I}(ho:o.op=.call { callee:=.builtin .max,args := #[x,y],argTypes:=tys })(hx:br c.P 0 x=some x')(hy:br c.P 0 y=some y')(h:qP (ak A x') (ak A y')=some v):dM c A o v :=
 .same fun a w D E ab=>by
  have J:=bV ab hx;have U:=bV ab hy;unfold qP at h;split at h
  case h_2=>cases h
  rename_i k n k2 m e1 e2;split at h
  case isFalse=>cases h
  rename_i hk;subst hk;simp only[v6] at h;subst h;rw[e1] at J;rw[e2] at U;obtain ⟨v1,r1⟩:=eW J;obtain ⟨v2,n2⟩:=eW U;refine ⟨.int k (if m>n then m else n),by simp[execOp,ho,resolve,invoke,builtin,Builtin.max_,Builtin.max2,v1,v2],jT ?_⟩;split
  ·exact n2
  ·exact r1
theorem V7{neg:Bool}{t yt e:TypeId}{y z:Operand}{y' z':aO}{b1 b2:Bool}(ho:o.op=.binOp (if neg then .neq else .eql) t y z yt)(hu:c.P.underlying t=some (.pointer e))(hy:br c.P 0 y=some y')(hz:br c.P 0 z=some z')
  (J:iF (ak A y')=some b1) (U:iF (ak A z')=some b2) (h:b1=true∨b2=true):dM c A o (.bool (if neg then !(b1&&b2) else (b1&&b2))) :=
 .same fun a w D E ab=>by
  obtain ⟨p,e1,k1⟩:=BR J (bV ab hy);obtain ⟨q,e2,k2⟩:=BR U (bV ab hz);have he:∀ d,(Op.equalIn (d+1) t (.pointer p) (.pointer q)).run c.P w=.ok (b1&&b2) w:=fun d=>by
   subst k1 k2;cases p <;>cases q <;>simp at h <;>simp[Op.equalIn,run_underlying hu]
  refine ⟨.bool (if neg then !(b1&&b2) else (b1&&b2)),?_,nS _⟩;cases neg <;>simp only[execOp,ho,e1,e2,if_true,Z2,if_false,Sem.run_bind,eqGuard] <;>simp[binOp,Op.equal,Op.maxDepth,he]
end
section
variable {c:cT} {A:ai} {o:Oper} {x:I}
theorem Mf{t:TypeId}{d:Nat}(ho:o.op=.makeMap t none)(af:o.dst=some d)(hn:d<c.n)(hf:A.o d=none):h0 c A o ((A.aS d (.bt [] [])).put d (.mref d)):=by
 intro a w D E ab;have J:=ab.W8 (.inl hn) hf;have U:=J.put (x:=.mref d) (v:=.map (some w.heap.size)) hn ⟨_,by simp[bB,I.isAgg];rfl,by
  simp only[al,if_true];exact ⟨w.heap.size,rfl,rfl⟩⟩
 exact ⟨w.alloc (.map #[] 0),.inl ⟨.map (some w.heap.size),by simp[execOp,ho,Instr.makeMap],D,_,by rw[af];exact U⟩⟩
theorem xw{w:World}{D:aP}{E:aZ} : ∀ {xs ys:List I} {us vs:List Value},aI w D E xs us→aI w D E ys vs→aI w D E (xs++ys) (us++vs)
 | [],ys,us,vs,h,k=>by simp only[aI] at h;subst h;simpa using k
 |x::xs,ys,us,vs,h,k=>by
  simp only[aI,Z7] at *;obtain ⟨v,rest,cs,rfl,J,U,ah⟩:=h;exact ⟨v,rest++vs,cs,rfl,J,U,xw ah k⟩
theorem EZ{w:World}{D:aP}{E:aZ} : ∀ {xs:List I} {us:List Value} {i:Nat} {y:I} {v:Value} {cs:List Value},aI w D E xs us→bB y v cs→al w D E y cs→aI w D E (xs.set i y) (us.set i v)
 | [],us,i,y,v,cs,h,_,_=>by simp only[aI] at h;subst h;simp[aI]
 |x::xs,us,i,y,v,cs,h,k1,k2=>by
  simp only[aI] at h;obtain ⟨u,rest,ds,rfl,J,U,ah⟩:=h;cases i with
  |zero=>simp only[List.set_cons_zero,aI];exact ⟨v,rest,cs,rfl,k1,k2,ah⟩
  |succ i=>simp only[List.set_cons_succ,aI];exact ⟨u,_,ds,rfl,J,U,EZ ah k1 k2⟩
theorem EY{w:World}{D:aP}{E:aZ}{y:I}{v:Value}{cs:List Value}(J:bB y v cs)(U:al w D E y cs):aI w D E [y] [v]:=by
 simp only[aI];exact ⟨v,[],cs,rfl,J,U,rfl⟩
theorem A5{ty:cF}{k:I} : ∀ {ks:List I} {i j:Nat},eE ty k ks i=some (some j)→∃ x,ks[j-i]?=some x∧i≤j∧b5 ty k x=some true
 | [],i,j,h=>by simp[eE] at h
 |x::xs,i,j,h=>by
  simp only[eE] at h;split at h
  ·rename_i hb;simp only[v6] at h;subst h;exact ⟨x,by simp,Z3 _,hb⟩
  ·obtain ⟨y,J,U,ah⟩:=A5 h;refine ⟨y,?_,by omega,ah⟩;rw[show j-i=(j-(i+1))+1 from by omega];simpa using J
  ·cases h
theorem AB{t kt et:TypeId}{m k v:Operand}{m' k' v':aO}{ty:cF}{n:Nat}{ks vs ks' vs':List I}(ho:o.op=.mapUpdate t m k v∨o.op=.insert t m k v)(hu:c.P.underlying t=some (.map kt et))(hk:jR c.P kt=some ty)
  (hm:br c.P 0 m=some m') (hk':br c.P 0 k=some k') (hv':br c.P et v=some v') (hmm:ak A m'=.mref n) (hn:A.o n=some (.bt ks vs)) (ao:ft ty (ak A k') (ak A v') ks vs=some (ks',vs')) (af:o.dst=none) :
  h0 c A o (A.aS n (.bt ks' vs')):=by
 intro a w D E ab;have J:=bV ab hm;have U:=bV ab hk';have ah:=bV ab hv';rw[hmm] at J;unfold ft at ao;split at ao
 case isFalse=>cases ao
 rename_i hc;obtain ⟨hkk,hkv,hvv⟩:=hc;obtain ⟨rk,hrk⟩:=zz8.1 hkk;have hchk:=fun em=>u6 (P:=c.P) (w:=w) (em:=em) hk U hrk 9998;obtain ⟨kcs,kp1,kp2⟩:=oG hkv U;obtain ⟨vcs,vp1,vp2⟩:=oG hvv ah;obtain ⟨b,es,ck,k1,k2,k3,k4,k5,k6,k7⟩:=ab.map hn;have hmv:a.eval m=.map (some b):=by
  obtain ⟨cs,q1,q2⟩:=J;simp only[al] at q2;obtain ⟨b',q3,q4⟩:=q2;rw[k1] at q3;cases q3;simpa[bB,I.isAgg,q4] using q1.symm
 -- the new entries
 have step:∀ (es':Array MapEntry) (ck':Nat),(Instr.mapUpdate t (.map (some b)) (a.eval k) (a.eval v)).run c.P w=.ok () (w.putObj b (.map es' ck'))→oA es' ck'→aI w D E ks' (es'.toList.map (·.key))→aI w D E vs' (es'.toList.map (·.val)) →
   ∃ w',((∃ u,(execOp a.eval o).run c.P w=.ok (.value u) w'∧bX c (A.aS n (.bt ks' vs')) (a.put o.dst u) w')∨((execOp a.eval o).run c.P w=.ok .skip w'∧bX c (A.aS n (.bt ks' vs')) (a.put o.dst undef) w')):=fun es' ck' hrun hst hks hvs=>by
  refine ⟨w.putObj b (.map es' ck'),.inr ⟨?_,?_⟩⟩
  ·rcases ho with ho | ho <;>simp only[execOp,ho,hmv,Sem.run_bind,hrun,Result.andThen_ok,Sem.run_pure]
  ·rw[af];have:=ab.xF (o':=.map es' ck') (x:=.bt ks' vs') k1 rfl rfl k3 rfl (fun q=>by simp) k2 (fun hl' bK hno=>⟨b,es',ck',k1,k2,bK,hst,aI.later hl' _ _ hks,aI.later hl' _ _ hvs,hno⟩);exact ⟨D,E,this⟩
 split at ao
 ·rename_i i hfi;simp only[v6,Prod.mk.injEq] at ao;obtain ⟨rfl,rfl⟩:=ao;obtain ⟨q,q1,q2⟩:=o5 hk U k5 hfi;rcases q2 with ⟨e,_⟩ | ⟨j,e,e1,e2,rfl⟩
  ·cases e
  simp only[Z1,v6] at e1;subst e1;obtain ⟨y,y1,_,y2⟩:=A5 hfi;simp only[Nat.sub_zero] at y1;obtain ⟨y',y3,y4⟩:=mj (j:=i) (v:=e.key) k5 (by simp only[zz9,e2,Z8]);rw[y1,v6] at y3;subst y3;obtain ⟨_,kk2,kk3⟩:=Wt hk y2 U y4;have hes:es[i]?=some e:=by rw[←zy8];exact e2
  have hlen:i<es.size:=(zz1.1 hes).1;refine step (es.modify i fun e => { e with key:=a.eval k,val:=a.eval v }) ck ?_ ?_ ?_ ?_
  ·have hsb:Instr.sameBits 10000 (((es[i]?).map (·.key)).getD (a.eval k)) (a.eval k)=true:=by
    rw[hes];simp only[Z8,Option.getD_some];rw[←kk2];rw[←kk2] at kk3;exact kk3
   simp only[Instr.mapUpdate,Sem.run_bind,run_underlying hu,Result.andThen_ok,MapKept.run_getObj_map k3,hchk,q1,Z1,Instr.keyThatStays,hsb,if_true,Sem.run_pure,MapKept.run_setObj_map _ k3];rfl
  all_goals
   have em:(es.modify i fun e => { e with key:=a.eval k,val:=a.eval v }).toList=es.toList.set i { e with key:=a.eval k,val:=a.eval v } :=by
    rw[Array.toList_modify];apply List.ext_getElem?;intro j;rw[List.getElem?_modify,List.getElem?_set];by_cases hij:i=j
    ·subst hij;have hge:es[i]'hlen=e:=(zz1.1 hes).2;simp[hlen,hge]
    ·simp[hij]
  ·refine ⟨fun x hx =>?_,?_⟩
   ·rw[em] at hx;rcases List.mem_or_eq_of_mem_set hx with hx | rfl
    ·exact k4.1 x hx
    ·exact k4.1 e (List.mem_of_getElem? e2)
   ·rw[em];have:(es.toList.set i { e with key:=a.eval k,val:=a.eval v }).map (·.born)=es.toList.map (·.born):=by
     rw[List.map_set];apply List.ext_getElem?;intro j;rw[List.getElem?_set];split
     ·rename_i hij;subst hij;simp[e2];exact hlen
     ·rfl
    rw[this];exact k4.2
  ·rw[em,List.map_set];have:(es.toList.map (·.key)).set i (a.eval k)=es.toList.map (·.key):=by
    apply List.ext_getElem?;intro j;rw[List.getElem?_set];split
    ·rename_i hij;subst hij;simp[e2,kk2];exact hlen
    ·rfl
   simp only[this];exact k5
  ·rw[em,List.map_set];exact EZ k6 vp1 vp2
 ·rename_i hfi;simp only[v6,Prod.mk.injEq] at ao;obtain ⟨rfl,rfl⟩:=ao;obtain ⟨q,q1,q2⟩:=o5 hk U k5 hfi;rcases q2 with ⟨_,rfl⟩ | ⟨j,e,e1,_⟩
  case inr=>cases e1
  refine step (es.push { key:=a.eval k,val:=a.eval v,born:=ck }) (ck+1) ?_ ⟨fun x hx =>?_,?_⟩ ?_ ?_
  ·simp only[Instr.mapUpdate,Sem.run_bind,run_underlying hu,Result.andThen_ok,MapKept.run_getObj_map k3,hchk,q1,MapKept.run_setObj_map _ k3];rfl
  ·simp only[Array.toList_push,zy7,zy3] at hx;rcases hx with hx | rfl
   ·have:=k4.1 x hx;omega
   ·simp
  ·simp only[Array.toList_push,zz2,Z4,zy6];refine List.nodup_append.2 ⟨k4.2,by simp,fun x hx y hy =>?_⟩;simp only[zy3] at hy;subst hy;obtain ⟨e,he,rfl⟩:=zy0.1 hx;exact Nat.ne_of_lt (k4.1 e he)
  ·simp only[Array.toList_push,zz2,Z4,zy6];exact xw k5 (EY kp1 kp2)
  ·simp only[Array.toList_push,zz2,Z4,zy6];exact xw k6 (EY vp1 vp2)
 ·cases ao
theorem td{α β:Type}(f:α→β):∀ (l:List α) (i:Nat),(l.eraseIdx i).map f=(l.map f).eraseIdx i
 | [],_=>rfl
 |x::xs,0=>rfl
 |x::xs,i+1=>by simp only[List.eraseIdx_cons_succ,Z4,td f xs i]
theorem xz{w:World}{D:aP}{E:aZ} : ∀ {xs:List I} {us:List Value} (i:Nat),aI w D E xs us→aI w D E (xs.eraseIdx i) (us.eraseIdx i)
 | [],us,i,h=>by simp only[aI] at h;subst h;simp[aI]
 |x::xs,us,i,h=>by
  simp only[aI] at h;obtain ⟨v,rest,cs,rfl,J,U,ah⟩:=h;cases i with
  |zero=>exact ah
  |succ i=>simp only[List.eraseIdx_cons_succ,aI];exact ⟨v,_,cs,rfl,J,U,xz i ah⟩
theorem Me{t kt et t':TypeId}{m k:Operand}{m' k':aO}{ty:cF}{n:Nat}{ks vs ks' vs':List I}(ho:o.op=.call { callee:=.builtin .delete,args := #[m,k],argTypes := #[t,t'] })(hu:c.P.underlying t=some (.map kt et))(hk:jR c.P kt=some ty)
  (hm:br c.P 0 m=some m') (hk':br c.P 0 k=some k') (hmm:ak A m'=.mref n) (hn:A.o n=some (.bt ks vs)) (ao:lV ty (ak A k') ks vs=some (ks',vs')) (af:o.dst=none) :
  h0 c A o (A.aS n (.bt ks' vs')):=by
 intro a w D E ab;have J:=bV ab hm;have U:=bV ab hk';rw[hmm] at J;unfold lV at ao;split at ao
 case isFalse=>cases ao
 rename_i hkk;obtain ⟨rk,hrk⟩:=zz8.1 hkk;have hchk:=fun em=>u6 (P:=c.P) (w:=w) (em:=em) hk U hrk 9998;obtain ⟨b,es,ck,k1,k2,k3,k4,k5,k6,k7⟩:=ab.map hn;have hmv:a.eval m=.map (some b):=by
  obtain ⟨cs,q1,q2⟩:=J;simp only[al] at q2;obtain ⟨b',q3,q4⟩:=q2;rw[k1] at q3;cases q3;simpa[bB,I.isAgg,q4] using q1.symm
 have step:∀ (es':Array MapEntry),(Builtin.delete_ #[t,t'] o.type #[.map (some b),a.eval k]).run c.P w=.ok (.tuple #[]) (w.putObj b (.map es' ck))→oA es' ck→aI w D E ks' (es'.toList.map (·.key))→aI w D E vs' (es'.toList.map (·.val)) →
   ∃ w',((∃ u,(execOp a.eval o).run c.P w=.ok (.value u) w'∧bX c (A.aS n (.bt ks' vs')) (a.put o.dst u) w')∨((execOp a.eval o).run c.P w=.ok .skip w'∧bX c (A.aS n (.bt ks' vs')) (a.put o.dst undef) w')):=fun es' hrun hst hks hvs=>by
  refine ⟨w.putObj b (.map es' ck),.inl ⟨.tuple #[],?_,?_⟩⟩
  ·simp[execOp,ho,resolve,invoke,builtin,hmv,hrun]
  ·rw[af];have:=ab.xF (o':=.map es' ck) (x:=.bt ks' vs') k1 rfl rfl k3 rfl (fun q=>by simp) k2 (fun hl' bK hno=>⟨b,es',ck,k1,k2,bK,hst,aI.later hl' _ _ hks,aI.later hl' _ _ hvs,hno⟩);exact ⟨D,E,this⟩
 split at ao
 ·rename_i i hfi;simp only[v6,Prod.mk.injEq] at ao;obtain ⟨rfl,rfl⟩:=ao;obtain ⟨q,q1,q2⟩:=o5 hk U k5 hfi;rcases q2 with ⟨e,_⟩ | ⟨j,e,e1,e2,rfl⟩
  ·cases e
  simp only[Z1,v6] at e1;subst e1;have hes:es[i]?=some e:=by rw[←zy8];exact e2
  have hlen:i<es.size:=(zz1.1 hes).1;have em:(es.eraseIdxIfInBounds i).toList=es.toList.eraseIdx i:=by
   simp[Array.eraseIdxIfInBounds,hlen]
  refine step (es.eraseIdxIfInBounds i) ?_ ⟨fun x hx =>?_,?_⟩ ?_ ?_
  ·simp[Builtin.delete_,run_underlying hu,MapKept.run_getObj_map k3,hchk,q1,MapKept.run_setObj_map _ k3];rfl
  ·rw[em] at hx;exact k4.1 x (List.mem_of_mem_eraseIdx hx)
  ·rw[em,td];exact k4.2.sublist (List.eraseIdx_sublist _ _)
  ·rw[em,td];exact xz i k5
  ·rw[em,td];exact xz i k6
 ·rename_i hfi;simp only[v6,Prod.mk.injEq] at ao;obtain ⟨rfl,rfl⟩:=ao;obtain ⟨q,q1,q2⟩:=o5 hk U k5 hfi;rcases q2 with ⟨_,rfl⟩ | ⟨j,e,e1,_⟩
  case inr=>cases e1
  refine step es ?_ k4 k5 k6;simp[Builtin.delete_,run_underlying hu,MapKept.run_getObj_map k3,hchk,q1,MapKept.run_setObj_map _ k3];rfl
 ·cases ao
theorem Mh{t kt et:TypeId}{y:Operand}{y':aO}{ks vs:List I}{d:Nat}(ho:o.op=.range t y)(hu:c.P.underlying t=some (.map kt et))(hy:br c.P 0 y=some y')(h:ak A y'=.dm ks vs)(af:o.dst=some d)(hn:d<c.n)(hf:A.o d=none) :
  h0 c A o ((A.aS d (.it ks vs (List.range ks.length) none)).put d (.dq d)):=by
 intro a w D E ab;have J:=bV ab hy;rw[h] at J;obtain ⟨cs,q1,q2⟩:=J;simp only[al] at q2;obtain ⟨b,es,ck,q3,q4,q5,q6⟩:=q2;have hv:a.eval y=.map (some b):=by simpa[bB,I.isAgg,q3] using q1.symm
 have U:=ab.W7 (.inl hn) hf q4 q5 q6;have ah:=U.put (x:=.dq d) (v:=.pointer (some ⟨w.heap.size,0,none⟩)) hn ⟨_,by simp[bB,I.isAgg];rfl,by
  simp only[al,if_true];exact ⟨w.heap.size,rfl,rfl⟩⟩
 refine ⟨w.alloc (.mapIter (some b) ck #[] ck),.inl ⟨.pointer (some ⟨w.heap.size,0,none⟩),?_,D,_,by rw[af];exact ah⟩⟩;simp only[execOp,ho,hv,Sem.run_bind,run_range_map w t kt et b es ck hu q4.1,Result.andThen_ok,Sem.run_pure]
theorem B6{es:Array MapEntry}{bj:Array Nat}{i:Nat} : i∈nP es bj↔∃ e,es[i]?=some e∧bj.contains e.born=false:=by
 unfold nP;simp only[zx2,zw0];constructor
 ·rintro ⟨J,U⟩;rw[zx8 J] at U ⊢;exact ⟨_,rfl,by simpa using U⟩
 ·rintro ⟨e,J,U⟩;exact ⟨(zz1.1 J).1,by rw[J];simpa using U⟩
theorem Zu{es:Array MapEntry}{ck:Nat}(hst:oA es ck){i j:Nat}{e f:MapEntry}(hi:es[i]?=some e)(hj:es[j]?=some f)(h:e.born=f.born):i=j:=by
 have hn:=hst.2;rw[←zy8] at hi hj;have J:(es.toList.map (·.born))[i]?=some e.born:=by rw[zz9,hi];rfl
 have U:(es.toList.map (·.born))[j]?=some e.born:=by rw[zz9,hj,h];rfl
 have hil:i<(es.toList.map (·.born)).length:=(Z5.1 J).1;have hjl:j<(es.toList.map (·.born)).length:=(Z5.1 U).1;exact (List.getElem?_inj hil hn).1 (J.trans U.symm)
theorem WE{es:Array MapEntry}{bj:Array Nat}{ck i:Nat}{e:MapEntry}(hst:oA es ck)(hi:es[i]?=some e):nP es (bj.push e.born)=(nP es bj).filter (· != i):=by
 unfold nP;rw[List.filter_filter];refine List.filter_congr fun j hj =>?_;have hjl:j<es.size:=by simpa using hj
 rw[zx8 hjl];simp only[Array.contains_push];by_cases hij:j=i
 ·subst hij;rw[zx8 hjl,v6] at hi;simp[hi]
 ·have:(es[j].born==e.born)=false:=by
   simp only[beq_eq_false_iff_ne,ne_eq];exact fun h=>hij (Zu hst (zx8 hjl) hi h)
  have U:(j != i)=true:=by simpa using hij
  simp[this,U]
theorem Xa{y:Operand}{y':aO}{ks vs:List I}{left:List Nat}{cur:Option Nat}{n:Nat}(ho:o.op=.next y false)(hy:br c.P 0 y=some y')(h:ak A y'=.dq n)(hn:A.o n=some (.it ks vs left cur))(hdn:∀ k,o.dst=some k→k<c.n){a:Act}{w:World}{D:aP}{E:aZ}(ab:aV c A a w D E) :
  ∃ w' v,(execOp a.eval o).run c.P w=.ok (.value v) w'∧((left=[]∧bX c (A.aT o.dst (.tuple [.bool false])) (a.put o.dst v) w') ∨
   ∃ i k x,i∈left∧ks[i]?=some k∧vs[i]?=some x∧bX c ((A.aS n (.it ks vs (left.filter (· != i)) (some i))).aT o.dst (.tuple [.bool true,k,x])) (a.put o.dst v) w'):=by
 have J:=bV ab hy;rw[h] at J;obtain ⟨cs,q1,q2⟩:=J;simp only[al] at q2;obtain ⟨r,q3,q4⟩:=q2;have hv:a.eval y=.pointer (some ⟨r,0,none⟩):=by simpa[bB,I.isAgg,q4] using q1.symm
 have hob:=ab.bO n;rw[hn] at hob;obtain ⟨r',b,es,ck,since,bj,last,k1,k2,k3,k4,k5,k6,k7,k8,k9,k9',k10⟩:=hob;rw[k1] at q3;cases q3;rcases run_next_at (P:=c.P) w o.type r b since last bj es ck k3 k4.1 k7 k8.1 with ⟨aY,hrun⟩ | ⟨e,he,w1,hal,hrun⟩
 ·refine ⟨w,.tuple #[.bool false],by simp only[execOp,ho,hv,Sem.run_bind,hrun,Result.andThen_ok,Sem.run_pure],.inl ⟨?_,D,E,ab.aT hdn ?_⟩⟩
  ·rw[k9];refine List.eq_nil_iff_forall_not_mem.2 fun i hi =>?_;obtain ⟨e,J,U⟩:=B6.1 hi;have hm:e∈leftOf es bj:=by
    unfold leftOf;simp only[Array.mem_filter];exact ⟨Array.mem_of_getElem? J,by simpa using U⟩
   rw[Array.eq_empty_of_size_eq_zero aY] at hm;simp at hm
  ·simp only[a8,aI];exact ⟨[.bool false],rfl,.bool false,[],[.bool false],rfl,by simp[bB,I.isAgg],by simp[al],rfl⟩
 ·have hmem:e∈es.toList∧bj.contains e.born=false:=by
   unfold leftOf at he;simp only[Array.toList_filter,zx2] at he;exact ⟨he.1,by simpa using he.2⟩
  obtain ⟨i,hi⟩:=List.getElem?_of_mem hmem.1;have hie:es[i]?=some e:=by rw[←zy8];exact hi
  obtain ⟨k,hk1,hk2⟩:=mj (j:=i) (v:=e.key) k5 (by simp only[zz9,hi,Z8]);obtain ⟨x,hx1,hx2⟩:=mj (j:=i) (v:=e.val) k6 (by simp only[zz9,hi,Z8]);have hsw:aV c A a w1 D E:=by
   rcases hal with rfl | rfl
   ·exact ab
   ·exact ab.grow (w':=w.drew) (D':=D) ⟨rfl,rfl,rfl,Z3 _,fun _ _=>rfl⟩ (fun _ _ h=>h) (fun _ _ h _=>h) (fun b o af=>ab.aQ b o af)
  have hw1:w1.heap=w.heap:=by rcases hal with rfl | rfl <;>rfl
  have k3':w1.heap[r]?=some (.mapIter (some b) since bj last):=by rw[hw1];exact k3
  have hset:=hsw.xF (x:=.it ks vs (left.filter (· != i)) (some i)) (o':=.mapIter (some b) since (bj.push e.born) ck) k1 rfl rfl k3' rfl (fun q=>by simp) k2
   (fun ao bK hno=>by
    have hm:nT w1 D b es ck:=⟨by rw[hw1];exact k4.1,k4.2.1,k4.2.2⟩
    have hob:=hsw.bO n;rw[hn] at hob;refine ⟨r,b,es,ck,since,bj.push e.born,ck,k1,k2,bK,hm.later ao,aI.later ao _ _ ?_,aI.later ao _ _ ?_,k7,?_,?_,fun j hj =>?_,hno⟩
    ·obtain ⟨n2,b2,es2,ck2,si2,se2,la2,g1,g2,g3,g4,g5,g6,_⟩:=hob;rw[k1] at g1;cases g1;rw[k3'] at g3;cases g3;have:=g4.1;rw[hw1,k4.1] at this;cases this;exact g5
    ·obtain ⟨n2,b2,es2,ck2,si2,se2,la2,g1,g2,g3,g4,g5,g6,_⟩:=hob;rw[k1] at g1;cases g1;rw[k3'] at g3;cases g3;have:=g4.1;rw[hw1,k4.1] at this;cases this;exact g6
    ·exact ⟨k8.2,k8.2⟩
    ·rw[k9,WE k4.2.2 hie]
    ·cases hj;exact ⟨e,hie,by simp,rfl⟩)
  have hset':aV c (A.aS n (.it ks vs (left.filter (· != i)) (some i))) a (ChangeMaps.setBlock w1 r (.mapIter (some b) since (bj.push e.born) ck)) D E:=hset;refine ⟨_,.tuple #[.bool true,e.key,e.val],by simp only[execOp,ho,hv,Sem.run_bind,hrun,Result.andThen_ok,Sem.run_pure],.inr ⟨i,k,x,?_,hk1,hx1,D,E,hset'.aT hdn ?_⟩⟩
  ·rw[k9];exact B6.2 ⟨e,hie,hmem.2⟩
  ·have hob2:=hset'.bO n;simp only[ai.aS,if_true] at hob2;obtain ⟨n2,b2,es2,ck2,si2,se2,la2,g1,g2,g3,g4,g5,g6,_⟩:=hob2;rw[k1] at g1;cases g1;have hr2:(ChangeMaps.setBlock w1 r (.mapIter (some b) since (bj.push e.born) ck)).heap[r]?=some (.mapIter (some b) since (bj.push e.born) ck):=World.putObj_heap_same (w:=w1) (fG k3');rw[hr2] at g3;cases g3;have hb2:(ChangeMaps.setBlock w1 r (.mapIter (some b) since (bj.push e.born) ck)).heap[b]?=some (.map es ck):=by
    have:b≠r:=fun e=>by rw[e] at k4;rw[k4.1] at k3;cases k3
    refine (World.putObj_heap_other (w:=w1) this).trans ?_;rw[hw1];exact k4.1
   have:=g4.1;rw[hb2] at this;cases this;obtain ⟨kk,a1,a2⟩:=mj (j:=i) (v:=e.key) g5 (by simp only[zz9,hi,Z8]);rw[hk1] at a1;cases a1;obtain ⟨xx,b1,b2⟩:=mj (j:=i) (v:=e.val) g6 (by simp only[zz9,hi,Z8]);rw[hx1] at b1;cases b1;obtain ⟨c1,c2,c3⟩:=oG (pL k5 hk1) a2;obtain ⟨d1,d2,d3⟩:=oG (pL k6 hx1) b2;simp only[a8,aI];exact ⟨[.bool true,e.key,e.val],rfl,.bool true,_,[.bool true],rfl,by simp[bB,I.isAgg],by simp[al],e.key,_,c1,rfl,c2,c3,e.val,[],d1,rfl,d2,d3,rfl⟩
theorem VN{y:Operand}{y':aO}{ks vs:List I}{left:List Nat}{i n:Nat}{k x:I}(ho:o.op=.entry y)(hy:br c.P 0 y=some y')(h:ak A y'=.dq n)(hn:A.o n=some (.it ks vs left (some i)))(hk:ks[i]?=some k)(hx:vs[i]?=some x):dM c A o (.tuple [k,x]) :=
 .same fun a w D E ab=>by
  have J:=bV ab hy;rw[h] at J;obtain ⟨cs,q1,q2⟩:=J;simp only[al] at q2;obtain ⟨r,q3,q4⟩:=q2;have hv:a.eval y=.pointer (some ⟨r,0,none⟩):=by simpa[bB,I.isAgg,q4] using q1.symm
  have hob:=ab.bO n;rw[hn] at hob;obtain ⟨r',b,es,ck,since,bj,last,k1,k2,k3,k4,k5,k6,k7,k8,k9,k9',k10⟩:=hob;rw[k1] at q3;cases q3;obtain ⟨e,e1,e2,rfl⟩:=k9' i rfl;have hi:es.toList[i]?=some e:=by rw[zy8];exact e1
  obtain ⟨kk,a1,a2⟩:=mj (j:=i) (v:=e.key) k5 (by simp only[zz9,hi,Z8]);rw[hk] at a1;cases a1;obtain ⟨xx,b1,b2⟩:=mj (j:=i) (v:=e.val) k6 (by simp only[zz9,hi,Z8]);rw[hx] at b1;cases b1;obtain ⟨c1,c2,c3⟩:=oG (pL k5 hk) a2;obtain ⟨d1,d2,d3⟩:=oG (pL k6 hx) b2;have hf:es.find? (·.born==e.born)=some e:=by rw[←Array.find?_toList];exact find_born e es.toList k4.2.2.2 (List.mem_of_getElem? hi)
  refine ⟨.tuple #[e.key,e.val],?_,?_⟩
  ·have hr:(Instr.entry (.pointer (some ⟨r,0,none⟩))).run c.P w=.ok (.tuple #[e.key,e.val]) w:=by
    simp only[Instr.entry,getObj,Sem.run_bind,Sem.run,k3,k4.1,Result.andThen,e2,bne_self_eq_false,Z2,if_false,hf];rfl
   simp only[execOp,ho,hv,Sem.run_bind,hr,Result.andThen_ok,Sem.run_pure]
  ·simp only[a8,aI];exact ⟨[e.key,e.val],rfl,e.key,_,c1,rfl,c2,c3,e.val,[],d1,rfl,d2,d3,rfl⟩
theorem Ep{w:World}{D:aP}{E:aZ}{z:I}{v:Value}(h:al w D E z [v]):∀ n:Nat,aM w D E (List.replicate n z) (List.replicate n v)
 |0=>by simp[aM]
 |n+1=>by simp only[List.replicate_succ,aM];exact ⟨[v],_,rfl,h,Ep h n⟩
theorem Mg{t e:TypeId}{l l':Operand}{n':aO}{z:I}{n d:Nat}{k:IntKind}(ho:o.op=.makeSlice t l l')(hll:l'=l)(hu:c.P.underlying t=some (.slice e))(ao:br c.P 0 l=some n')(h:ak A n'=.int k n)(hz:gj c.P e=some z)(hz1:z.size=1)
  (hc1:c.P.cellsOf e=1) (hby:n*c.P.bytesOf e≤281474976710656) (hmax:n≤maxLen) (af:o.dst=some d) (hn:d<c.n) (hf:A.o d=none):h0 c A o ((A.aS d (.box (.agg (List.replicate n z)))).put d (.view d [] 1 0 n)):=by
 subst hll;intro a w D E ab;have J:=bV ab ao;rw[h] at J;obtain ⟨e1,_⟩:=eW J;obtain ⟨i,zv,hi,hzz,hzr⟩:=lB hz;have hzc:=al.length _ _ (hzr w D E);rw[hz1] at hzc;obtain ⟨u,hu1⟩:∃ u,zv.cells = #[u]:=by
  have:zv.cells.size=1:=by simpa using hzc
  obtain ⟨u,hu⟩:=Array.size_eq_one_iff.1 this;exact ⟨u,hu⟩
 have hsz:i.size=1:=by have:=hc1;simp only[Program.cellsOf,hi,Z8,Option.getD_some] at this;exact this
 have hbytes:(i.bytes:Int)*(n:Int)≤281474976710656:=by
  have:c.P.bytesOf e=i.bytes:=by simp[Program.bytesOf,hi]
  rw[this] at hby;have U:((i.bytes*n:Nat):Int)≤281474976710656:=by rw[Nat.mul_comm] at hby;omega
  rwa [Int.natCast_mul] at U
 have hrun:=run_make (P:=c.P) w t e i zv hu hi hzz k k n n (by omega) (Int.le_refl _) hbytes (by have h9:=hmax;unfold maxLen at h9;omega);simp only[Int.toNat_natCast,hsz,Nat.mul_one] at hrun;have hmc:(madeCells zv.cells n).toList=List.replicate n u:=by
  rw[hu1];simp only[madeCells];apply List.ext_getElem?;intro j;simp[List.getElem?_replicate];split <;>simp_all[Nat.mod_one]
 have hcells:al w D E (.agg (List.replicate n z)) (madeCells zv.cells n).toList:=by
  rw[hmc];simp only[al];refine Ep ?_ n;have:=hzr w D E;rw[hu1] at this;simpa using this
 have U:=ab.qQ (T:=e) (.inl hn) hf hcells;have ah:=U.put (x:=.view d [] 1 0 n) (v:=.slice (some ⟨w.heap.size,0,none⟩) n n) hn ⟨_,by simp[bB,I.isAgg];rfl,by
  simp only[al,if_true];refine ⟨w.heap.size,_,0,I.cV (List.replicate n z),rfl,by simp[cO.off],by simp[I.aX,cO.part],by simp[I.dz],by simpa[I.dz] using hmax,by simp[I.dz],fun s ab =>?_⟩;rw[I.dz] at ab;obtain ⟨y,hy,rfl⟩:=zy0.1 ab;rw[I.lu,(List.mem_replicate.1 hy).2,hz1]⟩
 refine ⟨_,.inl ⟨_,?_,D,_,by rw[af];exact ah⟩⟩;simp only[execOp,ho,e1,Sem.run_bind,hrun,Result.andThen_ok,Sem.run_pure]
end
end Go.Abs
namespace Go.Abs
open Go Go.RowKit
mutual
/-- Values that lead to no memory. -/
def I.flat:I→Bool
 | .agg fs | .tuple fs=>I.nI fs
 | .bool _ | .int _ _ | .bP _ | .nilp | .dC | .ea | .any | .raw _ | .undef | .dv=>true
 |_=>false
def I.nI:List I→Bool
 | []=>true
 |x::xs=>x.flat&&I.nI xs
end
mutual
theorem al.flat{w w':World}{D D':aP}{E E':aZ} : ∀ (x:I) (cs:List Value),x.flat=true→al w D E x cs→al w' D' E' x cs
 | .agg fs,cs,hf,hr=>by simp only[al,I.flat] at *;exact aM.flat fs cs hf hr
 | .bool b,cs,_,hr=>by simpa only[al] using hr
 | .int k n,cs,_,hr=>by simpa only[al] using hr
 | .bP s,cs,_,hr=>by simpa only[al] using hr
 | .nilp,cs,_,hr=>by simpa only[al] using hr
 | .dC,cs,_,hr=>by simpa only[al] using hr
 | .ea,cs,_,hr | .any,cs,_,hr=>by simpa only[al] using hr
 | .raw _,cs,_,hr=>by simpa only[al] using hr
 | .undef,_,_,hr=>by simp only[al] at hr
 | .dv,_,_,hr=>by simp only[al] at hr
 | .tuple _,_,_,hr=>by simp only[al] at hr
 | .nils _,_,hf,_ | .c0 _,_,hf,_ | .slice _ _,_,hf,_ | .ref _,_,hf,_ | .func _ _,_,hf,_ | .iface _ _,_,hf,_ | .ptr _ _,_,hf,_ | .own _ _,_,hf,_ | .view _ _ _ _ _,_,hf,_ | .mref _,_,hf,_ | .dq _,_,hf,_ | .dm _ _,_,hf,_=>by simp[I.flat] at hf
theorem aM.flat{w w':World}{D D':aP}{E E':aZ} : ∀ (xs:List I) (cs:List Value),I.nI xs=true→aM w D E xs cs→aM w' D' E' xs cs
 | [],cs,_,hr=>by simpa only[aM] using hr
 |x::xs,cs,hf,hr=>by
  simp only[aM,I.nI,t8] at *;obtain ⟨c1,c2,J,U,ah⟩:=hr;exact ⟨c1,c2,J,al.flat x c1 hf.1 U,aM.flat xs c2 hf.2 ah⟩
end
theorem aI.flat{w w':World}{D D':aP}{E E':aZ} : ∀ (xs:List I) (vs:List Value),I.nI xs=true→aI w D E xs vs→aI w' D' E' xs vs
 | [],vs,_,hr=>by simpa only[aI] using hr
 |x::xs,vs,hf,hr=>by
  simp only[aI,I.nI,t8] at *;obtain ⟨v,rest,cs,J,U,ah,au⟩:=hr;exact ⟨v,rest,cs,J,U,al.flat x cs hf.1 ah,aI.flat xs rest hf.2 au⟩
theorem a8.flat{w w':World}{D D':aP}{E E':aZ}{x:I}{v:Value}(hf:x.flat=true)(hr:a8 w D E x v):a8 w' D' E' x v:=by
 cases x <;>simp only[a8] at * <;>first
  |exact hr
  |(obtain ⟨vs,J,U⟩:=hr;exact ⟨vs,J,aI.flat _ _ (by simpa[I.flat] using hf) U⟩)
  |(obtain ⟨cs,J,U⟩:=hr;exact ⟨cs,J,al.flat _ _ hf U⟩)
def dh:aZ:=fun _=>none
def bd(P:Program)(f:FuncId)(args:List I)(r:I):Prop :=
 e9 P f=true∧∀ (w:World) (D:aP) (vs:List Value),gP P w (fun _=>False)→(∀ b o,D b o→b<w.heap.size)→aI w D dh args vs →
  Calls P f vs.toArray w fun e w'=>∃ v D',e=.returned v∧a8 w' D' dh r v∧Below w.heap.size w w'∧(∀ b o,D' b o→b<w'.heap.size)∧∀ b o,D' b o→b<w.heap.size→D b o
def cS(P:Program)(f:FuncId)(args:List I)(os:List (Nat×aq))(post:cG):Prop :=
 e9 P f=true∧nv (Calls P f) (fun w _ E=>gP P w (cI E)) args os post
def cJ(p:Nat→Bool):List (Nat×aq)→Prop
 | []=>True
 |(_,v)::r=>v.only p=true∧cJ p r
def eL(ns:List Nat)(os:List (Nat×aq)):List (Nat×aq):=os.filter fun q => !ns.contains q.1
def lL(ns:List Nat)(ts:List (Nat×I)):List (Nat×I):=ts.map fun q=>(q.1,if q.2.only (fun n => !ns.contains n) then q.2 else .dv)
def mO(ns:List Nat)(os:List (Nat×aq)):List (Nat×aq):=os.filter fun q=>ns.contains q.1
def iI(ρ:List (Nat×Nat))(os:List (Nat×aq)):List Nat:=os.map fun q=>bI ρ q.1
def gR(aN:Bool)(A0:ai)(ρ:List (Nat×Nat))(os:List (Nat×aq)):List I→List I→Prop
 | [],[]=>True
 |x::xs,c::cs=>((x=c.bm (bI ρ)∧c.only (aw os)=true∧c.bR=true)∨bh aN A0 x=some c)∧gR aN A0 ρ os xs cs
 |_,_=>False
structure aH where
 dst:Option Nat
 op:bQ
 guard:Option (Nat×Bool)
 deriving Inhabited
inductive cM where
 |done (A:ai)
 |fail
 |call (f:FuncId) (avs:List I) (a1 a2:Option (List I)) (dst:Option Nat) (rest:List aH) (A:ai)
 |kN (v:Value) (avs:List I) (dst:Option Nat) (rest:List aH) (A:ai)
 |j7 (f:FuncId) (avs:List I) (dst:Option Nat) (rest:List aH) (A:ai)
 |any (p:Nat→Prop) (k:Nat→cM)
def cP(x:Option I)(k:I→cM):cM:=match x with
 |some v=>k v
 |none=>.fail
def wP(s:Option Nat)(v old:I):Prop:=v.bR=true∧bY s v=true∧v.aX=old.aX
def wN(e esz bytes l sz:Nat)(ys:List I)(T sz':Nat)(es:List I):Prop:=l=es.length∧sz=esz∧T=e∧sz'=esz∧ys≠[]∧es.length+ys.length≤maxLen∧(es.length+ys.length)*bytes≤140737488355328
def qy(ys:List I):List Int:=ys.filterMap fun y=>match y with | .int .i64 i=>some i | _=>none
def wO(e esz bytes l:Nat)(ys:List I)(T:Nat)(xs:List Int)(z:I):Prop:=l=xs.length∧esz=1∧T=e∧z=.int .i64 0∧ys=(qy ys).map (.int .i64)∧ys≠[]∧xs.length+ys.length≤maxLen∧(xs.length+ys.length)*bytes≤140737488355328
def jH:I→Bool
 | .slice _ es=>es.isEmpty
 | .c0 _=>true
 |_=>false
def kV(f:Nat):Nat:=if f<1000000 then f else f-1000000
def h3(f:Nat)(args caps:List I):List I:=if f<1000000 then args++caps else caps++args
theorem vz{f:Nat}(h:f<1000000):kV f=f:=by simp only[kV,if_pos h]
theorem vy{f:Nat}(h:f<1000000)(args caps:List I):h3 f args caps=args++caps:=by simp only[h3,if_pos h]
theorem sE(g:Nat):kV (g+1000000)=g:=by simp only[kV,if_neg (show ¬ g+1000000<1000000 by omega),Nat.add_sub_cancel]
theorem vx(g:Nat)(args caps:List I):h3 (g+1000000) args caps=caps++args:=by simp only[h3,if_neg (show ¬ g+1000000<1000000 by omega)]
open Classical in
noncomputable def fX(A:ai)(dst:Option Nat)(esz bytes:Nat)(z:I)(es ys:List I)(k:ai→cM):cM :=
 match dst with
 |some d=>match A.o d with
  |none=>if (es.length+ys.length)*bytes≤140737488355328∧es.length+ys.length≤maxLen then
    .any (fun m=>es.length+ys.length+m≤maxLen) (fun m=>k ((A.aS d (.box (.agg (es++(ys++List.replicate m z))))).aT dst (.view d [] esz 0 (es.length+ys.length)))) else .fail
  |some _=>.fail
 |none=>.fail
open Classical in
noncomputable def e7(A:ai)(dst:Option Nat)(esz bytes:Nat)(z:I)(s:I):Option (List I)→Option (List I)→(ai→cM)→cM
 |some es,some ys,k=>if ys=[] then k (A.aT dst s) else match s with
  | .nils _=>fX A dst esz bytes z es ys k
  | .c0 _=>fX A dst esz bytes z es ys k
  | .view n p sz lo l=>match A.o n with
   |some (.box b)=>match b.at p with
    |some (.agg fs)=>if lo+l+ys.length≤fs.length then
      (if sz=esz∧I.cV ys=I.cV ((fs.drop (lo+l)).take ys.length) then k ((A.aS n (.box (jh b p (lo+l) fs ys))).aT dst (.view n p esz lo (l+ys.length))) else .fail)
      else fX A dst esz bytes z es ys k
    |_=>.fail
   |_=>.fail
  |_=>.fail
 |_,_,_=>.fail
open Classical in
noncomputable def uE(A:ai)(dst:Option Nat)(esz bytes:Nat)(z:I)(m:Nat)(s:I):Option (List I)→(ai→cM)→cM
 |some es,k=>match s with
  | .view n p _ lo l=>match A.o n with
   |some (.box b)=>match b.at p with
    |some (.agg fs)=>if 0<m∧fs.length<lo+l+m then fX A dst esz bytes z es (List.replicate m z) k else .fail
    |_=>.fail
   |_=>.fail
  |_=>.fail
 |_,_=>.fail
open Classical in
noncomputable def oS(A:ai)(esz:Nat)(z:I)(k:ai→cM):I→cM
 | .view n p sz lo l=>match A.o n with
  |some (.box b)=>match b.at p with
   |some (.agg fs)=>if sz=esz∧I.cV (List.replicate l z)=I.cV ((fs.drop lo).take l) then k (A.aS n (.box (jh b p lo fs (List.replicate l z)))) else .fail
   |_=>.fail
  |_=>.fail
 | .nils _=>k A
 | .c0 _=>k A
 |_=>.fail
open Classical in
noncomputable def sA(A:ai)(dst:Option Nat)(esz:Nat)(k:ai→cM):I→Option (List I)→cM
 | .view n p sz lo l,some ys=>match A.o n with
  |some (.box b)=>match b.at p with
   |some (.agg fs)=>if sz=esz∧I.cV (ys.take (min ys.length l))=I.cV ((fs.drop lo).take (min ys.length l)) then k ((A.aS n (.box (jh b p lo fs (ys.take (min ys.length l))))).aT dst (.int .i64 (min ys.length l:Nat))) else .fail
   |_=>.fail
  |_=>.fail
 |_,_=>.fail
open Classical in
noncomputable def bl(A:ai)(dst:Option Nat)(op:bQ)(rest:List aH)(k:ai→cM):cM :=
 match op with
 | .alloc z=>match dst with
  |some d=>match A.o d with
   |none=>k ((A.aS d (.box z)).put d (.ptr d []))
   |some _=>.fail
  |none=>.fail
 | .box x=>match dst with
  |some d=>match A.o d with
   |none=>if (ak A x).bR then k ((A.aS d (.box (ak A x))).put d (.ptr d [])) else .fail
   |some _=>.fail
  |none=>.fail
 | .aU s x v=>match dst with
  |none=>match ak A x with
   | .ptr n p=>match A.o n with
    |some (.box b)=>match b.at p with
     |some old=>if wP s (ak A v) old then k (A.aS n (.box (b.ez p (ak A v)))) else .fail
     |none=>.fail
    |_=>.fail
   |_=>.fail
  |some _=>.fail
 | .c9 e esz bytes z s x=>match ak A s with
  | .own n l=>match ak A x with
   | .slice sz ys=>match A.o n with
    |some (.bU T sz' es)=>if wN e esz bytes l sz ys T sz' es then k ((A.aS n (.bU e esz (es++ys))).aT dst (.own n (es.length+ys.length))) else .fail
    |some (.dL T xs)=>if wO e esz bytes l ys T xs z then k ((A.aS n (.dL e (xs++qy ys))).aT dst (.own n (xs.length+ys.length))) else .fail
    |_=>.fail
   |_=>.fail
  |s'=>e7 A dst esz bytes z s' (eK A esz s') (eK A esz (ak A x)) k
 | .lE _ esz bytes z s n=>match ak A n with
  | .int _ m=>uE A dst esz bytes z m.toNat (ak A s) (eK A esz (ak A s)) k
  |_=>.fail
 | .nilS neg x=>if jH (ak A x) then .any (fun m=>m<2) (fun m=>k (A.aT dst (.bool (m==0)))) else cP (bn A (.nilS neg x)) fun v=>k (A.aT dst v)
 | .jL esz z x=>match dst with
  |none=>oS A esz z k (ak A x)
  |some _=>.fail
 | .kP esz x y=>sA A dst esz k (ak A x) (eK A esz (ak A y))
 | .call f args=>.call f (args.map (ak A)) (b7 true A (args.map (ak A))) (b7 false A (args.map (ak A))) dst rest A
 | .fL x args=>match ak A x with
  | .func f caps=>.call (kV f) (h3 f (args.map (ak A)) caps) (b7 true A (h3 f (args.map (ak A)) caps)) (b7 false A (h3 f (args.map (ak A)) caps)) dst rest A
  | .raw v=>.kN v (args.map (ak A)) dst rest A
  |_=>.fail
 | .j7 f args=>.j7 f (args.map (ak A)) dst rest A
 | .iH=>match dst with
  |some d=>match A.o d with
   |none=>k ((A.aS d (.bt [] [])).put d (.mref d))
   |some _=>.fail
  |none=>.fail
 | .ki _ bytes z n=>match dst with
  |some d=>match A.o d with
   |none=>match ak A n with
    | .int _ n=>if 0≤n∧n.toNat*bytes≤281474976710656∧n.toNat≤maxLen then k ((A.aS d (.box (.agg (List.replicate n.toNat z)))).put d (.view d [] 1 0 n.toNat)) else .fail
    |_=>.fail
   |some _=>.fail
  |none=>.fail
 | .eT ty m key v=>match dst with
  |none=>match ak A m with
   | .mref n=>match A.o n with
    |some (.bt ks vs)=>match ft ty (ak A key) (ak A v) ks vs with
     |some (ks',vs')=>k (A.aS n (.bt ks' vs'))
     |none=>.fail
    |_=>.fail
   |_=>.fail
  |some _=>.fail
 | .iG ty m key=>match dst with
  |none=>match ak A m with
   | .mref n=>match A.o n with
    |some (.bt ks vs)=>match lV ty (ak A key) ks vs with
     |some (ks',vs')=>k (A.aS n (.bt ks' vs'))
     |none=>.fail
    |_=>.fail
   |_=>.fail
  |some _=>.fail
 | .jD x=>match dst with
  |some d=>match A.o d with
   |none=>match ak A x with
    | .dm ks vs=>k ((A.aS d (.it ks vs (List.range ks.length) none)).put d (.dq d))
    |_=>.fail
   |some _=>.fail
  |none=>.fail
 | .ib x=>match ak A x with
  | .dq n=>match A.o n with
   |some (.it ks vs left cur)=>if left=[] then k (A.aT dst (.tuple [.bool false])) else
     .any (fun i=>i∈left) fun i=>match ks[i]?,vs[i]? with
      |some kk,some x=>k ((A.aS n (.it ks vs (left.filter (· != i)) (some i))).aT dst (.tuple [.bool true,kk,x]))
      |_,_=>.fail
   |_=>.fail
  |_=>.fail
 |op=>cP (bn A op) fun v=>k (A.aT dst v)
noncomputable def az:List aH→ai→cM
 | [],A=>.done A
 |g::rest,A=>match g.guard with
  |none=>bl A g.dst g.op rest (az rest)
  |some (t,b)=>match A.t t with
   | .bool b'=>if b'=b then bl A g.dst g.op rest (az rest) else az rest (A.aT g.dst .undef)
   | .undef=>az rest (A.aT g.dst .undef)
   |_=>.fail
def GK(P:Program)(A:ai)(f:FuncId)(avs:List I)(r:I):Prop :=
 ∀ (c:cT) (a:Act) (w:World) (D:aP) (E:aZ) (vs:List Value),c.P=P→aV c A a w D E→fA (a8 w D E) avs vs→∃ v,(callFunc f vs.toArray).run P w=.ok (.value v) w∧a8 w D E r v
inductive aR (P:Program) (Y:Value→List I→List (Nat×aq)→cG→Prop) (dr:Bool) (K:ai→Prop):cM→Prop where
 |done {A:ai} : K A→aR P Y dr K (.done A)
 |flat {f:FuncId} {avs cargs:List I} {a2:Option (List I)} {dst:Option Nat} {rest:List aH} {A:ai} (r:I):bd P f cargs r→r.flat=true→aR P Y dr K (az rest (A.aT dst r))→aR P Y dr K (.call f avs (some cargs) a2 dst rest A)
 |lead {f:FuncId} {avs cargs:List I} {a1:Option (List I)} {dst:Option Nat} {rest:List aH} {A:ai} (r:I):bd P f cargs r→aR P Y dr K (az rest (A.aT dst r))→aR P Y dr K (.call f avs a1 (some cargs) dst rest A)
 |jN {f:FuncId} {avs cargs:List I} {a1 a2:Option (List I)} {dst:Option Nat} {rest:List aH} {ts:List (Nat×I)} {os0:List (Nat×aq)} (ns:List Nat) (r:I):dr=false→bd P f cargs r→b7 true (av ts (mO ns os0)) avs=some cargs →
   cJ (fun n => !ns.contains n) (eL ns os0)→aR P Y dr K (az rest ((av (lL ns ts) (eL ns os0)).aT dst r))→aR P Y dr K (.call f avs a1 a2 dst rest (av ts os0))
 |bO {f:FuncId} {avs:List I} {a1 a2:Option (List I)} {dst:Option Nat} {rest:List aH} {ts:List (Nat×I)} {os0:List (Nat×aq)} (aN:Bool) (ρ:List (Nat×Nat)) (os:List (Nat×aq)) (cargs:List I) (post:cG):dr=false→cS P f cargs os post →
   gl ρ os os0→gR aN (av ts (eL (iI ρ os) os0)) ρ os avs cargs→(∀ r os',post r os'→gG aN ρ os os0 r os') →
   (∀ r os',post r os'→aR P Y dr K (az rest ((av ts (dF ρ os'++os0)).aT dst (r.bm (bI ρ)))))→aR P Y dr K (.call f avs a1 a2 dst rest (av ts os0))
 |uf {v:Value} {avs:List I} {dst:Option Nat} {rest:List aH} {ts:List (Nat×I)} {os0:List (Nat×aq)} (os:List (Nat×aq)) (cargs:List I) (post:cG):dr=false→Y v cargs os post →
   gl [] os os0→gR false (av ts (eL (iI [] os) os0)) [] os avs cargs→(∀ r os',post r os'→gG false [] os os0 r os') →
   (∀ r os',post r os'→aR P Y dr K (az rest ((av ts (dF [] os'++os0)).aT dst (r.bm (bI [])))))→aR P Y dr K (.kN v avs dst rest (av ts os0))
 |ext {f:FuncId} {avs:List I} {dst:Option Nat} {rest:List aH} {A:ai} (r:I):dr=false→GK P A f avs r→aR P Y dr K (az rest (A.aT dst r))→aR P Y dr K (.j7 f avs dst rest A)
 |any {p:Nat→Prop} {k:Nat→cM} : dr=false→(∀ m,p m→aR P Y dr K (k m))→aR P Y dr K (.any p k)
def AE(n:Nat):Option Nat→Bool
 |some d=>decide (d<n)
 |none=>true
def lG(P:Program)(n:Nat)(aW:Array Oper)(o:Oper):Option aH :=
 match di P o with
 |none=>none
 |some g=>if AE n o.dst=true then
   match o.guard with
   |none=>some ⟨o.dst,g,none⟩
   |some (j,b)=>match (aW[j]?).bind (·.dst) with
    |some t=>some ⟨o.dst,g,some (t,b)⟩
    |none=>none
  else none
def fK(P:Program)(n:Nat)(aW:Array Oper):List Oper→Option (List aH)
 | []=>some []
 |o::l=>match lG P n aW o,fK P n aW l with
  |some g,some gs=>some (g::gs)
  |_,_=>none
end Go.Abs
namespace Go.Abs
open Go Go.RowKit
section
variable {c:cT} {A:ai} {o:Oper} {x:I}
theorem C5{g:bQ}(hg:di c.P o=some g)(h:bn A g=some x):dM c A o x:=by
 unfold di at hg;split at hg
 -- move
 ·rename_i y ho;simp only[t7] at hg;obtain ⟨z,hz,rfl⟩:=hg;simp only[bn,v6] at h;subst h;exact BE (.inl ho) hz
 ·rename_i y ho;simp only[t7] at hg;obtain ⟨z,hz,rfl⟩:=hg;simp only[bn,v6] at h;subst h;exact BE (.inr ho) hz
 -- pick
 ·rename_i q y z ho;split at hg
  ·rename_i q' y' z' J U ah;simp only[v6] at hg;subst hg;simp only[bn] at h;split at h
   ·rename_i t ht;simp only[v6] at h;subst h;exact V6 ho J U ah ht
   ·cases h
  ·cases hg
 -- binOp
 ·rename_i op t y z yt ho;split at hg
  ·rename_i k y' z' hu J U;simp only[v6] at hg;subst hg;exact BC ho J U h
  ·rename_i y' z' hu J U;simp only[v6] at hg;subst hg;exact BC ho J U h
  ·rename_i e y' z' hu J U;split at hg
   ·rename_i s;split at hg
    ·rename_i hop;simp only[v6] at hg;subst hg;have ho':o.op=.binOp (if (op==.neq)=true then .neq else .eql) t y z yt:=by
      rcases hop with rfl | rfl <;>simpa using ho
     simp only[bn] at h;split at h
     ·rename_i s' hs';simp only[v6] at h;subst h;have:=vW (r:=true) ho' hu J U (.inl ⟨s',hs',rfl⟩);rw[show (if (op==BinOp.neq)=true then !true else true) = !(op==BinOp.neq) from by cases (op==BinOp.neq) <;>rfl] at this;exact this
     ·rename_i s' es hs';split at h
      ·cases h
      ·rename_i hne;simp only[v6] at h;subst h;have:=vW (r:=false) ho' hu J U (.inr (.inl ⟨s',es,hs',by simpa using hne,rfl⟩));rw[show (if (op==BinOp.neq)=true then !false else false)=(op==BinOp.neq) from by cases (op==BinOp.neq) <;>rfl] at this;exact this
     ·rename_i n p s' lo k hs';simp only[v6] at h;subst h;have:=vW (r:=false) ho' hu J U (.inr (.inr ⟨n,p,s',lo,k,hs',rfl⟩));rw[show (if (op==BinOp.neq)=true then !false else false)=(op==BinOp.neq) from by cases (op==BinOp.neq) <;>rfl] at this;exact this
     ·cases h
    ·cases hg
   ·cases hg
  ·rename_i e y' z' hu J U;split at hg
   ·rename_i hop;simp only[v6] at hg;subst hg;have ho':o.op=.binOp (if (op==.neq)=true then .neq else .eql) t y z yt:=by
     rcases hop with rfl | rfl <;>simpa using ho
    simp only[bn] at h;cases hb1:iF (ak A y') with
    |none=>rw[hb1] at h;cases h
    |some b1=>cases hb2:iF (ak A z') with
     |none=>rw[hb1,hb2] at h;cases h
     |some b2 =>
      rw[hb1,hb2] at h;simp only[na] at h;split at h
      ·rename_i hor;simp only[v6] at h;subst h;exact V7 ho' hu J U hb1 hb2 (by simpa using hor)
      ·cases h
   ·cases hg
  ·rename_i d y' z' _ _ _ _ hu J U;split at hg
   ·rename_i hop;simp only[t7] at hg;obtain ⟨ty,hty,rfl⟩:=hg;have ho':o.op=.binOp (if (op==.neq)=true then .neq else .eql) t y z yt:=by
     rcases hop.1 with rfl | rfl <;>simpa using ho
    simp only[bn,t7] at h;obtain ⟨r,hr,rfl⟩:=h;exact VO ho' J U hop.2 hty hr
   ·cases hg
  ·cases hg
 -- unOp
 ·rename_i op t y ho;simp only[t7] at hg;obtain ⟨z,hz,rfl⟩:=hg;simp only[bn] at h;split at h
  ·rename_i b hb;simp only[v6] at h;subst h;exact V5 ho hz hb
  ·rename_i k n hb;simp only[v6] at h;subst h;exact V4 ho hz hb
  ·rename_i k n hb;simp only[v6] at h;subst h;exact VM ho hz hb
  ·cases h
 -- nilCheck
 ·rename_i y ho;simp only[t7] at hg;obtain ⟨z,hz,rfl⟩:=hg;simp only[bn] at h;cases hy:ak A z <;>rw[hy] at h <;>simp only[lW,v6] at h <;>try (cases h;done)
  ·subst h;rw[←hy];exact BF ho hz (.inr ⟨_,hy⟩)
  ·subst h;rw[←hy];exact BF ho hz (.inl ⟨_,_,hy⟩)
 -- makeMap
 ·simp only[v6] at hg;subst hg;simp[bn] at h
 -- lookup
 ·rename_i t m k ok ho;split at hg
  ·rename_i kt et m' k' hu J U;split at hg
   ·rename_i ty z hk hz;split at hg
    ·rename_i hp;simp only[v6] at hg;subst hg;simp only[bn] at h;cases hm:fZ A (ak A m') with
     |none=>rw[hm] at h;cases h
     |some q =>
      obtain ⟨ks,vs⟩:=q;rw[hm] at h;simp only[qI] at h;cases ao:fp ty z (ak A k') ks vs with
      |none=>rw[ao] at h;cases h
      |some q =>
       obtain ⟨v,b⟩:=q;rw[ao] at h;simp only[qJ,v6] at h;subst h;exact V0 ho hu hk hz hp J U hm ao
    ·cases hg
   ·cases hg
  ·cases hg
 -- mapUpdate,insert
 iterate 2
  ·split at hg
   ·split at hg
    ·simp only[v6] at hg;subst hg;simp[bn] at h
    ·cases hg
   ·cases hg
 -- makeSlice
 ·split at hg
  ·split at hg
   ·split at hg
    ·simp only[v6] at hg;subst hg;simp[bn] at h
    ·cases hg
   ·cases hg
  ·cases hg
 -- range
 ·split at hg
  ·simp only[t7] at hg;obtain ⟨z,_,rfl⟩:=hg;simp[bn] at h
  ·cases hg
 -- next
 ·simp only[t7] at hg;obtain ⟨z,_,rfl⟩:=hg;simp[bn] at h
 -- entry
 ·rename_i y ho;simp only[t7] at hg;obtain ⟨z,hz,rfl⟩:=hg;simp only[bn] at h;split at h
  ·rename_i n hn;split at h
   ·rename_i ks vs left cur hob;cases cur with
    |none=>cases h
    |some i =>
     simp only[mH] at h;split at h
     ·rename_i kk xx hk hx;simp only[v6] at h;subst h;exact VN ho hz hn hob hk hx
     ·cases h
   ·cases h
  ·cases h
 -- convert
 ·rename_i nm dst y ho;split at hg
  ·rename_i k0 k y' J U ah;simp only[v6] at hg;subst hg;simp only[bn] at h;split at h
   ·rename_i k1 n hn;simp only[v6] at h;subst h;exact VL ho J U ah hn
   ·cases h
  ·cases hg
 -- load
 ·rename_i t y ho;split at hg
  ·rename_i s y' J U;simp only[v6] at hg;subst hg;simp only[bn] at h;split at h
   ·rename_i v hv;split at h
    ·rename_i hok;simp only[v6] at h;subst h;exact VZ ho J U hv hok
    ·cases h
   ·cases h
  ·cases hg
 -- fieldAddr
 ·rename_i t y f ho;split at hg
  ·rename_i fs y' hu J;split at hg
   ·rename_i fd hf;split at hg
    ·cases hg
    ·rename_i hz;simp only[v6] at hg;subst hg;simp only[bn] at h;split at h
     ·rename_i gs hgs;split at h
      ·rename_i v hv;split at h
       ·rename_i hoff;simp only[v6] at h;subst h;exact VR ho hu hf hz J hgs hv hoff
       ·cases h
      ·cases h
     ·rename_i n p hp;split at h
      ·rename_i gs hgs;split at h
       ·rename_i hoff;simp only[v6] at h;subst h;exact VQ ho hu hf hz J hp hgs hoff.1 hoff.2
       ·cases h
      ·cases h
     ·cases h
   ·cases hg
  ·cases hg
 -- field
 ·rename_i t y f ho;split at hg
  ·rename_i fs y' hu J;split at hg
   ·rename_i fd hf;simp only[t7] at hg;obtain ⟨s,ab,rfl⟩:=hg;simp only[bn] at h;split at h
    ·rename_i gs hgs;split at h
     ·rename_i v hv;split at h
      ·rename_i hoff;simp only[v6] at h;subst h;exact VS ho hu hf ab J hgs hv hoff.1 hoff.2
      ·cases h
     ·cases h
    ·cases h
   ·cases hg
  ·cases hg
 -- indexAddr
 ·rename_i t y i ho;split at hg
  ·rename_i n e y' i' hu J U;split at hg
   ·rename_i hinfo;obtain ⟨ti,hti⟩:=zz8.1 hinfo;simp only[v6] at hg;subst hg;simp only[bn] at h;split at h
    ·rename_i kk k hk;split at h
     ·rename_i hb;split at h
      ·rename_i gs hgs;split at h
       ·rename_i hev;simp only[t7] at h;obtain ⟨v,hv,rfl⟩:=h;exact VU ho hu hti J U hgs hk hb hev hv
       ·cases h
      ·rename_i m p hp;split at h
       ·rename_i gs hgs;split at h
        ·rename_i hev;simp only[v6] at h;subst h;exact VT ho hu hti J U hp hk hb hgs hev
        ·cases h
       ·cases h
      ·cases h
     ·cases h
    ·cases h
   ·cases hg
  ·rename_i e y' i' hu J U;split at hg
   ·rename_i hinfo;obtain ⟨ti,hti⟩:=zz8.1 hinfo;simp only[v6] at hg;subst hg;simp only[bn] at h;split at h
    ·rename_i kk k hk;split at h
     ·rename_i sz es hes;split at h
      ·rename_i hb;obtain ⟨rfl,hb⟩:=hb;simp only[t7] at h;obtain ⟨v,hv,rfl⟩:=h;exact VV ho hu hti J U hes hk hb hv
      ·cases h
     ·rename_i m l hm;split at h
      ·rename_i T sz es hes;split at h
       ·rename_i hb;obtain ⟨rfl,rfl,hb⟩:=hb;simp only[t7] at h;obtain ⟨v,hv,rfl⟩:=h;exact VW ho hu hti J U hm hes hk hb hv
       ·cases h
      ·cases h
     ·rename_i m p sz lo l hm;split at h
      ·rename_i fs hfs;split at h
       ·rename_i hb;simp only[v6] at h;subst h;exact VX ho hu hti J U hb.1 hm hfs hk hb.2
       ·cases h
      ·cases h
     ·cases h
    ·cases h
   ·cases hg
  ·cases hg
 -- index
 ·rename_i t y i ho;split at hg
  ·rename_i n e y' i' hu J U;simp only[t7] at hg;obtain ⟨s,ab,rfl⟩:=hg;simp only[bn] at h;split at h
   ·rename_i kk k hk;split at h
    ·rename_i hb;split at h
     ·rename_i gs hgs;split at h
      ·rename_i hev;split at h
       ·rename_i v hv;split at h
        ·rename_i hok;simp only[v6] at h;subst h;exact VY ho hu ab J U hgs hk hb hev hv hok
        ·cases h
       ·cases h
      ·cases h
     ·cases h
    ·cases h
   ·cases h
  ·cases hg
 -- slice
 ·rename_i t y lo hi mx ho;split at hg
  ·rename_i n e y' hu J;split at hg
   ·split at hg
    ·rename_i hinfo;obtain ⟨ti,hti⟩:=zz8.1 hinfo;simp only[v6] at hg;subst hg;simp only[bn] at h;split at h
     ·rename_i m p hp;split at h
      ·rename_i gs hgs;split at h
       ·rename_i hev;simp only[v6] at h;subst h;exact V9 ho hu hti J hp hgs hev.1 hev.2.1 hev.2.2
       ·cases h
      ·cases h
     ·rename_i gs hgs;split at h
      ·rename_i hev;simp only[v6] at h;subst h;exact Wa ho hu hti J hgs hev.1 hev.2.1
      ·cases h
     ·cases h
    ·cases hg
   ·cases hg
  ·rename_i e y' hu J;split at hg
   ·rename_i lo' hi' mx' q1 q2 q3;split at hg
    ·rename_i hc;obtain ⟨ti,hti⟩:=zz8.1 hc.2;simp only[v6] at hg;subst hg;simp only[bn] at h;split at h
     ·rename_i sz es hes;split at h
      ·rename_i hsz;subst hsz;exact vX ho hu hti J q1 q2 q3 hc.1 (.inl hes) h
      ·cases h
     ·rename_i sz hes;split at h
      ·rename_i hsz;subst hsz;exact vX ho hu hti J q1 q2 q3 hc.1 (.inr (.inl ⟨hes,rfl⟩)) h
      ·cases h
     ·rename_i sz hes;split at h
      ·rename_i hsz;subst hsz;exact vX ho hu hti J q1 q2 q3 hc.1 (.inr (.inr ⟨hes,rfl⟩)) h
      ·cases h
     ·rename_i n p sz l0 k hv;split at h
      ·rename_i fs hfs;split at h
       ·rename_i hsz;exact V8 ho hu hti J q1 q2 q3 hc.1 hsz hv hfs h
       ·cases h
      ·cases h
     ·cases h
    ·cases hg
   ·cases hg
  ·cases hg
 -- build
 ·rename_i t parts ho;split at hg
  ·rename_i zs ps hz hp;split at hg
   ·rename_i fs hu;split at hg
    ·rename_i hc;simp only[v6] at hg;subst hg;simp only[bn,t7] at h;obtain ⟨zs',h,rfl⟩:=h;exact BD ho hz hp (.inl ⟨fs,hu,hc.1,hc.2⟩) h
    ·cases hg
   ·rename_i n e hu;split at hg
    ·rename_i hc;simp only[v6] at hg;subst hg;simp only[bn,t7] at h;obtain ⟨zs',h,rfl⟩:=h;exact BD ho hz hp (.inr ⟨n,e,hu,hc.1,hc.2.1,hc.2.2⟩) h
    ·cases hg
   ·cases hg
  ·cases hg
 -- buildSlice
 ·rename_i t len parts ho;split at hg
  ·rename_i e hu;split at hg
   ·rename_i ps hp;split at hg
    ·rename_i aY;obtain ⟨rfl,rfl,aY⟩:=aY;obtain ⟨ti,hti⟩:=zz8.1 aY;simp only[v6] at hg;subst hg;simp only[bn,v6] at h;subst h;exact VK ho hu hti
    split at hg
    ·rename_i hc;obtain ⟨c1,c2,c3,HV,HW⟩:=hc;simp only[v6] at hg;subst hg;simp only[bn] at h;split at h
     ·rename_i es hes;split at h
      ·rename_i hev;simp only[v6] at h;subst h;refine VJ ho hu hp c1 c2 c3 HV HW hes (fun y hy =>?_) hev.2;have:=zy1.1 hev.1 y hy;simpa using this
      ·cases h
     ·cases h
    ·cases hg
   ·cases hg
  ·cases hg
 -- extract
 ·rename_i y i ho;simp only[t7] at hg;obtain ⟨z,hz,rfl⟩:=hg;simp only[bn] at h;split at h
  ·rename_i fs hfs;exact VP ho hz hfs h
  ·cases h
 -- makeFunc
 ·rename_i f first caps ho
  split at hg
  case isFalse=>cases hg
  rename_i hlt;split at hg
  ·rename_i hfirst;simp only[t7] at hg;obtain ⟨ys,hys,rfl⟩:=hg;simp only[bn] at h;split at h
   ·rename_i hv;simp only[v6] at h;subst h;have hf:first = #[]:=by simpa using hfirst
    rw[hf] at ho;refine V1 hlt ho hys (fun y hy =>?_);have:=zy1.1 hv (ak A y) (zy0.2 ⟨y,hy,rfl⟩);exact this
   ·cases h
  ·split at hg
   case isFalse=>cases hg
   rename_i hcaps;simp only[t7] at hg;obtain ⟨ys,hys,rfl⟩:=hg;simp only[bn] at h;split at h
   ·rename_i hv;simp only[v6] at h;subst h;have hf:caps = #[]:=by simpa using hcaps
    rw[hf] at ho;refine V2 ho hys (fun y hy =>?_);have:=zy1.1 hv (ak A y) (zy0.2 ⟨y,hy,rfl⟩);exact this
   ·cases h
 -- alloc
 ·simp only[t7] at hg;obtain ⟨z,_,rfl⟩:=hg;simp[bn] at h
 -- box
 ·simp only[t7] at hg;obtain ⟨z,_,rfl⟩:=hg;simp[bn] at h
 -- store
 ·split at hg
  ·split at hg
   ·simp only[v6] at hg;subst hg;simp[bn] at h
   ·cases hg
  ·cases hg
 -- call
 ·split at hg
  ·simp only[t7] at hg;obtain ⟨z,_,rfl⟩:=hg;simp[bn] at h
  ·simp only[t7] at hg;obtain ⟨z,_,rfl⟩:=hg;simp[bn] at h
 ·split at hg
  ·simp only[v6] at hg;subst hg;simp[bn] at h
  ·cases hg
 -- len
 ·rename_i args tys ho;split at hg
  ·rename_i y ty hargs htys;have ho':o.op=.call { callee:=.builtin .len,args := #[y],argTypes := #[ty] } :=by
    rw[ho];have e1:args = #[y]:=by apply Array.ext';simpa using hargs
    have e2:tys = #[ty]:=by apply Array.ext';simpa using htys
    rw[e1,e2]
   split at hg
   ·rename_i e hu;simp only[t7] at hg;obtain ⟨y',hy,rfl⟩:=hg;simp only[bn] at h;split at h
    ·rename_i sz es hes;simp only[v6] at h;subst h;refine o6 ho' hu (.inl ⟨e,rfl⟩) hy (fun a w D E ab v hv =>?_);rw[hes] at hv;obtain ⟨ad,cap,e1,e2,e3,_⟩:=ni hv;exact ⟨zw3 e2 e3,fun _=>⟨ad,cap,e1⟩,fun e=>by cases e⟩
    ·rename_i sz hes;simp only[v6] at h;subst h;refine o6 (n:=0) ho' hu (.inl ⟨e,rfl⟩) hy (fun a w D E ab v hv =>?_);rw[hes] at hv;obtain ⟨cs,q1,q2⟩:=hv;simp only[al] at q2;exact ⟨by simp[maxLen],fun _=>⟨none,0,by simpa[bB,I.isAgg,q2] using q1.symm⟩,fun e=>by cases e⟩
    ·rename_i sz hes;simp only[v6] at h;subst h;refine o6 (n:=0) ho' hu (.inl ⟨e,rfl⟩) hy (fun a w D E ab v hv =>?_);rw[hes] at hv;obtain ⟨cs,q1,q2⟩:=hv;simp only[al] at q2;obtain ⟨ad,q2⟩:=q2;exact ⟨by simp[maxLen],fun _=>⟨ad,0,by simpa[bB,I.isAgg,q2] using q1.symm⟩,fun e=>by cases e⟩
    ·rename_i m l hm;split at h
     ·rename_i T sz es hes;split at h
      ·rename_i ao;subst ao;simp only[v6] at h;subst h;refine o6 ho' hu (.inl ⟨e,rfl⟩) hy (fun a w D E ab v hv =>?_);rw[hm] at hv;rcases ab.own hes hv with ⟨rfl,_,rfl⟩ | ⟨b,cap,cs,pre,rest,_,rfl,_,_,_,_,_,k8,k9,_⟩
       ·exact ⟨by simp[maxLen],fun _=>⟨none,0,rfl⟩,fun e=>by cases e⟩
       ·exact ⟨zw3 k8 k9,fun _=>⟨_,_,rfl⟩,fun e=>by cases e⟩
      ·cases h
     ·cases h
    ·rename_i n p sz lo k hm;simp only[v6] at h;subst h;refine o6 ho' hu (.inl ⟨e,rfl⟩) hy (fun a w D E ab v hv =>?_);rw[hm] at hv;obtain ⟨cs,q1,q2⟩:=hv;simp only[al] at q2;obtain ⟨b,aX,off,l,_,_,_,q2,q3,q4,_⟩:=q2;exact ⟨by omega,fun _=>⟨_,_,by simpa[bB,I.isAgg,q2] using q1.symm⟩,fun e=>by cases e⟩
    ·cases h
   ·rename_i hu;simp only[t7] at hg;obtain ⟨y',hy,rfl⟩:=hg;simp only[bn] at h;split at h
    ·rename_i s hs';simp only[v6] at h;subst h;refine o6 ho' hu (.inr rfl) hy (fun a w D E ab v hv =>?_);rw[hs'] at hv;obtain ⟨e1,e2⟩:=nj hv;exact ⟨e2,(fun e=>by obtain ⟨_,e⟩:=e;cases e),fun _=>⟨s,e1,rfl⟩⟩
    ·cases h
   ·cases hg
  ·cases hg
 -- append
 ·split at hg
  ·split at hg
   ·split at hg
    ·simp only[t7] at hg;obtain ⟨z,_,rfl⟩:=hg;simp[bn] at h
    ·split at hg
     ·simp only[t7] at hg;obtain ⟨z,_,rfl⟩:=hg;simp[bn] at h
     ·cases hg
   ·cases hg
  ·cases hg
 -- cap
 ·rename_i args tys ho;split at hg
  ·rename_i y ty hargs htys;have ho':o.op=.call { callee:=.builtin .cap,args := #[y],argTypes := #[ty] } :=by
    rw[ho];have e1:args = #[y]:=by apply Array.ext';simpa using hargs
    have e2:tys = #[ty]:=by apply Array.ext';simpa using htys
    rw[e1,e2]
   split at hg
   ·rename_i e hu;simp only[t7] at hg;obtain ⟨y',hy,rfl⟩:=hg;simp only[bn] at h;split at h
    ·rename_i sz hes;simp only[v6] at h;subst h;refine vV ho' hu hy (fun a w D E ab v hv =>?_);rw[hes] at hv;obtain ⟨cs,q1,q2⟩:=hv;simp only[al] at q2;exact ⟨by simp[maxLen],_,_,by simpa[bB,I.isAgg,q2] using q1.symm⟩
    ·rename_i sz hes;simp only[v6] at h;subst h;refine vV ho' hu hy (fun a w D E ab v hv =>?_);rw[hes] at hv;obtain ⟨cs,q1,q2⟩:=hv;simp only[al] at q2;obtain ⟨ad,q2⟩:=q2;exact ⟨by simp[maxLen],_,_,by simpa[bB,I.isAgg,q2] using q1.symm⟩
    ·rename_i n p sz lo k hm;split at h
     ·rename_i fs hfs;simp only[v6] at h;subst h;refine vV ho' hu hy (fun a w D E ab v hv =>?_);rw[hm] at hv;obtain ⟨_,b,cs,T,off,c1,c2,c3,_,_,_,_,_,_,_,_,_,_,_,q1,q2⟩:=ab.view hv hfs;exact ⟨by omega,_,_,q2⟩
     ·cases h
    ·cases h
   ·cases hg
  ·cases hg
 -- clear
 ·split at hg
  ·split at hg
   ·simp only[t7] at hg;obtain ⟨z,_,rfl⟩:=hg;simp[bn] at h
   ·cases hg
  ·cases hg
 -- copy
 ·split at hg
  ·split at hg
   ·split at hg
    ·simp only[v6] at hg;subst hg;simp[bn] at h
    ·cases hg
   ·cases hg
  ·cases hg
 -- delete
 ·split at hg
  ·split at hg
   ·simp only[t7] at hg;obtain ⟨z,_,rfl⟩:=hg;simp[bn] at h
   ·cases hg
  ·cases hg
 -- max
 ·rename_i args _ ho;split at hg
  ·rename_i x y hargs;split at hg
   ·rename_i x' y' J U;simp only[v6] at hg;subst hg;simp only[bn] at h;have e1:args = #[x,y]:=by apply Array.ext';simpa using hargs
    rw[e1] at ho;exact V3 ho J U h
   ·cases hg
  ·cases hg
 ·cases hg
theorem fA.append{α β:Type}{R:α→β→Prop} : ∀ {xs:List α} {ys:List β} {xs':List α} {ys':List β},fA R xs ys→fA R xs' ys'→fA R (xs++xs') (ys++ys')
 |_,_,_,_,.nil,h=>h
 |_,_,_,_,.cons J U,h=>.cons J (U.append h)
theorem rA{w:World}{D:aP}{E:aZ} : ∀ {xs:List I} {vs:List Value},aI w D E xs vs→fA (a8 w D E) xs vs
 | [],vs,h=>by simp only[aI] at h;subst h;exact .nil
 |x::xs,vs,h=>by
  simp only[aI] at h;obtain ⟨v,rest,cs,rfl,J,U,ah⟩:=h;exact .cons (jx J U) (rA ah)
theorem I2 {P : Program} {f : FuncId} (h : e9 P f = true) : ∃ fn, P.funcs[f]? = some fn ∧ ¬ fn.name = "runtime.NumGoroutine" ∧ ¬ fn.body = none := by
 unfold e9 at h;rw[t8] at h
 replace h:=h.2
 cases hf:P.funcs[f]? with
 |none=>simp[hf] at h
 |some fn =>
  simp only[hf,Option.any_some,t8,bne_iff_ne,ne_eq] at h;refine ⟨fn,rfl,by simpa using h.1,?_⟩;cases hb:fn.body <;>simp_all
theorem Ab{P:Program}{f:FuncId}(h:e9 P f=true):f<1000000:=by
 unfold e9 at h;rw[t8] at h;simpa[Nat.blt_eq] using h.1
theorem nh{P:Program}{w:World}{f:FuncId}{args:Array Value}(h:e9 P f=true):(callFunc f args).run P w=.ok (.enter f args) w:=by
 obtain ⟨fn,J,U,ah⟩:=I2 h;simp[callFunc,J,U,ah]
theorem aV.h4{A:ai}{a:Act}{w:World}{D:aP}{E:aZ}(h:aV c A a w D E){n:Nat}{e:bL}{b:Nat}(he:E n=some e)(hb:e.aJ=some b):c.e6 b:=by
 have:=h.bO n;unfold cX at this;split at this
 ·simp[this] at he
 ·obtain ⟨b',cs,T,J,U,_⟩:=this;rw[J,v6] at he;subst he;simp only[bL.aJ,v6] at hb;exact hb▸U
 ·obtain ⟨aJ,J,U,ah⟩:=this;rw[J,v6] at he;subst he;split at ah
  ·cases hb
  ·obtain ⟨cs,pre,rest,au,_⟩:=ah;simp only[bL.aJ,v6] at hb;exact hb▸au
 ·obtain ⟨b',J,U,_⟩:=this;rw[J,v6] at he;subst he;simp only[bL.aJ,v6] at hb;exact hb▸U
 ·obtain ⟨b',es,ck,J,U,_⟩:=this;rw[J,v6] at he;subst he;simp only[bL.aJ,v6] at hb;exact hb▸U
 ·obtain ⟨b',bb,es,ck,si,se,la,J,U,_⟩:=this;rw[J,v6] at he;subst he;simp only[bL.aJ,v6] at hb;exact hb▸U
 ·obtain ⟨aJ,J,U,ah⟩:=this;rw[J,v6] at he;subst he;split at ah
  ·cases hb
  ·obtain ⟨cs,m,au,_⟩:=ah;simp only[bL.aJ,v6] at hb;exact hb▸au
theorem aV.qH{A:ai}{a:Act}{w:World}{D:aP}{E:aZ}(h:aV c A a w D E):gP c.P w (cI E) :=
 h.eX.1.Ws h.dQ (fun _ hb=>hb) fun _ ⟨_,_,J,U⟩=>h.h4 J U
theorem aV.wg{A:ai}{a:Act}{w:World}{D:aP}{E:aZ}(h:aV c A a w D E):gP c.P w (fun _=>False):=h.qH.nQ fun _ h=>h.elim
theorem aV.pf{A:ai}{a:Act}{w:World}{D:aP}{E:aZ}(h:aV c A a w D E){ρ:List (Nat×Nat)}{os:List (Nat×aq)} : gP c.P w (cI (aA ρ os E)):=h.qH.nQ fun b ⟨n,e,J,U⟩=>by
 simp only[aA] at J;split at J
 ·exact ⟨_,e,J,U⟩
 ·cases J
theorem bd.ZH{f:FuncId}{avs cargs:List I}{r:I}{vs:List Value}{a:Act}{w:World}{D:aP}{E:aZ}(ab:aV c A a w D E)(h:bd c.P f cargs r)(hf:r.flat=true)(hc:b7 true A avs=some cargs)(hv:fA (a8 w D E) avs vs) :
  Calls c.P f vs.toArray w fun e w'=>∃ v D',e=.returned v∧aV c A a w' D' E∧a8 w' D' E r v:=by
 have hw:h1 true A D E (fun b _=>b<w.heap.size):=by
  refine ⟨fun b o af=>ab.aQ b o af,fun n T sz es b cap hn aA o _=>ab.fY aA rfl,fun _ n x b aX hn aA o _=>ab.fY aA rfl,fun _ n ks vs b hn aA=>ab.fY aA rfl⟩
 have hrv:=lN (E':=dh) ab (fun _ _ h=>h) hw avs cargs vs (lp _ _ hv (qj hc)) hc;refine (h.2 w _ vs ab.wg (fun _ _ af=>af) hrv).mono fun e w' ⟨v,D',he,J,U,ah,au⟩=>⟨v,D,he,?_,a8.flat hf J⟩
 exact ab.grow U (fun _ _ af=>af) (fun _ _ af _=>af) (fun b o af=>Nat.lt_of_lt_of_le (ab.aQ b o af) U.size)
theorem bd.ZJ{f:FuncId}{avs cargs:List I}{r:I}{vs:List Value}{a:Act}{w:World}{D:aP}{E:aZ}(ab:aV c A a w D E)(h:bd c.P f cargs r)(hc:b7 false A avs=some cargs)(hv:fA (a8 w D E) avs vs) :
  Calls c.P f vs.toArray w fun e w'=>∃ v D',e=.returned v∧aV c A a w' D' E∧a8 w' D' E r v:=by
 obtain ⟨hs1,hw⟩:=ab.ou;have hrv:=lN (E':=dh) ab (fun _ _ h=>h) hw avs cargs vs (lp _ _ hv (qj hc)) hc;refine (h.2 w _ vs ab.wg hs1.aQ hrv).mono fun e w' ⟨v,D',he,J,U,ah,au⟩=>⟨v,fun b o=>oo A D E b o∨(w.heap.size≤b∧D' b o),he,?_,?_⟩
 ·refine hs1.grow U (fun _ _ af=>.inl af) ?_ ?_
  ·rintro b o (af | ⟨hle,_⟩) hlt
   ·exact af
   ·omega
  ·rintro b o (af | ⟨_,af⟩)
   ·exact Nat.lt_of_lt_of_le (hs1.aQ b o af) U.size
   ·exact ah b o af
 ·refine a8.later (E:=dh) ⟨fun b o af =>?_,fun _ _ _ _ h=>h,fun n b aX hn=>by simp[dh] at hn,fun n aJ l hn=>by simp[dh] at hn,fun n b hn=>by simp[dh] at hn,fun n b hn=>by simp[dh] at hn,fun _ _ _ _ h=>h⟩ J;rcases Nat.lt_or_ge b w.heap.size with hlt | hge
  ·exact .inl (au b o af hlt)
  ·exact .inr ⟨hge,af⟩
theorem Cd(p:Nat→Bool)(os:List (Nat×aq))(n:Nat):aj (os.filter fun q=>p q.1) n=if p n then aj os n else none:=by
 induction os with
 |nil=>simp[aj]
 |cons q os ih =>
  obtain ⟨k,v⟩:=q;simp only[List.filter_cons];by_cases hk:p k=true
  ·simp only[hk,if_true,aj,ih];by_cases hn:n=k
   ·subst hn;simp only[hk,if_true]
   ·simp only[if_neg hn]
  ·simp only[hk,Z2,if_false,ih,aj];by_cases hn:n=k
   ·subst hn;simp[hk]
   ·simp only[if_neg hn]
theorem nR(ns:List Nat)(os:List (Nat×aq))(n:Nat):aj (eL ns os) n=if ns.contains n then none else aj os n:=by
 rw[eL,Cd (fun n => !ns.contains n)];cases ns.contains n <;>rfl
theorem pj(ns:List Nat)(os:List (Nat×aq))(n:Nat):aj (mO ns os) n=if ns.contains n then aj os n else none:=Cd _ _ _
theorem wR{p:Nat→Bool} : ∀ {os:List (Nat×aq)},cJ p os→∀ k x,aj os k=some x→x.only p=true
 | [],_,k,x,hx=>by simp[aj] at hx
 |(j,v)::r,h,k,x,hx=>by
  simp only[cJ] at h;simp only[aj] at hx;split at hx
  ·simp only[v6] at hx;subst hx;exact h.1
  ·exact wR h.2 k x hx
theorem Cg(ns:List Nat):∀ (ts:List (Nat×I)) (t:Nat),bW (lL ns ts) t=if (bW ts t).only (fun n => !ns.contains n) then bW ts t else .dv
 | [],t=>by simp[lL,bW,I.only]
 |(k,v)::r,t=>by
  simp only[lL,Z4,bW];by_cases h:t=k
  ·simp only[if_pos h]
  ·simp only[if_neg h];exact Cg ns r t
theorem aV.Ba{a:Act}{w:World}{D:aP}{E:aZ}{ts:List (Nat×I)}{os0:List (Nat×aq)}(h:aV c (av ts os0) a w D E)(ns:List Nat)(ho:cJ (fun n => !ns.contains n) (eL ns os0)) :
  ∃ D' E',aV c (av (lL ns ts) (eL ns os0)) a w D' E'∧h1 true (av ts (mO ns os0)) D E D':=by
 have J:=h.ou.1;have hw1:=h.ou.2;obtain ⟨D1,hD1⟩:∃ D1,D1=oo (av ts os0) D E:=⟨_,rfl⟩
 rw[←hD1] at J hw1;obtain ⟨D2,hD2⟩:∃ D2:aP,D2=fun b o=>D1 b o∨(∃ n x aX,ns.contains n=true∧aj os0 n=some (.box x)∧E n=some (.aN b aX)∧o<x.size)∨∃ n ks vs,ns.contains n=true∧aj os0 n=some (.bt ks vs)∧E n=some (.bt b)∧o=0:=⟨_,rfl⟩
 obtain ⟨E2,hE2⟩:∃ E2:aZ,E2=fun n=>if ns.contains n then none else E n:=⟨_,rfl⟩
 have e2:∀ n,(!ns.contains n)=true→E2 n=E n:=fun n hn=>by rw[hE2];simp at hn;simp[hn]
 have ao:dY w D1 E2 w D2 E2:=⟨fun b o af=>by rw[hD2];exact .inl af,fun _ _ _ _ h=>h,fun _ _ _ h=>h,fun _ aJ l h=>⟨aJ,l,h,Z3 _,fun _=>rfl⟩,fun _ _ h=>h,fun _ _ h=>h,fun _ _ _ _ h=>h⟩
 have pq:∀ b o,D2 b o→D1 b o∨∃ n e q,ns.contains n=true∧E n=some e∧e.aJ=some b∧c.e6 b∧w.heap[b]?=some q:=fun b o af=>by
  rw[hD2] at af;rcases af with af | ⟨n,x,aX,k1,k2,k3,k4⟩ | ⟨n,ks,vs,k1,k2,k3,_⟩
  ·exact .inl af
  ·obtain ⟨b',cs,T,q1,q2,q3,_⟩:=h.box (n:=n) (x:=x) (by simpa[av] using k2);rw[k3] at q1;simp only[v6,bL.aN.injEq] at q1;obtain ⟨rfl,rfl⟩:=q1;exact .inr ⟨n,_,_,k1,k3,rfl,q2,q3⟩
  ·obtain ⟨b',es,ck,q1,q2,q3,_⟩:=h.map (n:=n) (ks:=ks) (vs:=vs) (by simpa[av] using k2);rw[k3] at q1;cases q1;exact .inr ⟨n,_,_,k1,k3,rfl,q2,q3⟩
 refine ⟨D2,E2,⟨J.sz,J.eD,fun t =>?_,J.dQ,fun b o af hm =>?_,fun b o af =>?_,fun n =>?_,fun n m e e' b g1 g2 g3 g4 =>?_,fun n e hn =>?_,J.eP,fun b o af=>ao.cZ b o (J.cR b o af),J.eX,J.fx⟩,?_⟩
 ·simp only[av,Cg];have ht:=J.dU t;simp only[av] at ht;split
  ·rename_i hp;exact a8.later ao (a8.da e2 hp ht)
  ·simp[a8]
 ·rcases pq b o af with af | ⟨n,e,q,_,_,_,k,_⟩
  ·exact J.cZ b o af hm
  ·exact absurd k hm
 ·rcases pq b o af with af | ⟨n,e,q,_,_,_,_,k⟩
  ·exact J.aQ b o af
  ·exact fG k
 ·simp only[av,nR];by_cases hn:ns.contains n=true
  ·simp only[hn,if_true,cX];rw[hE2];simp only[hn,if_true]
  ·have hnb:(!ns.contains n)=true:=by simpa using hn
   simp only[hn,Z2,if_false];have hob:=J.bO n;simp only[av] at hob;cases hx:aj os0 n with
   |none=>rw[hx] at hob;simp only[cX] at hob ⊢;rw[e2 n hnb];exact hob
   |some x =>
    have hon:=wR ho n x (by rw[nR,if_neg hn];exact hx);have nD:∀ e b,E n=some e→e.aJ=some b→∀ o,D2 b o→D1 b o:=fun e b he hb o af=>by
     rcases pq b o af with af | ⟨m,e',q,k1,k3,k2,_⟩
     ·exact af
     ·have:=h.cN n m e _ b he k3 hb k2;subst this;exact absurd k1 hn
    rw[hx] at hob;cases x with
    |box x =>
     obtain ⟨b,cs,T,k1,k2,k3,k4,k5⟩:=hob;exact ⟨b,cs,T,(e2 n hnb).trans k1,k2,k3,al.later ao _ _ (al.da e2 _ _ (by simpa[aq.only] using hon) k4),fun o af=>k5 o (nD _ b k1 rfl o af)⟩
    |bU T sz es =>
     obtain ⟨aJ,k1,k2,k3⟩:=hob;refine ⟨aJ,(e2 n hnb).trans k1,k2,?_⟩;cases aJ with
     |none=>exact k3
     |some bc =>
      obtain ⟨b,cap⟩:=bc;obtain ⟨cs,pre,rest,q1,q2,q3,q4,q5,q6,q7,q8⟩:=k3;exact ⟨cs,pre,rest,q1,q2,q3,aM.later ao _ _ (aM.da e2 _ _ (by simpa[aq.only] using hon) q4),q5,q6,q7,fun o af=>q8 o (nD _ b k1 rfl o af)⟩
    |dL T xs =>
     obtain ⟨aJ,k1,k2,k3⟩:=hob;refine ⟨aJ,(e2 n hnb).trans k1,k2,?_⟩;cases aJ with
     |none=>exact k3
     |some bc =>
      obtain ⟨b,cap⟩:=bc;obtain ⟨cs,r,q1,q2,q3,q4,q5,q6,q7⟩:=k3;exact ⟨cs,r,q1,q2,q3,q4,q5,q6,fun o af=>q7 o (nD _ b k1 rfl o af)⟩
    |dK x =>
     obtain ⟨b,k1,k2,k3,k4,k5⟩:=hob;exact ⟨b,(e2 n hnb).trans k1,k2,k3,k4,fun o af=>k5 o (nD _ b k1 rfl o af)⟩
    |bt ks vs =>
     obtain ⟨b,es,ck,k1,k2,k3,k4,k5,k6,k7⟩:=hob;simp only[aq.only,t8] at hon;exact ⟨b,es,ck,(e2 n hnb).trans k1,k2,k3,k4,aI.later ao _ _ (aI.da e2 _ _ hon.1 k5),aI.later ao _ _ (aI.da e2 _ _ hon.2 k6),fun o af=>k7 o (nD _ b k1 rfl o af)⟩
    |it ks vs left cur =>
     obtain ⟨r,b,es,ck,si,se,la,k1,k2,k3,k4,k5,k6,k7,k8,k9,k9',k10⟩:=hob;simp only[aq.only,t8] at hon;exact ⟨r,b,es,ck,si,se,la,(e2 n hnb).trans k1,k2,k3,k4.later ao,aI.later ao _ _ (aI.da e2 _ _ hon.1 k5),aI.later ao _ _ (aI.da e2 _ _ hon.2 k6),k7,k8,k9,k9',fun o af=>k10 o (nD _ r k1 rfl o af)⟩
 ·have cut:∀ n e,E2 n=some e→E n=some e:=fun n e he=>by
   rw[hE2] at he;simp only at he;split at he
   ·cases he
   ·exact he
  exact h.cN n m e e' b (cut n e g1) (cut m e' g2) g3 g4
 ·by_cases hm:ns.contains n=true
  ·left;rw[hE2];simp only[hm,if_true]
  ·rw[e2 n (by simpa using hm)];exact h.dV n e hn
 ·refine ⟨fun b o af=>by rw[hD2];exact .inl (hw1.cZ b o af),fun n T sz es b cap hn aA o hlt =>?_,fun _ n x b aX hn aA o hlt =>?_,fun _ n ks vs b hn aA =>?_⟩
  ·simp only[av,pj] at hn;split at hn
   ·rw[hD2];exact .inl (hw1.bU n T sz es b cap hn aA o hlt)
   ·cases hn
  ·simp only[av,pj] at hn;split at hn
   ·rename_i hk;rw[hD2];exact .inr (.inl ⟨n,x,aX,hk,hn,aA,hlt⟩)
   ·cases hn
  ·simp only[av,pj] at hn;split at hn
   ·rename_i hk;rw[hD2];exact .inr (.inr ⟨n,ks,vs,hk,hn,aA,rfl⟩)
   ·cases hn
theorem bd.ZI{f:FuncId}{avs cargs:List I}{r:I}{vs:List Value}{a:Act}{w:World}{D:aP}{E:aZ}{ts:List (Nat×I)}{os0:List (Nat×aq)}(ab:aV c (av ts os0) a w D E)(ns:List Nat)(ho:cJ (fun n => !ns.contains n) (eL ns os0))
  (h:bd c.P f cargs r) (hc:b7 true (av ts (mO ns os0)) avs=some cargs) (hv:fA (a8 w D E) avs vs) :
  Calls c.P f vs.toArray w fun e w'=>∃ v D' E',e=.returned v∧aV c (av (lL ns ts) (eL ns os0)) a w' D' E'∧a8 w' D' E' r v:=by
 obtain ⟨D1,E1,hs1,hw⟩:=ab.Ba ns ho;have hu:er (av ts (mO ns os0)) (av ts os0):=fun n x hx=>by
  simp only[av,pj] at hx ⊢;split at hx
  ·exact hx
  ·cases hx
 have hrv:=lN (E':=dh) ab hu hw avs cargs vs (lp _ _ hv (qj hc)) hc;refine (h.2 w _ vs ab.wg hs1.aQ hrv).mono fun e w' ⟨v,D',he,J,U,ah,au⟩=>⟨v,fun b o=>D1 b o∨(w.heap.size≤b∧D' b o),E1,he,?_,?_⟩
 ·refine hs1.grow U (fun _ _ af=>.inl af) ?_ ?_
  ·rintro b o (af | ⟨hle,_⟩) hlt
   ·exact af
   ·omega
  ·rintro b o (af | ⟨_,af⟩)
   ·exact Nat.lt_of_lt_of_le (hs1.aQ b o af) U.size
   ·exact ah b o af
 ·refine a8.later (E:=dh) ⟨fun b o af =>?_,fun _ _ _ _ h=>h,fun n b aX hn=>by simp[dh] at hn,fun n aJ l hn=>by simp[dh] at hn,fun n b hn=>by simp[dh] at hn,fun n b hn=>by simp[dh] at hn,fun _ _ _ _ h=>h⟩ J;rcases Nat.lt_or_ge b w.heap.size with hlt | hge
  ·exact .inl (au b o af hlt)
  ·exact .inr ⟨hge,af⟩
theorem uF{a:Act}{w:World}{D D1:aP}{E:aZ}{ts:List (Nat×I)}{os0 os:List (Nat×aq)}{ρ:List (Nat×Nat)}{aN:Bool}{A0:ai}(ab:aV c (av ts os0) a w D E)(hu:er A0 (av ts os0))(hD:∀ b o,D b o→D1 b o)(hw:h1 aN A0 D E D1) :
  ∀ (avs cargs:List I) (vs:List Value),gR aN A0 ρ os avs cargs→fA (a8 w D E) avs vs→aI w D1 (aA ρ os E) cargs vs
 | [],[],vs,_,hv=>by cases hv;simp[aI]
 | [],_::_,_,h,_=>by simp[gR] at h
 |_::_,[],_,h,_=>by simp[gR] at h
 |x::xs,y::ys,vs,h,hv=>by
  cases hv with
  |cons hv hvs =>
  rename_i v vs;simp only[gR] at h;have ih:=uF ab hu hD hw xs ys vs h.2 hvs;have ao:dY w D (aA ρ os E) w D1 (aA ρ os E):=⟨hD,fun _ _ _ _ h=>h,fun _ _ _ h=>h,fun _ aJ l h=>⟨aJ,l,h,Z3 _,fun _=>rfl⟩,fun _ _ h=>h,fun _ _ h=>h,fun _ _ _ _ h=>h⟩
  have J:∃ cs,bB y v cs∧al w D1 (aA ρ os E) y cs:=by
   rcases h.1 with ⟨k1,k2,k3⟩ | k
   ·rw[k1] at hv;have U:=a8.later ao ((a8.bm (w:=w) (D:=D) (p:=aw os) (ρ:=bI ρ) (E:=aA ρ os E) (E':=E) (fun n hn=>by simp only[aA,hn,if_true]) k2).1 hv);cases y <;>simp only[a8] at U <;>first | (simp[I.bR] at k3;done) | exact U
   ·have U:aI w D E [x] [v]:=lp [x] [v] (.cons hv .nil) (by
     intro z hz;simp only[zy3] at hz;subst hz;cases z <;>simp_all[bh,I.bR])
    have ah:=lN (E':=aA ρ os E) ab hu hw [x] [y] [v] U (by simp[b7,k]);simp only[aI] at ah;obtain ⟨v',rest,cs,e,k1,k2,_⟩:=ah;simp only[zw2] at e;obtain ⟨rfl,_⟩:=e;exact ⟨cs,k1,k2⟩
  obtain ⟨cs,k1,k2⟩:=J;simp only[aI];exact ⟨v,vs,cs,rfl,k1,k2,ih⟩
theorem er.drop(ts:List (Nat×I))(ns:List Nat)(os0:List (Nat×aq)):er (av ts (eL ns os0)) (av ts os0):=fun n x hx=>by
 simp only[av,nR] at hx ⊢;split at hx
 ·cases hx
 ·exact hx
theorem nv.use{run:Array Value→World→(Ending→World→Prop)→Prop}{since:World→aP→aZ→Prop}{avs cargs:List I}{post:cG}{vs:List Value}{a:Act}{w:World}{D:aP}{E:aZ}{ts:List (Nat×I)}{os0 os:List (Nat×aq)}{ρ:List (Nat×Nat)}
  (ab:aV c (av ts os0) a w D E) (h:nv run since cargs os post) (aN:Bool) (hmono:∀ {vs w R R'},run vs w R→(∀ e w,R e w→R' e w)→run vs w R') (hsince:(aN=true→∀ D,since w D (aA ρ os E))∧(aN=false→since w (oo (av ts os0) D E) (aA ρ os E)))
  (hg:gl ρ os os0) (ha:gR aN (av ts (eL (iI ρ os) os0)) ρ os avs cargs) (hb:∀ r os',post r os'→gG aN ρ os os0 r os') (hv:fA (a8 w D E) avs vs) :
  run vs.toArray w fun e w'=>∃ v r os' D2 E2,e=.returned v∧post r os'∧aV c (av ts (dF ρ os'++os0)) a w' D2 E2∧a8 w' D2 E2 (r.bm (bI ρ)) v∧∀ m e,aA ρ os E m=some e→aw os' m=true→∃ e',E2 (bI ρ m)=some e'∧e.le e':=by
 have notName:∀ n,(iI ρ os).contains n=false→∀ m,aw os m=true→bI ρ m≠n:=fun n hn m hm he=>by
  obtain ⟨q,hq,rfl⟩:=v8.1 hm;have:(iI ρ os).contains n=true:=by simp only[iI,List.contains_iff_mem,zy0];exact ⟨q,hq,he⟩
  rw[this] at hn;cases hn
 have other:∀ {D:aP},aV c (av ts os0) a w D E→∀ n e b x,aj (eL (iI ρ os) os0) n=some x→E n=some e→e.aJ=some b→¬ cI (aA ρ os E) b:=fun ab n e b x hx he hb ho=>by
  obtain ⟨m,e',J,U,hb',_⟩:=ab.sQ hg ho;rw[nR] at hx;split at hx
  ·cases hx
  ·rename_i hc;have:=ab.cN n (bI ρ m) e _ b he U hb hb';exact notName n (by simpa using hc) m J this.symm
 cases aN with
 |true =>
  obtain ⟨D1,hD1⟩:∃ D1:aP,D1=fun b o=>D b o∨(b<w.heap.size∧¬ cI (aA ρ os E) b):=⟨_,rfl⟩
  have hD:∀ b o,D b o→D1 b o:=fun b o af=>by rw[hD1];exact .inl af
  have hw:h1 true (av ts (eL (iI ρ os) os0)) D E D1:=by
   refine ⟨hD,fun n T sz es b cap hn aA o _ =>?_,fun _ n x b aX hn aA o _ =>?_,fun _ n ks vs b hn aA =>?_⟩
   ·rw[hD1];exact .inr ⟨ab.fY aA rfl,other ab n _ b _ hn aA rfl⟩
   ·rw[hD1];exact .inr ⟨ab.fY aA rfl,other ab n _ b _ hn aA rfl⟩
   ·rw[hD1];exact .inr ⟨ab.fY aA rfl,other ab n _ b _ hn aA rfl⟩
  have hrv:=uF ab (er.drop ts _ os0) hD hw avs cargs vs ha hv;refine hmono (h w D1 (aA ρ os E) vs (hsince.1 rfl _) (fun b o af=>by
   rw[hD1] at af;rcases af with af | af
   ·exact ab.aQ b o af
   ·exact af.1) (ab.BN hg hD fun b o af ho=>by
    rw[hD1] at af;rcases af with af | af
    ·exact af
    ·exact absurd ho af.2) hrv) ?_
  rintro e w' ⟨v,D',E',r,os',he,hp,J,U,ah,au,h5,h6,h7,h8⟩;obtain ⟨D2,E2,k1,k2⟩:=ab.iv hg hD (fun h=>by cases h) (hb r os' hp) J U ah h5 au h8 h6 h7;exact ⟨v,r,os',D2,E2,he,hp,k1,k2⟩
 |false =>
  obtain ⟨hs1,hw⟩:=ab.ou;have hw':h1 false (av ts (eL (iI ρ os) os0)) D E (oo (av ts os0) D E):=⟨hw.cZ,fun n T sz es b cap hn aA o hlt=>hw.bU n T sz es b cap (er.drop ts _ os0 n _ hn) aA o hlt,(fun hb=>by cases hb),fun hb=>by cases hb⟩
  have hrv:=uF ab (er.drop ts _ os0) hw.cZ hw' avs cargs vs ha hv;refine hmono (h w _ (aA ρ os E) vs (hsince.2 rfl) hs1.aQ (hs1.BN hg (fun _ _ h=>h) fun b o af _=>af) hrv) ?_;rintro e w' ⟨v,D',E',r,os',he,hp,J,U,ah,au,h5,h6,h7,h8⟩;obtain ⟨D2,E2,k1,k2⟩:=hs1.iv hg (fun _ _ h=>h) (fun _ _ _ h=>h) (hb r os' hp) J U ah h5 au h8 h6 h7;exact ⟨v,r,os',D2,E2,he,hp,k1,k2⟩
theorem aV.since{A:ai}{a:Act}{w:World}{D:aP}{E E':aZ}(h:aV c A a w D E)(aA:∀ n,E' n=E n∨E' n=none):yi c w D E' :=
 ⟨h.dQ,h.cR,h.cZ,fun n e hn=>by
  rcases aA n with k | k
  ·rw[k];exact h.dV n e hn
  ·exact .inl k,h.fx,h.qH.nQ fun b ⟨n,e,J,U⟩=>by
   rcases aA n with k | k
   ·rw[k] at J;exact ⟨n,e,J,U⟩
   ·rw[k] at J;cases J⟩
theorem lO(c:cT)(f:FuncId):c.bE.fn f:=by unfold cT.bE;split <;>trivial
theorem vd(c:cT):c.bE.depth.isSome=true→1≤9:=fun _=>by omega
theorem kI{a:Act}{w:World} : ∀ f,o.about c.P w a.eval=some f→c.bE.fn f:=fun f _=>lO c f
theorem lq{g:bQ}(hg:di c.P o=some g)(r:Option Nat)(ρ:Operand→Value):o.semAt r ρ=execOp ρ o:=by
 cases r with
 |none=>rfl
 |some l =>
  refine Oper.semAt_some l ρ o fun cl h =>?_;unfold di at hg;rw[h] at hg;simp at hg
theorem Ac{f:FuncId}{args:Array Value}{w:World}{R:Ending→World→Prop}(h:Calls c.P f args w R):CallsIn c.bE (9-1) c.P f args w R:=by
 have J:CallsIn Fence.wide (9-1) c.P f args w R:=callsIn_wide.2 h;unfold cT.bE;split
 ·exact J
 ·exact J
theorem sa.mono{P:Program}{v:Value}{vs:Array Value}{w:World}{R R':Ending→World→Prop}(h:sa P v vs w R)(hr:∀ e w,R e w→R' e w):sa P v vs w R':=by
 obtain ⟨l,J,fn,tmps,assign,body,U,ah⟩:=h;exact ⟨l,J,fn,tmps,assign,body,U,ah.mono hr⟩
theorem Y6{l:Nat}{f:FuncId}{tmps:Array Value}{assign body:Code}{w:World}{R:Ending→World→Prop}(h:RoundIn Fence.wide 9 c.P l f tmps assign body w R):RoundIn c.bE (9-1) c.P l f tmps assign body w R:=by
 have J:RoundIn Fence.wide (9-1) c.P l f tmps assign body w R:=⟨h.1,fun cc cs _=>h.2 cc cs (room_wide _)⟩
 unfold cT.bE;split
 ·exact J
 ·exact J
theorem h0.wp{B:ai}{g:bQ}(hg:di c.P o=some g)(h:h0 c A o B){a:Act}{w:World}{K:Act→World→Prop}{Q:Exit→Act→World→Prop}(ab:bX c A a w)(hK:∀ a w,bX c B a w→K a w):o.wpIn c.bE 9 c.P a w K Q:=by
 obtain ⟨D,E,ab⟩:=ab;obtain ⟨w',h⟩:=h a w D E ab;refine ⟨kI,?_⟩;rw[lq hg];rcases h with ⟨v,J,U⟩ | ⟨J,U⟩
 ·rw[J];exact hK _ _ U
 ·rw[J];exact hK _ _ U
theorem u3{dr:Bool}{K:ai→Prop}{f:FuncId}{avs:List I}{a1 a2:Option (List I)}{vs:List Value}{dst:Option Nat}{rest:List aH}{a:Act}{w:World}{Kw:Act→World→Prop}{Q:Exit→Act→World→Prop}{g:bQ}(hg:di c.P o=some g)(J:b7 true A avs=a1)(U:b7 false A avs=a2)
  (ab:∀ D E,aV c A a w D E→fA (a8 w D E) avs vs) (hsim:bX c A a w) (hwp:aR c.P c.Y dr K (.call f avs a1 a2 dst rest A)) (af:o.dst=dst) (hdn:∀ k,dst=some k→k<c.n)
  (hrun:e9 c.P f=true→(execOp a.eval o).run c.P w=.ok (.enter f vs.toArray) w)
  (hK:∀ B a' w',aR c.P c.Y dr K (az rest B)→bX c B a' w'→Kw a' w'):o.wpIn c.bE 9 c.P a w Kw Q:=by
 obtain ⟨D,E,hsw⟩:=hsim;have oC:∀ {R:Ending→World→Prop},e9 c.P f=true→Calls c.P f vs.toArray w R→(∀ e w',R e w'→∃ v,e=.returned v∧Kw (a.put o.dst v) w')→o.wpIn c.bE 9 c.P a w Kw Q:=fun {R} hc hcl hR=>by
  refine ⟨kI,?_⟩;rw[lq hg,hrun hc,Oper.uponIn_enter];refine ⟨vd c,Ac (hcl.mono fun e w' he =>?_)⟩;obtain ⟨v,rfl,hv⟩:=hR e w' he;exact hv
 cases hwp with
 |flat r hspec hflat hrest =>
  refine oC hspec.1 (hspec.ZH hsw hflat J (ab D E hsw)) ?_;rintro e w' ⟨v,D',he,hs',hv⟩;refine ⟨v,he,?_⟩;rw[af];exact hK _ _ _ hrest ⟨D',E,hs'.aT hdn hv⟩
 |lead r hspec hrest =>
  refine oC hspec.1 (hspec.ZJ hsw U (ab D E hsw)) ?_;rintro e w' ⟨v,D',he,hs',hv⟩;refine ⟨v,he,?_⟩;rw[af];exact hK _ _ _ hrest ⟨D',E,hs'.aT hdn hv⟩
 |jN ns r hdr hspec hf ho hrest =>
  refine oC hspec.1 (hspec.ZI hsw ns ho hf (ab D E hsw)) ?_;rintro e w' ⟨v,D',E',he,hs',hv⟩;refine ⟨v,he,?_⟩;rw[af];exact hK _ _ _ hrest ⟨D',E',hs'.aT hdn hv⟩
 |bO aN ρ os cargs post hdr hspec hgv ha hb hrest =>
  refine oC hspec.1 (hspec.2.use hsw aN (fun h=>h.mono) ⟨fun _ _=>hsw.pf,fun _=>hsw.pf⟩ hgv ha hb (ab D E hsw)) ?_;rintro e w' ⟨v,r,os',D2,E2,he,hp,hs',hv,_⟩;refine ⟨v,he,?_⟩;rw[af];exact hK _ _ _ (hrest r os' hp) ⟨D2,E2,hs'.aT hdn hv⟩
theorem I4{dr:Bool}{K:ai→Prop}{v:Value}{avs:List I}{vs:List Value}{dst:Option Nat}{rest:List aH}{a:Act}{w:World}{Kw:Act→World→Prop}{Q:Exit→Act→World→Prop}{g:bQ}(hg:di c.P o=some g)
  (ab:∀ D E,aV c A a w D E→fA (a8 w D E) avs vs) (hsim:bX c A a w) (hwp:aR c.P c.Y dr K (.kN v avs dst rest A)) (af:o.dst=dst) (hdn:∀ k,dst=some k→k<c.n)
  (hrun:∀ l,v=.func (.yield l) #[] #[]→(execOp a.eval o).run c.P w=(Instr.yield l vs.toArray).run c.P w)
  (hK:∀ B a' w',aR c.P c.Y dr K (az rest B)→bX c B a' w'→Kw a' w'):o.wpIn c.bE 9 c.P a w Kw Q:=by
 obtain ⟨D,E,hsw⟩:=hsim;cases hwp with
 |uf os cargs post hdr hY hgv ha hb hrest =>
  have hyr:=(hsw.eX.2 _ _ _ _ hY).use (ρ:=[]) hsw false (fun h=>h.mono) ⟨(fun h=>by cases h),fun _=>hsw.ou.1.since (fun n=>by simp only[aA,bI];split <;>simp)⟩ hgv ha hb (ab D E hsw);obtain ⟨l,rfl,fn,tmps,assign,body,U,ah⟩:=hyr;refine ⟨kI,?_⟩;rw[lq hg,hrun l rfl,U,Oper.uponIn_round];refine ⟨vd c,Y6 (ah.mono fun e w' he =>?_)⟩;obtain ⟨v,r,os',D2,E2,rfl,hp,hs',hv,_⟩:=he;rw[af];exact hK _ _ _ (hrest r os' hp) ⟨D2,E2,hs'.aT hdn hv⟩
end
section
variable {c:cT} {A:ai} {o:Oper}
theorem nE{P:Program}{n:Nat}{aW:Array Oper}{g:aH}(h:lG P n aW o=some g):di P o=some g.op∧g.dst=o.dst∧(∀ k,o.dst=some k→k<n) ∧
  ((o.guard=none∧g.guard=none)∨∃ j b t,o.guard=some (j,b)∧(aW[j]?).bind (·.dst)=some t∧g.guard=some (t,b)):=by
 unfold lG at h;split at h
 ·cases h
 rename_i g' hg';split at h
 case isFalse=>cases h
 rename_i af;have hdst:∀ k,o.dst=some k→k<n:=by
  intro k hk;rw[hk] at af;simpa[AE] using af
 split at h
 ·rename_i hgd;simp only[v6] at h;subst h;exact ⟨hg',rfl,hdst,.inl ⟨hgd,rfl⟩⟩
 ·rename_i j b hgd;split at h
  ·rename_i t ht;simp only[v6] at h;subst h;exact ⟨hg',rfl,hdst,.inr ⟨j,b,t,hgd,ht,rfl⟩⟩
  ·cases h
theorem BA{dr:Bool}{K:ai→Prop}{op:bQ}{dst:Option Nat}{rest:List aH}{a:Act}{w:World}{Kw:Act→World→Prop}{Q:Exit→Act→World→Prop}(hop:di c.P o=some op)(af:o.dst=dst)(hdn:∀ k,dst=some k→k<c.n)
  (hsim:bX c A a w) (hK:∀ B a' w',aR c.P c.Y dr K (az rest B)→bX c B a' w'→Kw a' w') (h:aR c.P c.Y dr K (cP (bn A op) fun v=>az rest (A.aT dst v))):o.wpIn c.bE 9 c.P a w Kw Q:=by
 cases hv:bn A op with
 |some v =>
  rw[hv] at h;exact ((C5 hop hv).does (by rw[af];exact hdn)).wp hop hsim (fun a' w' ab=>by rw[af] at ab;exact hK _ a' w' h ab)
 |none=>rw[hv] at h;cases h
theorem Vk{dr:Bool}{K:ai→Prop}{dst:Option Nat}{rest:List aH}{a:Act}{w:World}{Kw:Act→World→Prop}{Q:Exit→Act→World→Prop}{z:I}(hop:di c.P o=some (.alloc z))(af:o.dst=dst)(hdn:∀ k,dst=some k→k<c.n)
  (hwp:aR c.P c.Y dr K (bl A dst (.alloc z) rest (az rest))) (hsim:bX c A a w) (hK:∀ B a' w',aR c.P c.Y dr K (az rest B)→bX c B a' w'→Kw a' w'):o.wpIn c.bE 9 c.P a w Kw Q:=by
 have hop0:=hop;simp only[bl] at hwp;split at hwp
 case h_2=>cases hwp
 rename_i d;split at hwp
 case h_2=>cases hwp
 rename_i hf;unfold di at hop;split at hop <;>try (first | (simp at hop;done) | ((repeat' split at hop) <;>simp at hop;done))
 rename_i t ho;simp only[t7,bQ.alloc.injEq] at hop;obtain ⟨z',hz,rfl⟩:=hop;exact (L6 ho hz af (hdn d rfl) hf).wp hop0 hsim (fun a' w' ab=>hK _ a' w' hwp ab)
theorem Vn{dr:Bool}{K:ai→Prop}{dst:Option Nat}{rest:List aH}{a:Act}{w:World}{Kw:Act→World→Prop}{Q:Exit→Act→World→Prop}{x:aO}(hop:di c.P o=some (.box x))(af:o.dst=dst)(hdn:∀ k,dst=some k→k<c.n)
  (hwp:aR c.P c.Y dr K (bl A dst (.box x) rest (az rest))) (hsim:bX c A a w) (hK:∀ B a' w',aR c.P c.Y dr K (az rest B)→bX c B a' w'→Kw a' w'):o.wpIn c.bE 9 c.P a w Kw Q:=by
 have hop0:=hop;simp only[bl] at hwp;split at hwp
 case h_2=>cases hwp
 rename_i d;split at hwp
 case h_2=>cases hwp
 rename_i hf;split at hwp
 case isFalse=>cases hwp
 rename_i hv;unfold di at hop;split at hop <;>try (first | (simp at hop;done) | ((repeat' split at hop) <;>simp at hop;done))
 rename_i t y ho;simp only[t7,bQ.box.injEq] at hop;obtain ⟨z',hz,rfl⟩:=hop;exact (Mb ho hz hv af (hdn d rfl) hf).wp hop0 hsim (fun a' w' ab=>hK _ a' w' hwp ab)
theorem Vz{dr:Bool}{K:ai→Prop}{dst:Option Nat}{rest:List aH}{a:Act}{w:World}{Kw:Act→World→Prop}{Q:Exit→Act→World→Prop}{s:Option Nat}{x v:aO}(hop:di c.P o=some (.aU s x v))(af:o.dst=dst)(hdn:∀ k,dst=some k→k<c.n)
  (hwp:aR c.P c.Y dr K (bl A dst (.aU s x v) rest (az rest))) (hsim:bX c A a w) (hK:∀ B a' w',aR c.P c.Y dr K (az rest B)→bX c B a' w'→Kw a' w'):o.wpIn c.bE 9 c.P a w Kw Q:=by
 have hop0:=hop;simp only[bl] at hwp;split at hwp
 case h_2=>cases hwp
 split at hwp
 case h_2=>cases hwp
 rename_i n p hp;split at hwp
 case h_2=>cases hwp
 rename_i b hb;split at hwp
 case h_2=>cases hwp
 rename_i old hat;split at hwp
 case isFalse=>cases hwp
 rename_i hok;unfold di at hop;split at hop <;>try (first | (simp at hop;done) | ((repeat' split at hop) <;>simp at hop;done))
 rename_i t y z ho;split at hop
 case h_2=>cases hop
 rename_i s' x' v' J U ah;split at hop
 case isFalse=>cases hop
 rename_i hk;simp only[v6,bQ.aU.injEq] at hop;obtain ⟨rfl,rfl,rfl⟩:=hop;exact (Mi ho J hk U ah hp hb hat hok.1 hok.2.1 hok.2.2 af).wp hop0 hsim (fun a' w' ab=>hK _ a' w' hwp ab)
theorem Vo{dr:Bool}{K:ai→Prop}{dst:Option Nat}{rest:List aH}{a:Act}{w:World}{Kw:Act→World→Prop}{Q:Exit→Act→World→Prop}{f:FuncId}{args:List aO}(hop:di c.P o=some (.call f args))(af:o.dst=dst)(hdn:∀ k,dst=some k→k<c.n)
  (hwp:aR c.P c.Y dr K (bl A dst (.call f args) rest (az rest))) (hsim:bX c A a w) (hK:∀ B a' w',aR c.P c.Y dr K (az rest B)→bX c B a' w'→Kw a' w'):o.wpIn c.bE 9 c.P a w Kw Q:=by
 have hop0:=hop;simp only[bl] at hwp;unfold di at hop;split at hop <;>try (first | (simp at hop;done) | ((repeat' split at hop) <;>simp at hop;done))
 rename_i f' xs ts ho;split at hop
 case isFalse=>simp at hop
 simp only[t7,bQ.call.injEq] at hop;obtain ⟨ys,hys,rfl,rfl⟩:=hop;refine u3 (vs:=xs.toList.map a.eval) hop0 rfl rfl (fun D E ab=>kK ab xs.toList ts.toList ys hys) hsim hwp af hdn (fun hc =>?_) hK;have e:xs.map a.eval=(xs.toList.map a.eval).toArray:=by apply Array.ext';simp
 simp only[execOp,ho,resolve,Act.eval,Deferred.ofValue,Sem.run_bind,Sem.run_pure,Result.andThen_ok,invoke,Array.append_empty,Array.empty_append,nh hc];rw[←e]
theorem VA{dr:Bool}{K:ai→Prop}{dst:Option Nat}{rest:List aH}{a:Act}{w:World}{Kw:Act→World→Prop}{Q:Exit→Act→World→Prop}{f:FuncId}{args:List aO}(hop:di c.P o=some (.j7 f args))(af:o.dst=dst)(hdn:∀ k,dst=some k→k<c.n)
  (hwp:aR c.P c.Y dr K (bl A dst (.j7 f args) rest (az rest))) (hsim:bX c A a w) (hK:∀ B a' w',aR c.P c.Y dr K (az rest B)→bX c B a' w'→Kw a' w'):o.wpIn c.bE 9 c.P a w Kw Q:=by
 have hop0:=hop;simp only[bl] at hwp;unfold di at hop;split at hop <;>try (first | (simp at hop;done) | ((repeat' split at hop) <;>simp at hop;done))
 rename_i f' xs ts ho;split at hop
 case isTrue=>simp at hop
 simp only[t7,bQ.j7.injEq] at hop;obtain ⟨ys,hys,rfl,rfl⟩:=hop;obtain ⟨D,E,ab⟩:=hsim;cases hwp with
 |ext r hdr hx hw =>
  obtain ⟨v,g1,g2⟩:=hx c a w D E (xs.toList.map a.eval) rfl ab (kK ab xs.toList ts.toList ys hys);have e:xs.map a.eval=(xs.toList.map a.eval).toArray:=by apply Array.ext';simp
  have hrun:(execOp a.eval o).run c.P w=.ok (.value v) w:=by
   simp only[execOp,ho,resolve,Act.eval,Deferred.ofValue,Sem.run_bind,Sem.run_pure,Result.andThen_ok,invoke,Array.append_empty,Array.empty_append];rw[←e] at g1;exact g1
  refine ⟨kI,?_⟩;rw[lq hop0,hrun,Oper.uponIn_value];exact hK _ _ _ hw ⟨D,E,by rw[af];exact ab.aT hdn g2⟩
theorem Vt{dr:Bool}{K:ai→Prop}{dst:Option Nat}{rest:List aH}{a:Act}{w:World}{Kw:Act→World→Prop}{Q:Exit→Act→World→Prop} (hop:di c.P o=some (.iH))(af:o.dst=dst)(hdn:∀ k,dst=some k→k<c.n)
  (hwp:aR c.P c.Y dr K (bl A dst (.iH) rest (az rest))) (hsim:bX c A a w) (hK:∀ B a' w',aR c.P c.Y dr K (az rest B)→bX c B a' w'→Kw a' w'):o.wpIn c.bE 9 c.P a w Kw Q:=by
 have hop0:=hop;simp only[bl] at hwp;split at hwp
 case h_2=>cases hwp
 rename_i d;split at hwp
 case h_2=>cases hwp
 rename_i hf;unfold di at hop;split at hop <;>try (first | (simp at hop;done) | ((repeat' split at hop) <;>simp at hop;done))
 rename_i t ho;exact (Mf ho af (hdn d rfl) hf).wp hop0 hsim (fun a' w' ab=>hK _ a' w' hwp ab)
theorem Vu{dr:Bool}{K:ai→Prop}{dst:Option Nat}{rest:List aH}{a:Act}{w:World}{Kw:Act→World→Prop}{Q:Exit→Act→World→Prop}{e:TypeId}{bytes:Nat}{z:I}{n:aO}(hop:di c.P o=some (.ki e bytes z n))(af:o.dst=dst)(hdn:∀ k,dst=some k→k<c.n)
  (hwp:aR c.P c.Y dr K (bl A dst (.ki e bytes z n) rest (az rest))) (hsim:bX c A a w) (hK:∀ B a' w',aR c.P c.Y dr K (az rest B)→bX c B a' w'→Kw a' w'):o.wpIn c.bE 9 c.P a w Kw Q:=by
 have hop0:=hop;simp only[bl] at hwp;split at hwp
 case h_2=>cases hwp
 rename_i d;split at hwp
 case h_2=>cases hwp
 rename_i hf;split at hwp
 case h_2=>cases hwp
 rename_i k m hn;split at hwp
 case isFalse=>cases hwp
 rename_i hc;unfold di at hop;split at hop <;>try (first | (simp at hop;done) | ((repeat' split at hop) <;>simp at hop;done))
 rename_i t l l' ho;split at hop
 case h_2=>cases hop
 rename_i e' n' hu ao;split at hop
 case h_2=>cases hop
 rename_i z' hz;split at hop
 case isFalse=>cases hop
 rename_i hc2;simp only[v6,bQ.ki.injEq] at hop;obtain ⟨rfl,rfl,rfl,rfl⟩:=hop;obtain ⟨j,rfl⟩:=Int.eq_ofNat_of_zero_le hc.1;simp only[Int.toNat_natCast] at hc hwp;exact (Mg ho (Za hc2.1) hu ao hn hz hc2.2.1 hc2.2.2 hc.2.1 hc.2.2 af (hdn d rfl) hf).wp hop0 hsim (fun a' w' ab=>hK _ a' w' hwp ab)
theorem Vv{dr:Bool}{K:ai→Prop}{dst:Option Nat}{rest:List aH}{a:Act}{w:World}{Kw:Act→World→Prop}{Q:Exit→Act→World→Prop}{ty:cF}{m k v:aO}(hop:di c.P o=some (.eT ty m k v))(af:o.dst=dst)(hdn:∀ k,dst=some k→k<c.n)
  (hwp:aR c.P c.Y dr K (bl A dst (.eT ty m k v) rest (az rest))) (hsim:bX c A a w) (hK:∀ B a' w',aR c.P c.Y dr K (az rest B)→bX c B a' w'→Kw a' w'):o.wpIn c.bE 9 c.P a w Kw Q:=by
 have hop0:=hop;simp only[bl] at hwp;split at hwp
 case h_2=>cases hwp
 split at hwp
 case h_2=>cases hwp
 rename_i n hm;split at hwp
 case h_2=>cases hwp
 rename_i ks vs hn;split at hwp
 case h_2=>cases hwp
 rename_i ks' vs' ao;unfold di at hop;split at hop <;>try (first | (simp at hop;done) | ((repeat' split at hop) <;>simp at hop;done))
 all_goals
  rename_i t mo ko vo ho;split at hop
  case h_2=>cases hop
  rename_i kt et m' k' hu J U;split at hop
  case h_2=>cases hop
  rename_i ty' v' hk ah;simp only[v6,bQ.eT.injEq] at hop;obtain ⟨rfl,rfl,rfl,rfl⟩:=hop
 ·exact (AB (.inl ho) hu hk J U ah hm hn ao af).wp hop0 hsim (fun a' w' ab=>hK _ a' w' hwp ab)
 ·exact (AB (.inr ho) hu hk J U ah hm hn ao af).wp hop0 hsim (fun a' w' ab=>hK _ a' w' hwp ab)
theorem Vs{dr:Bool}{K:ai→Prop}{dst:Option Nat}{rest:List aH}{a:Act}{w:World}{Kw:Act→World→Prop}{Q:Exit→Act→World→Prop}{ty:cF}{m k:aO}(hop:di c.P o=some (.iG ty m k))(af:o.dst=dst)(hdn:∀ k,dst=some k→k<c.n)
  (hwp:aR c.P c.Y dr K (bl A dst (.iG ty m k) rest (az rest))) (hsim:bX c A a w) (hK:∀ B a' w',aR c.P c.Y dr K (az rest B)→bX c B a' w'→Kw a' w'):o.wpIn c.bE 9 c.P a w Kw Q:=by
 have hop0:=hop;simp only[bl] at hwp;split at hwp
 case h_2=>cases hwp
 split at hwp
 case h_2=>cases hwp
 rename_i n hm;split at hwp
 case h_2=>cases hwp
 rename_i ks vs hn;split at hwp
 case h_2=>cases hwp
 rename_i ks' vs' ao;unfold di at hop;split at hop <;>try (first | (simp at hop;done) | ((repeat' split at hop) <;>simp at hop;done))
 rename_i args tys ho;split at hop
 case h_2=>cases hop
 rename_i mo ko t t' ha ht;split at hop
 case h_2=>cases hop
 rename_i kt et m' k' hu J U;simp only[t7,bQ.iG.injEq] at hop;obtain ⟨ty',hk,rfl,rfl,rfl⟩:=hop;have ha':args = #[mo,ko]:=by apply Array.ext';simpa using ha
 have ht':tys = #[t,t']:=by apply Array.ext';simpa using ht
 subst ha' ht';exact (Me ho hu hk J U hm hn ao af).wp hop0 hsim (fun a' w' ab=>hK _ a' w' hwp ab)
theorem Vy{dr:Bool}{K:ai→Prop}{dst:Option Nat}{rest:List aH}{a:Act}{w:World}{Kw:Act→World→Prop}{Q:Exit→Act→World→Prop}{x:aO}(hop:di c.P o=some (.jD x))(af:o.dst=dst)(hdn:∀ k,dst=some k→k<c.n)
  (hwp:aR c.P c.Y dr K (bl A dst (.jD x) rest (az rest))) (hsim:bX c A a w) (hK:∀ B a' w',aR c.P c.Y dr K (az rest B)→bX c B a' w'→Kw a' w'):o.wpIn c.bE 9 c.P a w Kw Q:=by
 have hop0:=hop;simp only[bl] at hwp;split at hwp
 case h_2=>cases hwp
 rename_i d;split at hwp
 case h_2=>cases hwp
 rename_i hf;split at hwp
 case h_2=>cases hwp
 rename_i ks vs hx;unfold di at hop;split at hop <;>try (first | (simp at hop;done) | ((repeat' split at hop) <;>simp at hop;done))
 rename_i t y ho;split at hop
 case h_2=>cases hop
 rename_i kt et hu;simp only[t7,bQ.jD.injEq] at hop;obtain ⟨z,hz,rfl⟩:=hop;exact (Mh ho hu hz hx af (hdn d rfl) hf).wp hop0 hsim (fun a' w' ab=>hK _ a' w' hwp ab)
theorem Vx{dr:Bool}{K:ai→Prop}{dst:Option Nat}{rest:List aH}{a:Act}{w:World}{Kw:Act→World→Prop}{Q:Exit→Act→World→Prop}{x:aO}(hop:di c.P o=some (.ib x))(af:o.dst=dst)(hdn:∀ k,dst=some k→k<c.n)
  (hwp:aR c.P c.Y dr K (bl A dst (.ib x) rest (az rest))) (hsim:bX c A a w) (hK:∀ B a' w',aR c.P c.Y dr K (az rest B)→bX c B a' w'→Kw a' w'):o.wpIn c.bE 9 c.P a w Kw Q:=by
 have hop0:=hop;simp only[bl] at hwp;split at hwp
 case h_2=>cases hwp
 rename_i n hx;split at hwp
 case h_2=>cases hwp
 rename_i ks vs left cur hn;unfold di at hop;split at hop <;>try (first | (simp at hop;done) | ((repeat' split at hop) <;>simp at hop;done))
 rename_i y ho;simp only[t7,bQ.ib.injEq] at hop;obtain ⟨z,hz,rfl⟩:=hop;obtain ⟨D,E,ab⟩:=hsim;obtain ⟨w',v,hrun,hor⟩:=Xa ho hz hx hn (by rw[af];exact hdn) ab;refine ⟨kI,?_⟩;rw[lq hop0,hrun,Oper.uponIn_value];rw[af] at hor;split at hwp
 ·rename_i ao;rcases hor with ⟨_,hor⟩ | ⟨i,k,x,hi,_⟩
  ·exact hK _ _ _ hwp (by rw[af];exact hor)
  ·rw[ao] at hi;cases hi
 ·rename_i ao;rcases hor with ⟨h,_⟩ | ⟨i,k,x,hi,hk,hx,hor⟩
  ·exact absurd h ao
  ·cases hwp with
   |any hdr hall =>
    have:=hall i hi;simp only[hk,hx] at this;exact hK _ _ _ this (by rw[af];exact hor)
theorem Vp{dr:Bool}{K:ai→Prop}{dst:Option Nat}{rest:List aH}{a:Act}{w:World}{Kw:Act→World→Prop}{Q:Exit→Act→World→Prop}{x:aO}{args:List aO}(hop:di c.P o=some (.fL x args))(af:o.dst=dst)(hdn:∀ k,dst=some k→k<c.n)
  (hwp:aR c.P c.Y dr K (bl A dst (.fL x args) rest (az rest))) (hsim:bX c A a w) (hK:∀ B a' w',aR c.P c.Y dr K (az rest B)→bX c B a' w'→Kw a' w'):o.wpIn c.bE 9 c.P a w Kw Q:=by
 have hop0:=hop;simp only[bl] at hwp;unfold di at hop;split at hop <;>try (first | (simp at hop;done) | ((repeat' split at hop) <;>simp at hop;done))
 rename_i y xs ts _ ho;split at hop
 case h_2=>cases hop
 rename_i y' ys J U;simp only[v6,bQ.fL.injEq] at hop;obtain ⟨rfl,rfl⟩:=hop;obtain ⟨D,E,ab⟩:=hsim;have hv:=bV ab J;split at hwp
 ·rename_i f caps hx;rw[hx] at hv;obtain ⟨cs,q1,q2⟩:=hv;simp only[al] at q2;obtain ⟨vs,q3,q4⟩:=q2;have hval:a.eval y=ju f vs:=by simpa[bB,I.isAgg,q3] using q1.symm
  have caps_ok:∀ D' E',aV c A a w D' E'→fA (a8 w D' E') caps vs:=fun D' E' hs'=>by
   have hv':=bV hs' J;rw[hx] at hv';obtain ⟨cs',q1',q2'⟩:=hv';simp only[al] at q2';obtain ⟨vs',q3',q4'⟩:=q2';have hval':a.eval y=ju f vs':=by simpa[bB,I.isAgg,q3'] using q1'.symm
   rw[hval] at hval';have:=M8 hval';subst this;exact rA q4'
  have e:xs.map a.eval=(xs.toList.map a.eval).toArray:=by apply Array.ext';simp
  rcases Nat.lt_or_ge f 1000000 with hf | hf
  ·rw[vz hf,vy hf] at hwp;rw[mI hf] at hval;refine u3 (vs:=xs.toList.map a.eval++vs) hop0 rfl rfl (fun D' E' hs'=>(kK hs' xs.toList ts.toList ys U).append (caps_ok D' E' hs')) ⟨D,E,ab⟩ hwp af hdn (fun hc =>?_) hK;simp only[execOp,ho,resolve,hval,Deferred.ofValue,Sem.run_bind,Sem.run_pure,Result.andThen_ok,invoke,Array.empty_append,nh hc];rw[e];simp
  ·obtain ⟨g,rfl⟩:∃ g:Nat,f=g+1000000:=⟨Nat.sub f 1000000,(Nat.sub_add_cancel hf).symm⟩
   rw[sE,vx] at hwp;rw[ql] at hval;refine u3 (vs:=vs++xs.toList.map a.eval) hop0 rfl rfl (fun D' E' hs'=>(caps_ok D' E' hs').append (kK hs' xs.toList ts.toList ys U)) ⟨D,E,ab⟩ hwp af hdn (fun hc =>?_) hK;simp only[execOp,ho,resolve,hval,Deferred.ofValue,Sem.run_bind,Sem.run_pure,Result.andThen_ok,invoke,Array.append_empty,nh hc];rw[e];simp
 ·rename_i u hx;rw[hx] at hv;obtain ⟨cs,q1,q2⟩:=hv;simp only[al] at q2;have hval:a.eval y=u:=by simpa[bB,I.isAgg,q2.1] using q1.symm
  refine I4 (vs:=xs.toList.map a.eval) hop0 (fun D' E' hs'=>kK hs' xs.toList ts.toList ys U) ⟨D,E,ab⟩ hwp af hdn (fun l ao =>?_) hK;subst ao;have e:xs.map a.eval=(xs.toList.map a.eval).toArray:=by apply Array.ext';simp
  simp only[execOp,ho,resolve,hval,Deferred.ofValue,Sem.run_bind,Sem.run_pure,Result.andThen_ok,invoke,Array.empty_append];rw[e]
 ·cases hwp
theorem Vw{dr:Bool}{K:ai→Prop}{dst:Option Nat}{rest:List aH}{a:Act}{w:World}{Kw:Act→World→Prop}{Q:Exit→Act→World→Prop}{neg:Bool}{x:aO}(hop:di c.P o=some (.nilS neg x))(af:o.dst=dst)(hdn:∀ k,dst=some k→k<c.n)
  (hwp:aR c.P c.Y dr K (bl A dst (.nilS neg x) rest (az rest))) (hsim:bX c A a w) (hK:∀ B a' w',aR c.P c.Y dr K (az rest B)→bX c B a' w'→Kw a' w'):o.wpIn c.bE 9 c.P a w Kw Q:=by
 have hop0:=hop;simp only[bl] at hwp;split at hwp
 case isFalse=>exact BA hop af hdn hsim hK hwp
 rename_i hu;cases hwp with
 |any hdr hall =>
 unfold di at hop;split at hop <;>try (first | (simp at hop;done) | ((repeat' split at hop) <;>simp at hop;done))
 rename_i bop t y z yt ho;split at hop
 ·simp at hop
 ·simp at hop
 ·rename_i e y' z' hut J U;split at hop
  ·rename_i s;split at hop
   ·rename_i hopp;simp only[v6,bQ.nilS.injEq] at hop;obtain ⟨rfl,rfl⟩:=hop;have ho':o.op=.binOp (if (bop==.neq)=true then .neq else .eql) t y z yt:=by
     rcases hopp with rfl | rfl <;>simpa using ho
    obtain ⟨D,E,ab⟩:=hsim;have hund:∃ sz,ak A y'=.slice sz []∨ak A y'=.c0 sz:=by
     generalize ak A y'=q at hu;cases q <;>simp only[jH,Z2,List.isEmpty_iff] at hu
     ·rename_i sz;exact ⟨sz,.inr rfl⟩
     ·rename_i sz es;subst hu;exact ⟨sz,.inl rfl⟩
    obtain ⟨b,hrun⟩:=Xb ho' hut J U hund ab;refine ⟨kI,?_⟩;rw[lq hop0,hrun,Oper.uponIn_value];have hb:=hall (if b then 0 else 1) (by cases b <;>simp);refine hK _ _ _ hb ⟨D,E,?_⟩;rw[af];have e:((if b=true then (0:Nat) else 1)==0)=b:=by cases b <;>rfl
    rw[e];exact ab.aT hdn (nS b)
   ·cases hop
  ·cases hop
 ·split at hop <;>simp at hop
 ·split at hop <;>simp at hop
 ·cases hop
theorem Vl{dr:Bool}{K:ai→Prop}{dst:Option Nat}{rest:List aH}{a:Act}{w:World}{Kw:Act→World→Prop}{Q:Exit→Act→World→Prop}{e:TypeId}{esz bytes:Nat}{z:I}{s x:aO}(hop:di c.P o=some (.c9 e esz bytes z s x))(af:o.dst=dst)(hdn:∀ k,dst=some k→k<c.n)
  (hwp:aR c.P c.Y dr K (bl A dst (.c9 e esz bytes z s x) rest (az rest))) (hsim:bX c A a w) (hK:∀ B a' w',aR c.P c.Y dr K (az rest B)→bX c B a' w'→Kw a' w'):o.wpIn c.bE 9 c.P a w Kw Q:=by
 have hop0:=hop;simp only[bl] at hwp;unfold di at hop;split at hop <;>try (first | (simp at hop;done) | ((repeat' split at hop) <;>simp at hop;done))
 rename_i args tys ho;split at hop
 case h_2=>cases hop
 rename_i y q t t' ha ht;split at hop
 case h_2=>cases hop
 rename_i e' s' x' k1 k2 k3;split at hop
 case isFalse=>split at hop <;>simp at hop
 rename_i hk;simp only[t7,bQ.c9.injEq] at hop;obtain ⟨zz,hz1,rfl,rfl,rfl,rfl,rfl,rfl⟩:=hop;obtain ⟨rfl,hk2,hk3⟩:=hk;have ha':args = #[y,q]:=by apply Array.ext';simpa using ha
 have ht':tys = #[t,t]:=by apply Array.ext';simpa using ht
 subst ha' ht';rw[hz1] at hk3;simp only[Z8,v6] at hk3;have hinfo:(c.P.info? e').isSome=true:=by
  obtain ⟨ti,_,hti,_⟩:=lB hz1;rw[hti];rfl
 have grow:∀ es ys,eK A (c.P.cellsOf e') (ak A s')=some es→eK A (c.P.cellsOf e') (ak A x')=some ys→ys≠[]→(∀ a w D E,aV c A a w D E→∀ ad l cp,a.eval y=.slice ad l cp→cp<l+ys.length) →
   aR c.P c.Y dr K (fX A dst (c.P.cellsOf e') (c.P.bytesOf e') zz es ys (az rest))→o.wpIn c.bE 9 c.P a w Kw Q:=fun es ys hse hsx hne hfull h=>by
  simp only[fX] at h;split at h
  case h_2=>cases h
  rename_i d;split at h
  case h_2=>cases h
  rename_i hf;split at h
  case isFalse=>cases h
  rename_i hb;cases h with
  |any hdr hall =>
   obtain ⟨D,E,ab⟩:=hsim;obtain ⟨v,w',m,g1,g2,g3⟩:=He ho k1 k2 k3 hz1 hk3 hse hsx hb.1 af (hdn d rfl) hf hne ab (hfull a w D E ab) hb.2;refine ⟨kI,?_⟩;rw[lq hop0,g1,Oper.uponIn_value,af];rw[af] at g3;exact hK _ _ _ (hall m g2) g3
 split at hwp
 ·rename_i n l hs';split at hwp
  case h_2=>cases hwp
  rename_i sz ys hx';split at hwp
  case h_3=>cases hwp
  case h_2 =>
   rename_i T xs hn;split at hwp
   case isFalse=>cases hwp
   rename_i hok;obtain ⟨J,U,ah,au,h5,h6,h7,h8⟩:=hok;subst ah au;have hl5:ys.length=(qy ys).length:=(congrArg List.length h5).trans (by simp);rw[hl5] at h7 h8 hwp;rw[h5] at hx';have hd':=L8 (o:=o) ho k1 k2 k3 hz1 U hs' hn J hx' (fun e=>h6 (by rw[h5,e];rfl)) h7 h8 (by rw[af];exact hdn);exact hd'.wp hop0 hsim (fun a' w' ab=>by rw[af] at ab;exact hK _ a' w' hwp ab)
  rename_i T sz' es hn;split at hwp
  case isFalse=>cases hwp
  rename_i hok;obtain ⟨J,U,ah,au,h5,h6,h7⟩:=hok;subst U ah au;have hd':=L7 (o:=o) ho k1 k2 k3 hz1 hk3 hk2 hs' hn J hx' rfl h5 h6 h7 (by rw[af];exact hdn);exact hd'.wp hop0 hsim (fun a' w' ab=>by rw[af] at ab;exact hK _ a' w' hwp ab)
 ·simp only[e7] at hwp;split at hwp
  case h_2=>cases hwp
  rename_i es ys hse hsx;split at hwp
  ·rename_i hne;subst hne;exact ((Ma ho k1 hinfo k2 k3 hse hsx).does (by rw[af];exact hdn)).wp hop0 hsim (fun a' w' ab=>by rw[af] at ab;exact hK _ a' w' hwp ab)
  ·rename_i hne;have hpos:0<ys.length:=List.length_pos_iff.2 hne;split at hwp
   ·rename_i z0 hsv;refine grow es ys hse hsx hne (fun a w D E ab ad l cp hv =>?_) hwp;have aY:=bV ab k2;rw[hsv] at aY;obtain ⟨cs,q1,q2⟩:=aY;simp only[al] at q2;have:a.eval y=.slice none 0 0:=by simpa[bB,I.isAgg,q2] using q1.symm
    rw[this] at hv;simp only[Value.slice.injEq] at hv;omega
   ·rename_i z0 hsv;refine grow es ys hse hsx hne (fun a w D E ab ad l cp hv =>?_) hwp;have aY:=bV ab k2;rw[hsv] at aY;obtain ⟨cs,q1,q2⟩:=aY;simp only[al] at q2;obtain ⟨ad',q2⟩:=q2;have:a.eval y=.slice ad' 0 0:=by simpa[bB,I.isAgg,q2] using q1.symm
    rw[this] at hv;simp only[Value.slice.injEq] at hv;omega
   ·rename_i n p sz lo l hsv;split at hwp
    case h_2=>cases hwp
    rename_i b hn;split at hwp
    case h_2=>cases hwp
    rename_i fs hat;split at hwp
    ·rename_i hroom;split at hwp
     case isFalse=>cases hwp
     rename_i hok;obtain ⟨rfl,hsh⟩:=hok;exact (L9 ho k1 hinfo k2 k3 hsv hn hat hsx hroom hsh (by rw[af];exact hdn)).wp hop0 hsim (fun a' w' ab=>by rw[af] at ab;exact hK _ a' w' hwp ab)
    ·rename_i hroom;refine grow es ys hse hsx hne (fun a w D E ab ad l' cp hv =>?_) hwp;have aY:=bV ab k2;rw[hsv] at aY;obtain ⟨_,bb,cs,T,off,c1,c2,c3,_,_,_,_,_,_,_,_,_,_,r1,n2,n5⟩:=ab.view (fs:=fs) aY (by simp only[cK,hn,hat]);rw[n5] at hv;simp only[Value.slice.injEq] at hv;omega
   ·cases hwp
theorem Vm{dr:Bool}{K:ai→Prop}{dst:Option Nat}{rest:List aH}{a:Act}{w:World}{Kw:Act→World→Prop}{Q:Exit→Act→World→Prop}{e:TypeId}{esz bytes:Nat}{z:I}{s n:aO}(hop:di c.P o=some (.lE e esz bytes z s n))(af:o.dst=dst)(hdn:∀ k,dst=some k→k<c.n)
  (hwp:aR c.P c.Y dr K (bl A dst (.lE e esz bytes z s n) rest (az rest))) (hsim:bX c A a w) (hK:∀ B a' w',aR c.P c.Y dr K (az rest B)→bX c B a' w'→Kw a' w'):o.wpIn c.bE 9 c.P a w Kw Q:=by
 have hop0:=hop;simp only[bl] at hwp;unfold di at hop;split at hop <;>try (first | (simp at hop;done) | ((repeat' split at hop) <;>simp at hop;done))
 rename_i args tys ho;split at hop
 case h_2=>cases hop
 rename_i y q t t' ha ht;split at hop
 case h_2=>cases hop
 rename_i e' s' x' k1 k2 k3;split at hop
 case isTrue=>simp at hop
 split at hop
 case isFalse=>cases hop
 rename_i hk;simp only[t7,bQ.lE.injEq] at hop;obtain ⟨zz,hz1,rfl,rfl,rfl,rfl,rfl,rfl⟩:=hop;obtain ⟨hint,hk2,hk3⟩:=hk;have ha':args = #[y,q]:=by apply Array.ext';simpa using ha
 have ht':tys = #[t,t']:=by apply Array.ext';simpa using ht
 subst ha' ht';rw[hz1] at hk3;simp only[Z8,v6] at hk3;obtain ⟨kt,hkt⟩:∃ kt,c.P.underlying t'=some (.int kt):=by
  cases hu:c.P.underlying t' with
  |none=>rw[hu] at hint;cases hint
  |some dsc=>cases dsc <;>rw[hu] at hint <;>first | exact ⟨_,rfl⟩ | cases hint
 split at hwp
 case h_2=>cases hwp
 rename_i kx bS hx';simp only[uE] at hwp;split at hwp
 case h_2=>cases hwp
 rename_i es hse;split at hwp
 case h_2=>cases hwp
 rename_i nn p sz lo l hsv;split at hwp
 case h_2=>cases hwp
 rename_i bb hn;split at hwp
 case h_2=>cases hwp
 rename_i fs hat;split at hwp
 case isFalse=>cases hwp
 rename_i hroom;simp only[fX] at hwp;split at hwp
 case h_2=>cases hwp
 rename_i d;split at hwp
 case h_2=>cases hwp
 rename_i hf;split at hwp
 case isFalse=>cases hwp
 rename_i hb;rw[List.length_replicate] at hb;cases hwp with
 |any hdr hall =>
  obtain ⟨D,E,ab⟩:=hsim;obtain ⟨v,w',m,g1,g2,g3⟩:=Hf ho k1 k2 k3 hkt hx' rfl hroom.1 hk2 hz1 hk3 hse hb.1 af (hdn d rfl) hf ab (fun ad l' cp hv=>by
   have aY:=bV ab k2;rw[hsv] at aY;have hsv':=hse;obtain ⟨_,b1,cs,T,off,c1,c2,c3,_,_,_,_,_,_,_,_,_,_,r1,n2,n5⟩:=ab.view (fs:=fs) aY (by simp only[cK,hn,hat]);rw[n5] at hv;simp only[Value.slice.injEq] at hv;have hel:es.length=l:=by
    rw[hsv] at hse;simp only[eK,cK,hn,hat] at hse;split at hse
    ·simp only[v6] at hse;rw[←hse,zy4,List.length_drop];omega
    ·cases hse
   omega) hb.2
  refine ⟨kI,?_⟩;rw[lq hop0,g1,Oper.uponIn_value,af];rw[af] at g3;have:=hall m (by rw[List.length_replicate];exact g2);rw[List.length_replicate] at this;exact hK _ _ _ this g3
theorem Vq{dr:Bool}{K:ai→Prop}{dst:Option Nat}{rest:List aH}{a:Act}{w:World}{Kw:Act→World→Prop}{Q:Exit→Act→World→Prop}{esz:Nat}{z:I}{x:aO}(hop:di c.P o=some (.jL esz z x))(af:o.dst=dst)(hdn:∀ k,dst=some k→k<c.n)
  (hwp:aR c.P c.Y dr K (bl A dst (.jL esz z x) rest (az rest))) (hsim:bX c A a w) (hK:∀ B a' w',aR c.P c.Y dr K (az rest B)→bX c B a' w'→Kw a' w'):o.wpIn c.bE 9 c.P a w Kw Q:=by
 have hop0:=hop;simp only[bl] at hwp;split at hwp
 case h_2=>cases hwp
 unfold di at hop;split at hop <;>try (first | (simp at hop;done) | ((repeat' split at hop) <;>simp at hop;done))
 rename_i args tys ho;split at hop
 case h_2=>cases hop
 rename_i y t ha ht;split at hop
 case h_2=>cases hop
 rename_i e' x' k1 k2;simp only[t7,bQ.jL.injEq] at hop;obtain ⟨zz,hz1,rfl,rfl,rfl⟩:=hop;have ha':args = #[y]:=by apply Array.ext';simpa using ha
 have ht':tys = #[t]:=by apply Array.ext';simpa using ht
 subst ha' ht';have nothing:aR c.P c.Y dr K (az rest A)→(∀ a w D E,aV c A a w D E→∃ ad cp,a.eval y=.slice ad 0 cp)→o.wpIn c.bE 9 c.P a w Kw Q:=fun h hv=>by
  obtain ⟨D,E,ab⟩:=hsim;obtain ⟨ad,cp,hv⟩:=hv a w D E ab;refine ⟨kI,?_⟩;have hrun:(execOp a.eval o).run c.P w=.ok (.value (.tuple #[])) w:=by
   cases ad <;>simp[execOp,ho,resolve,invoke,builtin,Builtin.clear_,run_underlying k1,hv]
  rw[lq hop0,hrun,Oper.uponIn_value,af];exact hK _ _ _ h ⟨D,E,ab⟩
 unfold oS at hwp;split at hwp
 ·rename_i n p sz lo l hv;split at hwp
  case h_2=>cases hwp
  rename_i b hn;split at hwp
  case h_2=>cases hwp
  rename_i fs hat;split at hwp
  case isFalse=>cases hwp
  rename_i hok;obtain ⟨rfl,hsh⟩:=hok;exact (Mc ho k1 k2 hz1 hv hn hat hsh af).wp hop0 hsim (fun a' w' ab=>hK _ a' w' hwp ab)
 ·rename_i z0 hv;refine nothing hwp fun a w D E ab =>?_;have aY:=bV ab k2;rw[hv] at aY;obtain ⟨cs,q1,q2⟩:=aY;simp only[al] at q2;exact ⟨none,0,by simpa[bB,I.isAgg,q2] using q1.symm⟩
 ·rename_i z0 hv;refine nothing hwp fun a w D E ab =>?_;have aY:=bV ab k2;rw[hv] at aY;obtain ⟨cs,q1,q2⟩:=aY;simp only[al] at q2;obtain ⟨ad,q2⟩:=q2;exact ⟨ad,0,by simpa[bB,I.isAgg,q2] using q1.symm⟩
 ·cases hwp
theorem Vr{dr:Bool}{K:ai→Prop}{dst:Option Nat}{rest:List aH}{a:Act}{w:World}{Kw:Act→World→Prop}{Q:Exit→Act→World→Prop}{esz:Nat}{x y:aO}(hop:di c.P o=some (.kP esz x y))(af:o.dst=dst)(hdn:∀ k,dst=some k→k<c.n)
  (hwp:aR c.P c.Y dr K (bl A dst (.kP esz x y) rest (az rest))) (hsim:bX c A a w) (hK:∀ B a' w',aR c.P c.Y dr K (az rest B)→bX c B a' w'→Kw a' w'):o.wpIn c.bE 9 c.P a w Kw Q:=by
 have hop0:=hop;simp only[bl] at hwp;unfold di at hop;split at hop <;>try (first | (simp at hop;done) | ((repeat' split at hop) <;>simp at hop;done))
 rename_i args tys ho;split at hop
 case h_2=>cases hop
 rename_i u v t t' ha ht;split at hop
 case h_2=>cases hop
 rename_i e' x' y' k1 k2 k3;split at hop
 case isFalse=>cases hop
 rename_i hk;simp only[v6,bQ.kP.injEq] at hop;obtain ⟨rfl,rfl,rfl⟩:=hop;obtain ⟨rfl,hinfo⟩:=hk;have ha':args = #[u,v]:=by apply Array.ext';simpa using ha
 have ht':tys = #[t,t]:=by apply Array.ext';simpa using ht
 subst ha' ht';unfold sA at hwp;split at hwp
 ·rename_i n p sz lo l ys hv hsx;split at hwp
  case h_2=>cases hwp
  rename_i b hn;split at hwp
  case h_2=>cases hwp
  rename_i fs hat;split at hwp
  case isFalse=>cases hwp
  rename_i hok;obtain ⟨rfl,hsh⟩:=hok;exact (Md ho k1 hinfo k2 k3 hv hn hat hsx rfl hsh (by rw[af];exact hdn)).wp hop0 hsim (fun a' w' ab=>by rw[af] at ab;exact hK _ a' w' hwp ab)
 ·cases hwp
theorem sP{dr:Bool}{K:ai→Prop}{op:bQ}{dst:Option Nat}{rest:List aH}{a:Act}{w:World}{Kw:Act→World→Prop}{Q:Exit→Act→World→Prop}(hop:di c.P o=some op)(af:o.dst=dst)(hdn:∀ k,dst=some k→k<c.n)
  (hwp:aR c.P c.Y dr K (bl A dst op rest (az rest))) (hsim:bX c A a w) (hK:∀ B a' w',aR c.P c.Y dr K (az rest B)→bX c B a' w'→Kw a' w'):o.wpIn c.bE 9 c.P a w Kw Q:=by
 cases op with
 |alloc z=>exact Vk hop af hdn hwp hsim hK
 |box x=>exact Vn hop af hdn hwp hsim hK
 |aU s x v=>exact Vz hop af hdn hwp hsim hK
 |call f args=>exact Vo hop af hdn hwp hsim hK
 |j7 f args=>exact VA hop af hdn hwp hsim hK
 |iH=>exact Vt hop af hdn hwp hsim hK
 |ki e bytes z n=>exact Vu hop af hdn hwp hsim hK
 |eT ty m k v=>exact Vv hop af hdn hwp hsim hK
 |iG ty m k=>exact Vs hop af hdn hwp hsim hK
 |jD x=>exact Vy hop af hdn hwp hsim hK
 |ib x=>exact Vx hop af hdn hwp hsim hK
 |fL x args=>exact Vp hop af hdn hwp hsim hK
 |nilS neg x=>exact Vw hop af hdn hwp hsim hK
 |c9 e esz bytes z s x=>exact Vl hop af hdn hwp hsim hK
 |lE e esz bytes z s n=>exact Vm hop af hdn hwp hsim hK
 |jL esz z x=>exact Vq hop af hdn hwp hsim hK
 |kP esz x y=>exact Vr hop af hdn hwp hsim hK
 |_=>exact BA hop af hdn hsim hK (by simpa only[bl] using hwp)
theorem sT{j t:Nat}{aW:Array Oper}{a:Act}{w:World}{b b':Bool}(ab:bX c A a w)(hg:o.guard=some (j,b))(ht:(aW[j]?).bind (·.dst)=some t)(hv:A.t t=.bool b'):Region.wanted o (yielded aW a.tmps)=(b'==b):=by
 obtain ⟨D,E,ab⟩:=ab;have h:=ab.dU t;rw[hv] at h;have h:=ky h;have hy:yielded aW a.tmps j=some b':=by
  unfold yielded;rw[ht];simp only[Option.bind_some];simp only[Array.getD_eq_getD_getElem?] at h;cases bK:a.tmps[t]? with
  |none=>simp[bK,undef] at h
  |some v=>simp only[bK,Option.getD_some] at h;subst h;rfl
 unfold Region.wanted;rw[hg];simp only[hy];cases b <;>cases b' <;>rfl
theorem sU{j t:Nat}{aW:Array Oper}{a:Act}{w:World}{b:Bool}(ab:bX c A a w)(hg:o.guard=some (j,b))(ht:(aW[j]?).bind (·.dst)=some t)(hv:A.t t=.undef):Region.wanted o (yielded aW a.tmps)=false:=by
 obtain ⟨D,E,ab⟩:=ab;have h:=ab.dU t;rw[hv] at h;simp only[a8] at h;have hy:yielded aW a.tmps j=none:=by
  unfold yielded;rw[ht];simp only[Option.bind_some];simp only[Array.getD_eq_getD_getElem?] at h;cases bK:a.tmps[t]? with
  |none=>rfl
  |some v=>simp only[bK,Option.getD_some] at h;subst h;rfl
 unfold Region.wanted;rw[hg];simp only[hy];rfl
theorem bX.nc{a:Act}{w:World}(h:bX c A a w){d:Option Nat}(af:∀ k,d=some k→k<c.n):bX c (A.aT d .undef) (a.put d undef) w:=by
 obtain ⟨D,E,h⟩:=h;exact ⟨D,E,h.aT af (by simp[a8])⟩
theorem sS{dr:Bool}{K:ai→Prop}{aW:Array Oper}{Q:Exit→Act→World→Prop}(hQ:∀ B a w,K B→bX c B a w→Q .normal a w):∀ (l:List Oper) (gs:List aH) (A:ai) (a:Act) (w:World),fK c.P c.n aW l=some gs→aR c.P c.Y dr K (az gs A) →
  bX c A a w→wpListIn c.bE 9 c.P aW Q l a w
 | [],gs,A,a,w,hc,hwp,ab=>by
  simp only[fK,v6] at hc;subst hc;simp only[az] at hwp;cases hwp with
  |done hk=>exact hQ A a w hk ab
 |o::l,gs,A,a,w,hc,hwp,ab=>by
  simp only[fK] at hc;split at hc
  case h_2=>cases hc
  rename_i g gs' hg hgs;simp only[v6] at hc;subst hc;obtain ⟨J,U,ah,au⟩:=nE hg;have step:aR c.P c.Y dr K (bl A g.dst g.op gs' (az gs'))→o.wpIn c.bE 9 c.P a w (wpListIn c.bE 9 c.P aW Q l) Q:=fun h =>
   sP J U.symm (by rw[U];exact ah) h ab (fun B a' w' hw hs'=>sS hQ l gs' B a' w' hgs hw hs')
  simp only[wpListIn];simp only[az] at hwp;rcases au with ⟨h5,h6⟩ | ⟨j,b,t,h5,h6,h7⟩
  ·rw[h6] at hwp;have hw:Region.wanted o (yielded aW a.tmps)=true:=by simp[Region.wanted,h5]
   rw[hw,if_pos rfl];exact step hwp
  ·rw[h7] at hwp;simp only at hwp;split at hwp
   ·rename_i b' hb';rw[sT ab h5 h6 hb'];split at hwp
    ·rename_i hbb;subst hbb;simp only[BEq.rfl,if_true];exact step hwp
    ·rename_i hbb;have:(b'==b)=false:=by simpa using hbb
     rw[this];simp only[Z2,if_false];exact ⟨fun f _=>lO c f,sS hQ l gs' _ _ w hgs hwp (by rw[U];exact ab.nc ah)⟩
   ·rename_i hb';rw[sU ab h5 h6 hb'];simp only[Z2,if_false];exact ⟨fun f _=>lO c f,sS hQ l gs' _ _ w hgs hwp (by rw[U];exact ab.nc ah)⟩
   ·cases hwp
end
def aO.sl:aO→List Nat
 | .t n=>[n]
 | .c _=>[]
def tk:Option aO→List Nat
 |some x=>x.sl
 |none=>[]
def jF(l:List aO):List Nat:=l.flatMap aO.sl
def bQ.c7:bQ→List Nat
 | .mv x=>x.sl
 | .pick c a b=>c.sl++(a.sl++b.sl)
 | .bin _ x y=>x.sl++y.sl
 | .eqv _ _ x y=>x.sl++y.sl
 | .nilS _ x=>x.sl
 | .conv _ x=>x.sl
 | .un _ x=>x.sl
 | .ld _ x=>x.sl
 | .fa _ _ x=>x.sl
 | .fl _ _ _ x=>x.sl
 | .ia _ _ x i=>x.sl++i.sl
 | .is _ x i=>x.sl++i.sl
 | .ix _ _ _ x i=>x.sl++i.sl
 | .len x=>x.sl
 | .lenT x=>x.sl
 | .va _ _ x=>x.sl
 | .sl _ x lo hi mx=>x.sl++(tk lo++(tk hi++tk mx))
 | .bld _ ps=>jF (ps.map (·.2))
 | .bs _ _ ps=>jF ps
 | .ext x _=>x.sl
 | .mk _ caps=>jF caps
 | .alloc _=>[]
 | .box x=>x.sl
 | .aU _ x v=>x.sl++v.sl
 | .c9 _ _ _ _ s x=>s.sl++x.sl
 | .lE _ _ _ _ s x=>s.sl++x.sl
 | .cap x=>x.sl
 | .bs0 _=>[]
 | .jL _ _ x=>x.sl
 | .kP _ x y=>x.sl++y.sl
 | .call _ args=>jF args
 | .fL x args=>x.sl++jF args
 | .j7 _ args=>jF args
 | .nilC x=>x.sl
 | .ptrE _ x y=>x.sl++y.sl
 | .max2 x y=>x.sl++y.sl
 | .ki _ _ _ n=>n.sl
 | .iH=>[]
 | .lk _ _ _ m k=>m.sl++k.sl
 | .eT _ m k v=>m.sl++(k.sl++v.sl)
 | .iG _ m k=>m.sl++k.sl
 | .jD x=>x.sl
 | .ib x=>x.sl
 | .ent x=>x.sl
def aH.c7(g:aH):List Nat:=g.op.c7++(match g.guard with | some (t,_)=>[t] | none=>[])
def bQ.gJ:bQ→Nat
 | .mv _ | .pick .. | .bin .. | .eqv .. | .nilS .. | .conv .. | .un .. | .fl .. | .ix .. | .lenT _ | .bld .. | .ext .. | .mk .. | .nilC _ | .ptrE .. | .max2 .. =>0
 | .ld .. | .fa .. | .ia .. | .is .. | .len _ | .va .. | .bs .. | .sl .. | .cap _ | .bs0 _ | .lk .. | .ent _=>1
 | .call .. | .fL .. =>2
 | .alloc _ | .box _=>3
 | .aU .. =>4
 | .c9 .. | .lE .. | .jL .. | .kP .. | .j7 .. | .ki .. | .iH | .eT .. | .iG .. | .jD _ | .ib _=>5
def u9(a b:Nat):Bool:=(decide (a≤2)&&decide (b≤3))||(a==0&&b==4)
def mJ(g h:aH):Bool:=u9 g.op.gJ h.op.gJ&&(match g.dst with
  |some d => !h.c7.contains d&&h.dst != some d
  |none=>true)&&(match h.dst with
  |some d => !g.c7.contains d
  |none=>true)
def eg(A A':ai)(l:List Nat):Prop:=∀ k∈l,A'.t k=A.t k
section
variable {A A':ai}
theorem de{x:aO}(h:eg A A' x.sl):ak A' x=ak A x:=by
 cases x with
 |t n=>exact h n (by simp[aO.sl])
 |c x=>rfl
theorem eg.l{l m:List Nat}(h:eg A A' (l++m)):eg A A' l:=fun k hk=>h k (List.mem_append_left _ hk)
theorem eg.r{l m:List Nat}(h:eg A A' (l++m)):eg A A' m:=fun k hk=>h k (List.mem_append_right _ hk)
theorem lK:∀ {l:List aO},eg A A' (jF l)→l.map (ak A')=l.map (ak A)
 | [],_=>rfl
 |x::l,h=>by
  simp only[jF,List.flatMap_cons] at h;simp only[Z4,de h.l,lK (l:=l) h.r]
theorem oV{x:Option aO}(h:eg A A' (tk x)):x.map (ak A')=x.map (ak A):=by
 cases x with
 |none=>rfl
 |some x=>simp only[Z8,de (x:=x) h]
theorem AN:∀ {l:List (Nat×aO)},eg A A' (jF (l.map (·.2)))→(l.map fun p=>(p.1,ak A' p.2))=l.map fun p=>(p.1,ak A p.2)
 | [],_=>rfl
 |x::l,h=>by
  simp only[jF,Z4,List.flatMap_cons] at h;simp only[Z4,de h.l,AN (l:=l) h.r]
theorem qM{f g:I→Option I}(h:∀ x v,f x=some v→g x=some v):∀ {xs vs:List I},fR f xs=some vs→fR g xs=some vs
 | [],vs,hx=>by simpa only[fR] using hx
 |x::xs,vs,hx=>by
  simp only[fR] at hx ⊢;cases J:f x with
  |none=>rw[J] at hx;cases hx
  |some y=>cases U:fR f xs with
   |none=>rw[J,U] at hx;cases hx
   |some ys=>rw[J,U] at hx;rw[h x y J,qM h U];exact hx
theorem vE(hu:er A A'):∀ (k:Nat) (x v:I),cW A k x=some v→cW A' k x=some v
 |0,_,_,h=>by simp[cW] at h
 |k+1,x,v,h=>by
  have ih:=vE hu k;simp only[cW] at h ⊢;split at h
  ·rename_i hc;rw[if_pos hc];exact h
  ·rename_i hc;rw[if_neg hc];cases x <;>simp only[] at h ⊢ <;>try (cases h;done)
   case agg fs =>
    simp only[t7] at h ⊢;obtain ⟨a,J,U⟩:=h;exact ⟨a,qM ih J,U⟩
   case func f fs =>
    split at h
    case isFalse hf=>rw[if_neg hf];exact h
    rename_i hf;rw[if_pos hf];simp only[t7] at h ⊢;obtain ⟨a,J,U⟩:=h;exact ⟨a,qM ih J,U⟩
   case ptr n p =>
    cases af:cK A (.ptr n p) with
    |none=>rw[af] at h;cases h
    |some y =>
     rw[af] at h;rw[jt hu af];simp only[t7] at h ⊢;obtain ⟨a,J,U⟩:=h;exact ⟨a,ih _ _ J,U⟩
   case view n p sz lo l =>
    cases af:cK A (.ptr n p) with
    |none=>rw[af] at h;cases h
    |some y=>rw[af] at h;rw[jt hu af];exact h
   case mref n =>
    cases ho:A.o n with
    |none=>rw[ho] at h;cases h
    |some y =>
     rw[ho] at h;rw[hu n y ho];cases y <;>try (cases h;done)
     simp only at h ⊢;split at h
     ·rename_i hk;rw[if_pos hk];simp only[t7] at h ⊢;obtain ⟨a,J,U⟩:=h;exact ⟨a,qM ih J,U⟩
     ·cases h
   case own n l =>
    cases ho:A.o n with
    |none=>rw[ho] at h;cases h
    |some y=>rw[ho] at h;rw[hu n y ho];exact h
mutual
theorem A2(hu:er A A'){aN:Bool} : ∀ {x v:I},bh aN A x=some v→bh aN A' x=some v
 | .ptr n p,v,h=>by
  simp only[bh] at h ⊢;cases aN <;>simp only[Z2,if_false,if_true] at h ⊢
  ·exact h
  ·cases af:cK A (.ptr n p) with
   |none=>rw[af] at h;cases h
   |some y =>
    rw[af] at h;rw[jt hu af];simp only at h ⊢;split at h
    ·rename_i hc;rw[if_pos hc];exact h
    ·rename_i hc;rw[if_neg hc];simp only[t7] at h ⊢;obtain ⟨a,J,U⟩:=h;exact ⟨a,vE hu 9 _ _ J,U⟩
 | .mref n,v,h=>by
  simp only[bh] at h ⊢;cases aN <;>simp only[Z2,if_false,if_true] at h ⊢
  ·exact h
  ·cases ho:A.o n with
   |none=>rw[ho] at h;cases h
   |some y =>
    rw[ho] at h;rw[hu n y ho];cases y <;>try (cases h;done)
    simp only at h ⊢;split at h
    ·rename_i hk;rw[if_pos hk];simp only[t7] at h ⊢;obtain ⟨a,J,U⟩:=h;exact ⟨a,qM (vE hu 9) J,U⟩
    ·cases h
 | .dq _,_,h=>by simp[bh] at h
 | .dm _ _,_,h=>by simpa only[bh] using h
 | .own n k,v,h=>by
  simp only[bh] at h ⊢;cases ho:A.o n with
  |none=>rw[ho] at h;cases h
  |some y=>rw[ho] at h;rw[hu n y ho];exact h
 | .view n p sz lo k,v,h=>by
  simp only[bh] at h ⊢;cases aN <;>simp only[Z2,if_false,if_true] at h ⊢
  ·exact h
  ·cases af:cK A (.ptr n p) with
   |none=>rw[af] at h;cases h
   |some y=>rw[af] at h;rw[jt hu af];exact h
 | .func f caps,v,h=>by
  simp only[bh] at h ⊢;split at h
  case isFalse hf=>rw[if_neg hf];exact h
  rename_i hf;rw[if_pos hf];simp only[t7] at h ⊢;obtain ⟨a,J,U⟩:=h;exact ⟨a,kW hu J,U⟩
 | .agg fs,v,h=>by
  simp only[bh,t7] at h ⊢;obtain ⟨a,J,U⟩:=h;exact ⟨a,kW hu J,U⟩
 | .nils _,_,h | .c0 _,_,h | .tuple _,_,h | .undef,_,h | .dv,_,h | .bool _,_,h | .int _ _,_,h | .bP _,_,h | .nilp,_,h | .dC,_,h | .ea,_,h | .any,_,h | .raw _,_,h | .slice _ _,_,h | .ref _,_,h | .iface _ _,_,h=>by simpa only[bh] using h
theorem kW(hu:er A A'){aN:Bool} : ∀ {xs vs:List I},b7 aN A xs=some vs→b7 aN A' xs=some vs
 | [],vs,h=>by simpa only[b7] using h
 |x::xs,vs,h=>by
  simp only[b7] at h ⊢;cases J:bh aN A x with
  |none=>rw[J] at h;cases h
  |some y=>cases U:b7 aN A xs with
   |none=>rw[J,U] at h;cases h
   |some ys=>rw[J,U] at h;rw[A2 hu J,kW hu U];exact h
end
theorem w7{op:bQ}(hc:op.gJ=0)(h:eg A A' op.c7):bn A' op=bn A op:=by
 cases op <;>simp only[bQ.gJ] at hc <;>try (cases hc;done)
 all_goals simp only[bQ.c7] at h
 case mv x=>simp only[bn,de h]
 case pick c a b=>simp only[bn,de h.l,de h.r.l,de h.r.r]
 case bin _ x y=>simp only[bn,de h.l,de h.r]
 case eqv _ _ x y=>simp only[bn,de h.l,de h.r]
 case nilS x=>simp only[bn,de h]
 case conv x=>simp only[bn,de h]
 case un x=>simp only[bn,de h]
 case fl x=>simp only[bn,de h]
 case ix x i=>simp only[bn,de h.l,de h.r]
 case lenT x=>simp only[bn,de h]
 case bld zs ps=>simp only[bn,AN h]
 case ext x i=>simp only[bn,de h]
 case mk f caps=>simp only[bn,lK h]
 case nilC x=>simp only[bn,de h]
 case ptrE neg x y=>simp only[bn,de h.l,de h.r]
 case max2 x y=>simp only[bn,de h.l,de h.r]
theorem WS(hu:er A A'){m:I}{q:List I×List I}(h:fZ A m=some q):fZ A' m=some q:=by
 cases m with
 |mref n =>
  simp only[fZ] at h ⊢;cases af:A.o n with
  |none=>simp only[af] at h;cases h
  |some y=>simp only[af] at h;simp only[hu n y af];exact h
 |raw v=>cases v <;>first | (cases h;done) | (rename_i m;cases m <;>first | exact h | cases h)
 |dm ks vs=>exact h
 |_=>simp only[fZ] at h;cases h
theorem C4{op:bQ}(hu:er A A')(h:eg A A' op.c7){v:I}(hv:bn A op=some v):bn A' op=some v:=by
 by_cases hc:op.gJ=0
 ·rw[w7 hc h];exact hv
 cases op <;>try (exact absurd rfl hc)
 all_goals simp only[bQ.c7] at h
 case ld s x =>
  simp only[bn,de h] at hv ⊢;cases af:cK A (ak A x) with
  |none=>rw[af] at hv;cases hv
  |some y=>rw[af] at hv;rw[jt hu af];exact hv
 case fa f off x =>
  simp only[bn,de h] at hv ⊢;generalize ak A x=z at *;cases z <;>try (first | exact hv | (rename_i y;cases y <;>exact hv))
  rename_i n p;cases af:cK A (.ptr n p) with
  |none=>simp only[af] at hv;cases hv
  |some y=>simp only[af] at hv;simp only[jt hu af];exact hv
 case ia n esz x i =>
  simp only[bn,de h.l,de h.r] at hv ⊢;generalize ak A x=z at *;cases z <;>try (first | exact hv | (rename_i y;cases y <;>exact hv))
  rename_i n p;cases af:cK A (.ptr n p) with
  |none=>simp only[af] at hv;(repeat' split at hv) <;>cases hv
  |some y=>simp only[af] at hv;simp only[jt hu af];exact hv
 case is esz x i =>
  simp only[bn,de h.l,de h.r] at hv ⊢;generalize ak A i=q at *;cases q <;>try (exact hv)
  simp only at hv ⊢;generalize ak A x=z at *;cases z <;>try (first | exact hv | (rename_i y;cases y <;>exact hv))
  ·rename_i n p;cases af:A.o n with
   |none=>simp only[af] at hv;cases hv
   |some y=>simp only[af] at hv;simp only[hu n y af];exact hv
  ·rename_i n p sz lo k;simp only at hv ⊢;cases af:cK A (.ptr n p) with
   |none=>simp only[af] at hv;cases hv
   |some y=>simp only[af] at hv;simp only[jt hu af];exact hv
 case len x =>
  simp only[bn,de h] at hv ⊢;generalize ak A x=z at *;cases z <;>try (first | exact hv | (rename_i y;cases y <;>exact hv))
  rename_i n p;cases af:A.o n with
  |none=>simp only[af] at hv;cases hv
  |some y=>simp only[af] at hv;simp only[hu n y af];exact hv
 case cap x =>
  simp only[bn,de h] at hv ⊢;generalize ak A x=z at *;cases z <;>try (first | exact hv | (rename_i y;cases y <;>exact hv))
  rename_i n p sz lo k;simp only at hv ⊢;cases af:cK A (.ptr n p) with
  |none=>simp only[af] at hv;cases hv
  |some y=>simp only[af] at hv;simp only[jt hu af];exact hv
 case bs0 esz=>exact hv
 case sl esz x lo hi mx =>
  simp only[bn,de h.l,oV h.r.l,oV h.r.r.l,oV h.r.r.r] at hv ⊢;generalize ak A x=z at *;cases z <;>try (first | exact hv | (rename_i y;cases y <;>exact hv))
  rename_i n p sz l0 k;simp only at hv ⊢;cases af:cK A (.ptr n p) with
  |none=>simp only[af] at hv;cases hv
  |some y=>simp only[af] at hv;simp only[jt hu af];exact hv
 case va n esz x =>
  simp only[bn,de h] at hv ⊢;generalize ak A x=z at *;cases z <;>try (first | exact hv | (rename_i y;cases y <;>exact hv))
  rename_i n p;cases af:cK A (.ptr n p) with
  |none=>simp only[af] at hv;cases hv
  |some y=>simp only[af] at hv;simp only[jt hu af];exact hv
 case lk ty z ok m k =>
  simp only[bn,de h.l,de h.r] at hv ⊢;cases af:fZ A (ak A m) with
  |none=>rw[af] at hv;cases hv
  |some y=>rw[af] at hv;rw[WS hu af];exact hv
 case ent x =>
  simp only[bn,de h] at hv ⊢;generalize ak A x=z at *;cases z <;>try (exact hv)
  rename_i n;simp only at hv ⊢;cases af:A.o n with
  |none=>simp only[af] at hv;cases hv
  |some y=>simp only[af] at hv;simp only[hu n y af];exact hv
 case bs esz ps =>
  simp only[bn,lK h] at hv ⊢;cases af:b7 false A (ps.map (ak A)) with
  |none=>rw[af] at hv;cases hv
  |some y=>rw[af] at hv;rw[kW hu af];exact hv
 all_goals (simp only[bn] at hv;cases hv)
end
def pass(A:ai)(g:aH):Prop:=match g.guard with | none=>True | some (t,b)=>A.t t=.bool b
def gz(A:ai)(g:aH):Prop:=match g.guard with | none=>False | some (t,b)=>A.t t=.bool (!b)∨A.t t=.undef
inductive jl (P:Program) (A:ai):bQ→I→Prop where
 |pure {op:bQ} {v:I} : bn A op=some v→jl P A op v
 |flat {f:FuncId} {args:List aO} {cargs:List I} {r:I} : b7 true A (args.map (ak A))=some cargs→bd P f cargs r→r.flat=true→jl P A (.call f args) r
 |lead {f:FuncId} {args:List aO} {cargs:List I} {r:I} : b7 false A (args.map (ak A))=some cargs→bd P f cargs r→jl P A (.call f args) r
 |uc {x:aO} {f:FuncId} {caps:List I} {args:List aO} {cargs:List I} {r:I} : ak A x=.func f caps→b7 true A (h3 f (args.map (ak A)) caps)=some cargs→bd P (kV f) cargs r→r.flat=true→jl P A (.fL x args) r
 |ud {x:aO} {f:FuncId} {caps:List I} {args:List aO} {cargs:List I} {r:I} : ak A x=.func f caps→b7 false A (h3 f (args.map (ak A)) caps)=some cargs→bd P (kV f) cargs r→jl P A (.fL x args) r
def r5(A:ai)(op:bQ)(x:I):Prop:=op=.alloc x∨∃ y,op=.box y∧(ak A y).bR=true∧x=ak A y
def r6(A:ai)(op:bQ)(n:Nat)(z:aq):Prop:=∃ s x v p b old,op=.aU s x v∧ak A x=.ptr n p∧A.o n=some (.box b)∧b.at p=some old∧wP s (ak A v) old∧z=.box (b.ez p (ak A v))
def GD(A:ai)(dst:Option Nat)(op:bQ)(B:ai):Prop:=op.gJ=5∧∀ (rest:List aH) (k:ai→cM),bl A dst op rest k=k B
theorem ZF{A:ai}{neg:Bool}{x:aO}{v:I}(h:bn A (.nilS neg x)=some v):jH (ak A x)=false:=by
 simp only[bn] at h;generalize ak A x=q at *;cases q <;>simp only[jH] <;>simp only at h <;>try (cases h;done)
 rename_i sz es;cases es with
 |nil=>simp at h
 |cons=>rfl
inductive fk (P:Program) (g:aH) (A:ai):ai→Prop where
 |skip:gz A g→fk P g A (A.aT g.dst .undef)
 |val {v:I} : pass A g→jl P A g.op v→fk P g A (A.aT g.dst v)
 |jf {d:Nat} {x:I} : pass A g→g.dst=some d→r5 A g.op x→A.o d=none→fk P g A ((A.aS d (.box x)).put d (.ptr d []))
 |aU {n:Nat} {z:aq} : pass A g→g.dst=none→r6 A g.op n z→fk P g A (A.aS n z)
 |hs {B:ai} : pass A g→GD A g.dst g.op B→fk P g A B
theorem uL{b' b:Bool}(h:b'≠b):b' = !b:=by cases b <;>cases b' <;>simp_all
section
variable {P:Program} {Y:Value→List I→List (Nat×aq)→cG→Prop} {K:ai→Prop}
theorem fk.CD{A:ai}{g:aH}{rest:List aH}(hp:pass A g)(h:aR P Y true K (bl A g.dst g.op rest (az rest))):∃ B,fk P g A B∧aR P Y true K (az rest B):=by
 have pure:aR P Y true K (cP (bn A g.op) fun v=>az rest (A.aT g.dst v))→∃ B,fk P g A B∧aR P Y true K (az rest B):=by
  intro h;cases hv:bn A g.op with
  |none=>rw[hv] at h;cases h
  |some v=>rw[hv] at h;exact ⟨_,.val hp (.pure hv),h⟩
 obtain ⟨dst,op,gd⟩:=g;cases op with
 |alloc z =>
  simp only[bl] at h;split at h
  case h_2=>cases h
  split at h
  case h_2=>cases h
  rename_i af _ ho;exact ⟨_,.jf hp rfl (.inl rfl) ho,h⟩
 |box x =>
  simp only[bl] at h;split at h
  case h_2=>cases h
  split at h
  case h_2=>cases h
  rename_i af _ ho;split at h
  case isFalse=>cases h
  rename_i hv;exact ⟨_,.jf hp rfl (.inr ⟨x,rfl,hv,rfl⟩) ho,h⟩
 |aU s x v =>
  simp only[bl] at h;split at h
  case h_2=>cases h
  split at h
  case h_2=>cases h
  rename_i n p hx;split at h
  case h_2=>cases h
  rename_i b hb;split at h
  case h_2=>cases h
  rename_i old hat;split at h
  case isFalse=>cases h
  rename_i hok;exact ⟨_,.aU hp rfl ⟨s,x,v,p,b,old,rfl,hx,hb,hat,hok,rfl⟩,h⟩
 |nilS neg x =>
  simp only[bl] at h;split at h
  ·cases h with | any hdr=>cases hdr
  ·exact pure h
 |c9 e esz bytes z s x =>
  simp only[bl] at h;split at h
  ·rename_i n l hs';split at h
   case h_2=>cases h
   rename_i sz ys hx';split at h
   case h_3=>cases h
   case h_2 =>
    rename_i T xs hn;split at h
    case isFalse=>cases h
    rename_i hok;exact ⟨_,.hs hp ⟨rfl,fun rest k=>by simp only[bl,hs',hx',hn,if_pos hok]⟩,h⟩
   rename_i T sz' es hn;split at h
   case isFalse=>cases h
   rename_i hok;exact ⟨_,.hs hp ⟨rfl,fun rest k=>by simp only[bl,hs',hx',hn,if_pos hok]⟩,h⟩
  ·rename_i hno;have hg:∀ (rest:List aH) (k:ai→cM),bl A dst (.c9 e esz bytes z s x) rest k=e7 A dst esz bytes z (ak A s) (eK A esz (ak A s)) (eK A esz (ak A x)) k:=fun rest k=>by
    simp only[bl]
   simp only[e7] at h hg;split at h
   case h_2=>cases h
   rename_i es ys hse hsx;simp only[hse,hsx] at hg;have grow:¬ aR P Y true K (fX A dst esz bytes z es ys (az rest)):=fun h=>by
    simp only[fX] at h;split at h
    case h_2=>cases h
    split at h
    case h_2=>cases h
    split at h
    case isFalse=>cases h
    cases h with | any hdr=>cases hdr
   split at h
   ·rename_i hne;simp only[if_pos hne] at hg;exact ⟨_,.hs hp ⟨rfl,hg⟩,h⟩
   ·rename_i hne;simp only[if_neg hne] at hg;split at h
    ·exact absurd h grow
    ·exact absurd h grow
    ·rename_i n p sz lo l hsv;split at h
     case h_2=>cases h
     rename_i b hn;split at h
     case h_2=>cases h
     rename_i fs hat;split at h
     ·rename_i hroom;split at h
      case isFalse=>cases h
      rename_i hok;simp only[hsv,hn,hat,if_pos hroom,if_pos hok] at hg;exact ⟨_,.hs hp ⟨rfl,hg⟩,h⟩
     ·exact absurd h grow
    ·cases h
 |j7 f args =>
  simp only[bl] at h;cases h with | ext r hdr=>cases hdr
 |lE e esz bytes z s n =>
  exfalso
  simp only[bl] at h;split at h
  case h_2=>cases h
  simp only[uE] at h;split at h
  case h_2=>cases h
  split at h
  case h_2=>cases h
  split at h
  case h_2=>cases h
  split at h
  case h_2=>cases h
  split at h
  case isFalse=>cases h
  simp only[fX] at h;split at h
  case h_2=>cases h
  split at h
  case h_2=>cases h
  split at h
  case isFalse=>cases h
  cases h with | any hdr=>cases hdr
 |iH =>
  simp only[bl] at h;split at h
  case h_2=>cases h
  rename_i d;split at h
  case h_2=>cases h
  rename_i hf;exact ⟨_,.hs hp ⟨rfl,fun rest k=>by simp only[bl,hf]⟩,h⟩
 |ki e bytes z n =>
  simp only[bl] at h;split at h
  case h_2=>cases h
  rename_i d;split at h
  case h_2=>cases h
  rename_i hf;split at h
  case h_2=>cases h
  rename_i k m hn;split at h
  case isFalse=>cases h
  rename_i hc;exact ⟨_,.hs hp ⟨rfl,fun rest k=>by simp only[bl,hf,hn,if_pos hc]⟩,h⟩
 |eT ty m key v =>
  simp only[bl] at h;split at h
  case h_2=>cases h
  split at h
  case h_2=>cases h
  rename_i n hm;split at h
  case h_2=>cases h
  rename_i ks vs hn;split at h
  case h_2=>cases h
  rename_i ks' vs' ao;exact ⟨_,.hs hp ⟨rfl,fun rest k=>by simp only[bl,hm,hn,ao]⟩,h⟩
 |iG ty m key =>
  simp only[bl] at h;split at h
  case h_2=>cases h
  split at h
  case h_2=>cases h
  rename_i n hm;split at h
  case h_2=>cases h
  rename_i ks vs hn;split at h
  case h_2=>cases h
  rename_i ks' vs' ao;exact ⟨_,.hs hp ⟨rfl,fun rest k=>by simp only[bl,hm,hn,ao]⟩,h⟩
 |jD x =>
  simp only[bl] at h;split at h
  case h_2=>cases h
  rename_i d;split at h
  case h_2=>cases h
  rename_i hf;split at h
  case h_2=>cases h
  rename_i ks vs hx;exact ⟨_,.hs hp ⟨rfl,fun rest k=>by simp only[bl,hf,hx]⟩,h⟩
 |ib x =>
  simp only[bl] at h;split at h
  case h_2=>cases h
  rename_i n hx;split at h
  case h_2=>cases h
  rename_i ks vs left cur hn;split at h
  ·rename_i ao;exact ⟨_,.hs hp ⟨rfl,fun rest k=>by simp only[bl,hx,hn,if_pos ao]⟩,h⟩
  ·cases h with | any hdr=>cases hdr
 |jL esz z x =>
  simp only[bl] at h;split at h
  case h_2=>cases h
  have hg:∀ (rest:List aH) (k:ai→cM),bl A none (.jL esz z x) rest k=oS A esz z k (ak A x):=fun rest k=>rfl;simp only[oS] at h hg;split at h
  ·rename_i n p sz lo l hv;split at h
   case h_2=>cases h
   rename_i b hn;split at h
   case h_2=>cases h
   rename_i fs hat;split at h
   case isFalse=>cases h
   rename_i hok;simp only[hv,hn,hat,if_pos hok] at hg;exact ⟨_,.hs hp ⟨rfl,hg⟩,h⟩
  ·rename_i z0 hv;simp only[hv] at hg;exact ⟨_,.hs hp ⟨rfl,hg⟩,h⟩
  ·rename_i z0 hv;simp only[hv] at hg;exact ⟨_,.hs hp ⟨rfl,hg⟩,h⟩
  ·cases h
 |kP esz x y =>
  have hg:∀ (rest:List aH) (k:ai→cM),bl A dst (.kP esz x y) rest k=sA A dst esz k (ak A x) (eK A esz (ak A y)):=fun rest k=>rfl;simp only[bl] at h;simp only[sA] at h hg;split at h
  ·rename_i n p sz lo l ys hv hsx;split at h
   case h_2=>cases h
   rename_i b hn;split at h
   case h_2=>cases h
   rename_i fs hat;split at h
   case isFalse=>cases h
   rename_i hok;simp only[hv,hsx,hn,hat,if_pos hok] at hg;exact ⟨_,.hs hp ⟨rfl,hg⟩,h⟩
  ·cases h
 |call f args =>
  simp only[bl] at h;generalize J:b7 true A (args.map (ak A))=a1 at h;generalize U:b7 false A (args.map (ak A))=a2 at h;cases h with
  |flat r hc hf hw=>exact ⟨_,.val hp (.flat J hc hf),hw⟩
  |lead r hc hw=>exact ⟨_,.val hp (.lead U hc),hw⟩
  |jN ns r hdr=>cases hdr
  |bO aN ρ os cargs post hdr=>cases hdr
 |fL x args =>
  simp only[bl] at h;split at h
  case h_3=>cases h
  case h_2=>cases h with | uf os cargs post hdr=>cases hdr
  rename_i f caps hx;generalize J:b7 true A (h3 f (args.map (ak A)) caps)=a1 at h;generalize U:b7 false A (h3 f (args.map (ak A)) caps)=a2 at h;cases h with
  |flat r hc hf hw=>exact ⟨_,.val hp (.uc hx J hc hf),hw⟩
  |lead r hc hw=>exact ⟨_,.val hp (.ud hx U hc),hw⟩
  |jN ns r hdr=>cases hdr
  |bO aN ρ os cargs post hdr=>cases hdr
 |_=>exact pure (by simpa only[bl] using h)
theorem fk.wM{A:ai}{g:aH}{rest:List aH}(h:aR P Y true K (az (g::rest) A)):∃ B,fk P g A B∧aR P Y true K (az rest B):=by
 simp only[az] at h;split at h
 ·rename_i hg;exact fk.CD (by simp only[pass,hg]) h
 ·rename_i t b hg;split at h
  ·rename_i b' hb;split at h
   ·rename_i hbb;subst hbb;exact fk.CD (by simp only[pass,hg];exact hb) h
   ·rename_i hbb;refine ⟨_,.skip (by simp only[gz,hg];exact .inl (by rw[hb,uL hbb])),h⟩
  ·rename_i hb;exact ⟨_,.skip (by simp only[gz,hg];exact .inr hb),h⟩
  ·cases h
theorem nz{A:ai}{g:aH}{rest:List aH}(hp:pass A g):az (g::rest) A=bl A g.dst g.op rest (az rest):=by
 simp only[az];cases hg:g.guard with
 |none=>rfl
 |some tb =>
  obtain ⟨t,b⟩:=tb;simp only[pass,hg] at hp;simp only[hp,if_true]
theorem fk.xQ{A B:ai}{g:aH}{rest:List aH}(h:fk P g A B)(hw:aR P Y true K (az rest B)):aR P Y true K (az (g::rest) A):=by
 cases h with
 |skip hn =>
  simp only[az];cases hg:g.guard with
  |none=>simp only[gz,hg] at hn
  |some tb =>
   obtain ⟨t,b⟩:=tb;simp only[gz,hg] at hn;rcases hn with hn | hn
   ·simp only[hn];rw[if_neg (by cases b <;>simp)];exact hw
   ·simp only[hn];exact hw
 |val hp hv =>
  rw[nz hp];obtain ⟨dst,op,gd⟩:=g;cases hv with
  |pure hv =>
   have hv':bn A op=some _:=hv;cases op <;>try (simp only[bl,hv',cP] <;>first | exact hw | (simp only[bn] at hv';cases hv');done)
   all_goals first
    |(simp only[bn] at hv';cases hv';done)
    |(simp only[bl,ZF hv',Z2,if_false,hv',cP];exact hw)
  |flat J U ah=>simp only[bl,J];exact .flat _ U ah hw
  |lead J U=>simp only[bl,J];exact .lead _ U hw
  |uc aY J U ah=>simp only[bl,aY,J];exact .flat _ U ah hw
  |ud aY J U=>simp only[bl,aY,J];exact .lead _ U hw
 |jf hp af hm ho =>
  rw[nz hp];obtain ⟨dst,op,gd⟩:=g;simp only at af;subst af;rcases hm with hm | ⟨y,hm,hv,rfl⟩ <;>simp only at hm <;>subst hm
  ·simp only[bl,ho];exact hw
  ·simp only[bl,ho,hv,if_true];exact hw
 |aU hp af hm =>
  rw[nz hp];obtain ⟨dst,op,gd⟩:=g;simp only at af;subst af;obtain ⟨s,x,v,p,b,old,J,U,ah,au,h5,rfl⟩:=hm;simp only at J;subst J;simp only[bl,U,ah,au,if_pos h5];exact hw
 |hs hp hm =>
  rw[nz hp,hm.2];exact hw
theorem jl.cR{A A':ai}{op:bQ}{v:I}(h:jl P A op v)(hu:er A A')(ha:eg A A' op.c7):jl P A' op v:=by
 cases h with
 |pure h=>exact .pure (C4 hu ha h)
 |flat J U ah=>exact .flat (by rw[lK ha];exact kW hu J) U ah
 |lead J U=>exact .lead (by rw[lK ha];exact kW hu J) U
 |uc aY J U ah=>simp only[bQ.c7] at ha;exact .uc (by rw[de ha.l];exact aY) (by rw[lK ha.r];exact kW hu J) U ah
 |ud aY J U=>simp only[bQ.c7] at ha;exact .ud (by rw[de ha.l];exact aY) (by rw[lK ha.r];exact kW hu J) U
theorem jl.jN{A A':ai}{op:bQ}{v:I}(h:jl P A op v)(hc:op.gJ=0)(ha:eg A A' op.c7):jl P A' op v:=by
 cases h with
 |pure h=>exact .pure (by rw[w7 hc ha];exact h)
 |_=>simp[bQ.gJ] at hc
theorem mW{A A':ai}{g:aH}(ha:eg A A' g.c7)(h:pass A g):pass A' g:=by
 unfold pass at *;cases hg:g.guard with
 |none=>trivial
 |some tb=>simp only[hg] at h ⊢;rw[ha tb.1 (by simp[aH.c7,hg])];exact h
theorem px{A A':ai}{g:aH}(ha:eg A A' g.c7)(h:gz A g):gz A' g:=by
 unfold gz at *;cases hg:g.guard with
 |none=>simp only[hg] at h
 |some tb=>simp only[hg] at h ⊢;rw[ha tb.1 (by simp[aH.c7,hg])];exact h
theorem aH.jV{A A':ai}{g:aH}(ha:eg A A' g.c7):eg A A' g.op.c7:=fun k hk=>ha k (List.mem_append_left _ hk)
def kG(P:Program)(g:aH)(A:ai)(v:I):Prop:=(gz A g∧v=.undef)∨(pass A g∧jl P A g.op v)
theorem kG.step{A:ai}{g:aH}{v:I}(h:kG P g A v):fk P g A (A.aT g.dst v):=by
 rcases h with ⟨h,rfl⟩ | ⟨h,k⟩
 ·exact .skip h
 ·exact .val h k
theorem kG.cR{A A':ai}{g:aH}{v:I}(h:kG P g A v)(hu:er A A')(ha:eg A A' g.c7):kG P g A' v:=by
 rcases h with ⟨h,rfl⟩ | ⟨h,k⟩
 ·exact .inl ⟨px ha h,rfl⟩
 ·exact .inr ⟨mW ha h,k.cR hu (aH.jV ha)⟩
theorem kG.jN{A A':ai}{g:aH}{v:I}(h:kG P g A v)(hc:g.op.gJ=0)(ha:eg A A' g.c7):kG P g A' v:=by
 rcases h with ⟨h,rfl⟩ | ⟨h,k⟩
 ·exact .inl ⟨px ha h,rfl⟩
 ·exact .inr ⟨mW ha h,k.jN hc (aH.jV ha)⟩
theorem fk.xO{A B:ai}{g:aH}(h:fk P g A B)(hc:g.op.gJ≤2):∃ v,kG P g A v∧B=A.aT g.dst v:=by
 cases h with
 |skip h=>exact ⟨_,.inl ⟨h,rfl⟩,rfl⟩
 |val h k=>exact ⟨_,.inr ⟨h,k⟩,rfl⟩
 |jf J U ah au=>rcases ah with ah | ⟨y,ah,_⟩ <;>(rw[ah] at hc;simp[bQ.gJ] at hc)
 |aU J U ah=>obtain ⟨s,x,v,p,b,old,au,_⟩:=ah;rw[au] at hc;simp[bQ.gJ] at hc
 |hs J ah=>rw[ah.1] at hc;omega
theorem pE{A:ai}{a b:Option Nat}{v u:I}(h:∀ d,a=some d→b≠some d):(A.aT a v).aT b u=(A.aT b u).aT a v:=by
 cases a with
 |none=>rfl
 |some d=>cases b with
  |none=>rfl
  |some e =>
   have hne:d≠e:=fun he=>h d rfl (by rw[he]);simp only[ai.aT,ai.put,ai.mk.injEq,and_true]
   funext k
   by_cases J:k=e <;>by_cases U:k=d <;>simp_all
theorem il{A:ai}{d:Option Nat}{v:I} : (A.aT d v).o=A.o:=by cases d <;>rfl
theorem l6{A:ai}{d:Option Nat}{v:I}{l:List Nat}(h:∀ k,d=some k→k∉l):eg A (A.aT d v) l:=by
 cases d with
 |none=>exact fun _ _=>rfl
 |some e =>
  intro k hk;have:k≠e:=fun he=>h e rfl (he▸hk);simp[ai.aT,ai.put,this]
theorem eg.symm{A A':ai}{l:List Nat}(h:eg A A' l):eg A' A l:=fun k hk=>(h k hk).symm
theorem r5.same{A A':ai}{op:bQ}{x:I}(h:r5 A op x)(ha:eg A A' op.c7):r5 A' op x:=by
 rcases h with h | ⟨y,J,U,ah⟩
 ·exact .inl h
 ·subst J;have:=de (x:=y) ha;exact .inr ⟨y,rfl,by rw[this];exact U,by rw[this];exact ah⟩
theorem r6.same{A A':ai}{op:bQ}{n:Nat}{z:aq}(h:r6 A op n z)(ho:A'.o=A.o)(ha:eg A A' op.c7):r6 A' op n z:=by
 obtain ⟨s,x,v,p,b,old,J,U,ah,au,h5,h6⟩:=h;subst J;simp only[bQ.c7] at ha;have e1:=de ha.l;have e2:=de ha.r;exact ⟨s,x,v,p,b,old,rfl,by rw[e1];exact U,by rw[ho];exact ah,au,by rw[e2];exact h5,by rw[e2];exact h6⟩
theorem Wg{g h:aH}(hi:mJ g h=true):u9 g.op.gJ h.op.gJ=true∧(∀ d,g.dst=some d→d∉h.c7)∧(∀ d,g.dst=some d→h.dst≠some d)∧(∀ d,h.dst=some d→d∉g.c7):=by
 simp only[mJ,t8] at hi;obtain ⟨⟨J,U⟩,ah⟩:=hi;refine ⟨J,fun d af =>?_,fun d af =>?_,fun d af =>?_⟩
 ·rw[af] at U;simp at U;exact U.1
 ·rw[af] at U;simp at U;exact U.2
 ·rw[af] at ah;simpa using ah
theorem fk.rK{A B C:ai}{g h:aH}(hi:mJ g h=true)(J:fk P g A B)(U:fk P h B C):∃ B',fk P h A B'∧fk P g B' C:=by
 obtain ⟨hc,i1,i2,i3⟩:=Wg hi;simp only[u9,Bool.or_eq_true,t8,decide_eq_true_eq,beq_iff_eq] at hc;have hg2:g.op.gJ≤2:=by rcases hc with hc | hc <;>omega
 obtain ⟨v,hv,rfl⟩:=J.xO hg2;have ag:eg (A.aT g.dst v) A h.c7:=(l6 i1).symm;have cR:er (A.aT g.dst v) A:=fun n x hx=>by rwa [il] at hx
 cases U with
 |skip hn =>
  exact ⟨_,.skip (px ag hn),by
   rw[pE i2];exact (hv.cR (by intro n x hx;rwa [il]) (l6 i3)).step⟩
 |val hp hu =>
  exact ⟨_,.val (mW ag hp) (hu.cR cR (aH.jV ag)),by
   rw[pE i2];exact (hv.cR (by intro n x hx;rwa [il]) (l6 i3)).step⟩
 |jf hp af hm ho =>
  rename_i d x;rw[il] at ho;refine ⟨_,.jf (mW ag hp) af (hm.same (aH.jV ag)) ho,?_⟩;have e:((A.aT g.dst v).aS d (.box x)).put d (.ptr d [])=((A.aS d (.box x)).put d (.ptr d [])).aT g.dst v:=by
   cases hgd:g.dst with
   |none=>rfl
   |some e =>
    have hne:e≠d:=fun he=>i2 e hgd (by rw[af,he]);simp only[ai.aT,ai.put,ai.aS,ai.mk.injEq,and_true]
    funext k
    by_cases J:k=e <;>by_cases U:k=d <;>simp_all
  rw[e];refine (hv.cR (fun n y hy =>?_) (fun k hk =>?_)).step
  ·have:n≠d:=fun he=>by rw[he,ho] at hy;cases hy
   simp only[ai.put,ai.aS,this,if_false];exact hy
  ·have:k≠d:=fun he=>i3 d af (he▸hk);simp only[ai.put,ai.aS,this,if_false]
 |aU hp af hm =>
  rename_i n z;have hc0:g.op.gJ=0:=by
   obtain ⟨s,x,v,p,b,old,au,_⟩:=hm;rcases hc with hc | hc
   ·rw[au] at hc;exact absurd hc.2 (by simp[bQ.gJ])
   ·exact hc.1
  refine ⟨_,.aU (mW ag hp) af (hm.same il.symm (aH.jV ag)),?_⟩;have e:(A.aT g.dst v).aS n z=(A.aS n z).aT g.dst v:=by cases g.dst <;>rfl
  rw[e];exact (kG.jN (A':=A.aS n z) hv hc0 (fun _ _=>rfl)).step
 |hs hp hm =>
  exfalso
  rw[hm.1] at hc;omega
theorem aR.rK{A:ai}{g h:aH}{rest:List aH}(hi:mJ g h=true)(hw:aR P Y true K (az (g::h::rest) A)):aR P Y true K (az (h::g::rest) A):=by
 obtain ⟨B,J,U⟩:=fk.wM hw;obtain ⟨C,ah,au⟩:=fk.wM U;obtain ⟨B',h5,h6⟩:=fk.rK hi J ah;exact h5.xQ (h6.xQ au)
theorem aR.nC{g:aH} : ∀ {l:List aH} {r:List aH} {A:ai},(∀ j∈l,mJ j g=true)→aR P Y true K (az (l++g::r) A)→aR P Y true K (az (g::(l++r)) A)
 | [],r,A,_,h=>h
 |j::l,r,A,hi,h=>by
  obtain ⟨B,J,U⟩:=fk.wM (g:=j) (rest:=l++g::r) h;have ah:=aR.nC (l:=l) (r:=r) (fun k hk=>hi k (by simp[hk])) U;exact aR.rK (hi j (by simp)) (J.xQ ah)
end
def cj(o:Oper):List Nat:=(o.after.toList.filter fun e=>Region.binds .any e).map (·.on)
def lz(cl:List Nat):List Nat→Nat
 | []=>0
 |k::ks=>(2^k ||| cl.getD k 0) ||| lz cl ks
def sC(on:List (List Nat))(gs:List aH)(cl:List Nat):Bool :=
 (List.range gs.length).all fun i=>(on.getD i []).all (fun k=>decide (k<i))&&Nat.beq (cl.getD i 0) (lz cl (on.getD i [])) &&
  (List.range i).all fun j=>(cl.getD i 0).testBit j||mJ (gs.getD j default) (gs.getD i default)
theorem rP{cl:List Nat}{j:Nat} : ∀ {l:List Nat},(lz cl l).testBit j=true→j∈l∨∃ k∈l,(cl.getD k 0).testBit j=true
 | [],h=>by simp[lz] at h
 |k::ks,h=>by
  simp only[lz,Nat.testBit_or,Bool.or_eq_true,Nat.testBit_two_pow,decide_eq_true_eq] at h;rcases h with (h | h) | h
  ·exact .inl (by simp[h])
  ·exact .inr ⟨k,by simp,h⟩
  ·rcases rP h with h | ⟨m,J,U⟩
   ·exact .inl (by simp[h])
   ·exact .inr ⟨m,by simp[J],U⟩
structure uj (l:List Oper) (gs:List aH):Prop where
 iv:∀ i o,l[i]?=some o→∀ k∈cj o,k<i
 o8:∀ (S:Nat→Prop),(∀ i o,l[i]?=some o→S i→∀ k∈cj o,S k)→∀ i o g j,l[i]?=some o→gs[i]?=some g→(∀ k∈cj o,S k)→j<i→¬ S j→mJ (gs.getD j default) g=true
theorem Mm{l:List Oper}{gs:List aH}{cl:List Nat}(hlen:gs.length=l.length)(h:sC (l.map cj) gs cl=true):uj l gs:=by
 simp only[sC,zy1,zw0] at h;have fD:∀ i o,l[i]?=some o→∃ g,gs[i]?=some g∧(∀ k∈cj o,k<i)∧(∀ j,(cl.getD i 0).testBit j=true→j∈cj o∨∃ k∈cj o,(cl.getD k 0).testBit j=true)∧∀ j,j<i→(cl.getD i 0).testBit j=true∨mJ (gs.getD j default) g=true:=by
  intro i o ho;have hi:i<l.length:=(Z5.1 ho).1;have J:=h i (by omega);have hon:(l.map cj).getD i []=cj o:=by simp[Z0,ho]
  have hgi:i<gs.length:=by omega
  have hg:gs[i]?=some gs[i]:=zz4 hgi;have hgd:gs.getD i default=gs[i]:=by simp[Z0,hg]
  rw[hon,hgd] at J;simp only[t8,zy1,decide_eq_true_eq,Bool.or_eq_true,zw0] at J;have hb:=Nat.eq_of_beq_eq_true J.1.2;exact ⟨_,hg,J.1.1,fun j hj=>rP (by rw[←hb];exact hj),J.2⟩
 refine ⟨fun i o ho=>(fD i o ho).choose_spec.2.1,?_⟩;intro S hS i o g j ho hg hon hj hnj;have key:∀ n i o,i≤n→l[i]?=some o→(∀ k∈cj o,S k)→∀ j,(cl.getD i 0).testBit j=true→S j:=by
  intro n
  induction n with
  |zero =>
   intro i o hi ho hon j hj;obtain ⟨g,_,J,U,_⟩:=fD i o ho;rcases U j hj with h | ⟨k,hk,_⟩
   ·exact hon j h
   ·have:=J k hk;omega
  |succ n ih =>
   intro i o hi ho hon j hj;obtain ⟨g,_,J,U,_⟩:=fD i o ho;rcases U j hj with h | ⟨k,hk,hjk⟩
   ·exact hon j h
   ·have hki:=J k hk;have hkl:k<l.length:=Nat.lt_trans hki (Z5.1 ho).1;obtain ⟨ok,hok⟩:∃ ok,l[k]?=some ok:=⟨l[k],zz4 hkl⟩
    exact ih k ok (by omega) hok (hS k ok hok (hon k hk)) j hjk
 obtain ⟨g',hg',_,_,ah⟩:=fD i o ho;rw[hg,v6] at hg';subst hg';rcases ah j hj with h | h
 ·exact absurd (key i i o (Z3 _) ho hon j h) hnj
 ·exact h
def iN(listed:Array Bool)(n:Nat):List Nat:=(List.range n).filter fun i => !listed.getD i true
def oe(gs:List aH)(listed:Array Bool)(n:Nat):List aH:=(iN listed n).map fun i=>gs.getD i default
theorem Em{i n:Nat}(h:i<n):List.range n=List.range i++i::(List.range (n-(i+1))).map (i+1 + ·):=by
 conv=>lhs;rw[show n=(i+1)+(n-(i+1)) by omega,List.range_add]
 rw[List.range_succ];simp
theorem YM{listed:Array Bool}{i n:Nat}(h:i<n)(ab:listed.size=n)(hu:listed.getD i true=false):∃ l1 l2,iN listed n=l1++i::l2∧iN (listed.setIfInBounds i true) n=l1++l2∧∀ j∈l1,j<i∧listed.getD j true=false:=by
 have same:∀ j,j≠i→(listed.setIfInBounds i true).getD j true=listed.getD j true:=fun j hj=>getD_set_ne true (Ne.symm hj);have hit:(listed.setIfInBounds i true).getD i true=true:=by simp[ab,h]
 refine ⟨(List.range i).filter fun j => !listed.getD j true,((List.range (n-(i+1))).map (i+1 + ·)).filter fun j => !listed.getD j true,?_,?_,?_⟩
 ·simp only[iN];rw[Em h,List.filter_append,List.filter_cons];simp only[hu,Bool.not_false,if_true]
 ·simp only[iN];rw[Em h,List.filter_append,List.filter_cons];simp only[hit,Bool.not_true,Z2,if_false]
  congr 1
  ·refine List.filter_congr fun j hj =>?_;rw[same j (by have:=zw0.1 hj;omega)]
  ·refine List.filter_congr fun j hj =>?_;obtain ⟨k,_,rfl⟩:=zy0.1 hj;rw[same _ (by omega)]
 ·intro j hj;simp only[zx2,zw0,Bool.not_eq_true'] at hj;exact hj
theorem Ey{n:Nat} : iN (Array.replicate n false) n=List.range n:=by
 simp only[iN];refine List.filter_eq_self.2 fun i hi =>?_;have:=zw0.1 hi;simp[this]
theorem WT(gs:List aH):((List.range gs.length).map fun i=>gs.getD i default)=gs:=by
 apply List.ext_getElem
 ·simp
 ·intro i J U;simp[Z0,U]
section
variable {c:cT}
theorem iy{P:Program}{n:Nat}{aW:Array Oper} : ∀ {l:List Oper} {gs:List aH},fK P n aW l=some gs→gs.length=l.length∧∀ (i:Nat) (o:Oper),l[i]?=some o→∃ g,gs[i]?=some g∧lG P n aW o=some g
 | [],gs,h=>by simp only[fK,v6] at h;subst h;exact ⟨rfl,fun i o ho=>by simp at ho⟩
 |o::l,gs,h=>by
  simp only[fK] at h;split at h
  case h_2=>cases h
  rename_i g gs' hg hgs;simp only[v6] at h;subst h;obtain ⟨J,U⟩:=iy (l:=l) hgs;refine ⟨by simp[J],fun i o' ho =>?_⟩;cases i with
  |zero=>simp only[List.getElem?_cons_zero,v6] at ho;subst ho;exact ⟨g,rfl,hg⟩
  |succ i=>simpa using U i o' (by simpa using ho)
theorem Vi{K:ai→Prop}{aW:Array Oper}{Q:Exit→Act→World→Prop}{o:Oper}{g:aH}{rest:List aH}{A:ai}{a:Act}{w:World}{Kw:Act→World→Prop}(hg:lG c.P c.n aW o=some g)(hwp:aR c.P c.Y true K (az (g::rest) A))(ab:bX c A a w)
  (hK:∀ B a' w',aR c.P c.Y true K (az rest B)→bX c B a' w'→Kw a' w'):if Region.wanted o (yielded aW a.tmps) then o.wpIn c.bE 9 c.P a w Kw Q else (∀ f,o.about c.P w a.eval=some f→c.bE.fn f)∧Kw (a.put o.dst undef) w:=by
 obtain ⟨J,U,ah,au⟩:=nE hg;have step:aR c.P c.Y true K (bl A g.dst g.op rest (az rest))→o.wpIn c.bE 9 c.P a w Kw Q:=fun h =>
  sP J U.symm (by rw[U];exact ah) h ab (fun B a' w' hw hs'=>hK B a' w' hw hs')
 simp only[az] at hwp;rcases au with ⟨h5,h6⟩ | ⟨j,b,t,h5,h6,h7⟩
 ·rw[h6] at hwp;have hw:Region.wanted o (yielded aW a.tmps)=true:=by simp[Region.wanted,h5]
  rw[hw,if_pos rfl];exact step hwp
 ·rw[h7] at hwp;simp only at hwp;split at hwp
  ·rename_i b' hb';rw[sT ab h5 h6 hb'];split at hwp
   ·rename_i hbb;subst hbb;simp only[BEq.rfl,if_true];exact step hwp
   ·rename_i hbb;have:(b'==b)=false:=by simpa using hbb
    rw[this];simp only[Z2,if_false];exact ⟨fun f _=>lO c f,hK _ _ _ hwp (by rw[U];exact ab.nc ah)⟩
  ·rename_i hb';rw[sU ab h5 h6 hb'];simp only[Z2,if_false];exact ⟨fun f _=>lO c f,hK _ _ _ hwp (by rw[U];exact ab.nc ah)⟩
  ·cases hwp
theorem GZ{K:ai→Prop}{aW:Array Oper}{gs:List aH}{Q:Exit→Act→World→Prop}(hQ:∀ B a w,K B→bX c B a w→Q .normal a w)(hgs:fK c.P c.n aW aW.toList=some gs)(af:uj aW.toList gs) :
  ∀ (fuel:Nat) (listed:Array Bool) (A:ai) (a:Act) (w:World),listed.size=aW.size→(∀ i o,aW.toList[i]?=some o→listed.getD i false=true→∀ k∈cj o,listed.getD k false=true)→(iN listed aW.size).length≤fuel →
   aR c.P c.Y true K (az (oe gs listed aW.size) A)→bX c A a w→wpAnyIn c.bE 9 c.P .any aW Q fuel listed a w:=by
 obtain ⟨hlen,hat⟩:=iy hgs;have onOf_mem:∀ (o:Oper) (e:Edge),e∈o.after→Region.binds .any e=true→e.on∈cj o:=fun o e he hb=>by
  simp only[cj,zy0,zx2];exact ⟨e,⟨by simpa using he,hb⟩,rfl⟩
 have of_onOf:∀ (o:Oper) (k:Nat),k∈cj o→∃ e∈o.after,Region.binds .any e=true∧e.on=k:=fun o k hk=>by
  simp only[cj,zy0,zx2] at hk;obtain ⟨e,⟨J,U⟩,ah⟩:=hk;exact ⟨e,by simpa using J,U,ah⟩
 have last:∀ (listed:Array Bool) (A:ai) (a:Act) (w:World),listed.size=aW.size→Region.ready .any aW listed=[]→aR c.P c.Y true K (az (oe gs listed aW.size) A)→bX c A a w→Q .normal a w:=by
  intro listed A a w hsz hr hwp ab;have hnone:iN listed aW.size=[]:=by
   have all:∀ n,∀ i,i<n→i<aW.size→listed.getD i true=true:=by
    intro n
    induction n with
    |zero=>intro i hi;omega
    |succ n ih =>
     intro i hi his;cases hb:listed.getD i true with
     |true=>rfl
     |false =>
      exfalso
      have ho:aW[i]?=some aW[i]:=zx8 his;have:i∈Region.ready .any aW listed:=mem_ready.2 ⟨hb,aW[i],ho,fun e he hbd=>by
       have hlt:=af.iv i aW[i] (by simp) e.on (onOf_mem _ e he hbd);have J:=ih e.on (by omega) (by omega);have U:e.on<listed.size:=by omega
       simpa[Array.getD_eq_getD_getElem?,U] using J⟩
      rw[hr] at this;cases this
   simp only[iN];refine List.filter_eq_nil_iff.2 fun i hi =>?_;have:=all (i+1) i (by omega) (zw0.1 hi);simp only[this,Bool.not_true,Z2,not_false_eq_true]
  simp only[oe,hnone,zy6,az] at hwp;cases hwp with
  |done hk=>exact hQ A a w hk ab
 intro fuel
 induction fuel with
 |zero =>
  intro listed A a w hsz hcl hcnt hwp ab;have hnone:iN listed aW.size=[]:=List.length_eq_zero_iff.1 (by omega);have hr:Region.ready .any aW listed=[]:=by
   refine List.eq_nil_iff_forall_not_mem.2 fun i hi =>?_;obtain ⟨J,o,ho,_⟩:=mem_ready.1 hi;have:i∈iN listed aW.size:=by
    simp only[iN,zx2,zw0,J,Bool.not_false,and_true];exact (zz1.1 ho).1
   rw[hnone] at this;cases this
  exact ⟨hr,last listed A a w hsz hr hwp ab⟩
 |succ fuel ih =>
  intro listed A a w hsz hcl hcnt hwp ab;refine ⟨fun hr=>last listed A a w hsz hr hwp ab,fun i hi =>?_⟩;obtain ⟨hun,o,ho,hall⟩:=mem_ready.1 hi;have hin:i<aW.size:=(zz1.1 ho).1;obtain ⟨l1,l2,e1,e2,hl1⟩:=YM hin hsz hun;have hol:aW.toList[i]?=some o:=by simpa using ho
  obtain ⟨g,hgi,hcg⟩:=hat i o hol;have hon:∀ k∈cj o,listed.getD k false=true:=fun k hk=>by
   obtain ⟨e,J,U,ah⟩:=of_onOf o k hk;exact ah▸hall e J U
  have hgd:gs.getD i default=g:=by simp[Z0,hgi]
  have hwp':aR c.P c.Y true K (az (g::oe gs (listed.setIfInBounds i true) aW.size) A):=by
   simp only[oe,e1,zz2,Z4,hgd] at hwp;simp only[oe,e2,zz2];refine aR.nC (fun j hj =>?_) hwp;obtain ⟨k,hk,rfl⟩:=zy0.1 hj;obtain ⟨hk1,hk2⟩:=hl1 k hk;refine af.o8 (fun k=>listed.getD k false=true) hcl i o g k hol hgi hon hk1 ?_;have hks:k<listed.size:=by omega
   simp[Array.getD_eq_getD_getElem?,hks] at hk2 ⊢;exact hk2
  unfold wpOpIn;rw[ho];refine Vi hcg hwp' ab fun B a' w' hw hs'=>ih _ B a' w' (by simpa using hsz) ?_ ?_ hw hs'
  ·intro m om hom hm k hk;by_cases hmi:m=i
   ·subst hmi;rw[hol,v6] at hom;subst hom;exact getD_set_true (hon k hk)
   ·rw[getD_set_ne false (Ne.symm hmi)] at hm;exact getD_set_true (hcl m om hom hm k hk)
  ·have:(iN listed aW.size).length=(iN (listed.setIfInBounds i true) aW.size).length+1:=by
    rw[e1,e2];simp;omega
   omega
theorem YL{K:ai→Prop}{aW:Array Oper}{gs:List aH}{Q:Exit→Act→World→Prop}{id:Nat}{A:ai}{a:Act}{w:World}(hm:c.P.follows .mixedOrders=true)(hQ:∀ B a w,K B→bX c B a w→Q .normal a w)(hgs:fK c.P c.n aW aW.toList=some gs)(af:uj aW.toList gs)
  (hwp:aR c.P c.Y true K (az gs A)) (ab:bX c A a w):(Code.region id aW true).wpIn c.bE 9 c.P Q a w:=by
 refine wpIn_region_any hm (GZ hQ hgs af aW.size (Array.replicate aW.size false) A a _ (by simp) ?_ ?_ ?_ ?_)
 ·intro i o _ h
  exfalso
  simp only[Array.getD_eq_getD_getElem?,Array.getElem?_replicate] at h;split at h <;>simp at h
 ·rw[Ey];simp
 ·have ao:=(iy hgs).1;simp only[zy2] at ao;simp only[oe,Ey];rw[←ao,WT];exact hwp
 ·obtain ⟨D,E,ab⟩:=ab;exact ⟨D,E,ab.grow (w' := { w with drawn:=w.drawn+1 }) ⟨rfl,rfl,rfl,Z3 _,fun _ _=>rfl⟩ (fun _ _ h=>h) (fun _ _ h _=>h) (fun b o h=>ab.aQ b o h)⟩
end
inductive bq where
 |cd (on:Option (List (List Nat))) (gs:List aH)
 |seq (x y:bq)
 |cond (b:aO) (x y:bq)
 |block (id:Nat) (x:bq)
 |loop (x:bq)
 |exit (id:Nat)
 |ret
 |skip
 |scope (x:bq)
 |label
 |uH
 |mf (f:aO) (ps:List Nat) (x y:bq)
 deriving Inhabited
def eB(P:Program)(n:Nat):Code→Option bq
 | .region _ aW draw=>match fK P n aW aW.toList with
  |some gs=>if (!draw||P.follows .mixedOrders)=true then some (.cd (bif draw then some (aW.toList.map cj) else none) gs) else none
  |none=>some .uH
 | .seq x y=>match eB P n x,eB P n y with
  |some x,some y=>some (.seq x y)
  |_,_=>none
 | .cond b x y=>match br P 0 b,eB P n x,eB P n y with
  |some b,some x,some y=>some (.cond b x y)
  |_,_,_=>none
 | .block id x=>match eB P n x with
  |some x=>some (.block id x)
  |none=>none
 | .loop x=>match eB P n x with
  |some x=>some (.loop x)
  |none=>none
 | .exit id=>some (.exit id)
 | .ret=>some .ret
 | .skip=>some .skip
 | .scope x=>match eB P n x with
  |some x=>some (.scope x)
  |none=>none
 | .label _=>some .label
 | .rangeFunc f ps x y=>match br P 0 f,eB P n x,eB P n y with
  |some f,some x,some y=>if (ps.toList.all fun p=>p<n)=true then some (.mf f ps.toList x y) else none
  |_,_,_=>none
 |_=>none
def s8(c:cT)(Q:Exit→ai→Prop):Exit→Act→World→Prop:=fun e a w=>∃ A,Q e A∧bX c A a w
def ae(c:cT)(x:bq)(Q:Exit→ai→Prop)(A:ai):Prop :=
 ∀ code,eB c.P c.n code=some x→∀ a w,bX c A a w→code.wpIn c.bE 9 c.P (s8 c Q) a w
def eA(k:ai→Prop)(Q:Exit→ai→Prop):Exit→ai→Prop
 | .normal,A=>k A
 |e,A=>Q e A
def jK(id:Nat)(Q:Exit→ai→Prop):Exit→ai→Prop
 | .exit id',A=>if id'=id then Q .normal A else Q (.exit id') A
 |e,A=>Q e A
section
variable {c:cT} {A:ai} {Q:Exit→ai→Prop}
def L2(d:Option (List (List Nat)))(gs:List aH)(cl:List Nat):Bool:=match d with
 |none=>true
 |some on=>sC on gs cl
theorem ae.cd{d:Option (List (List Nat))}{gs:List aH}{cl:List Nat}(af:L2 d gs cl=true)(h:∀ K:ai→Prop,(∀ B,Q .normal B→K B)→aR c.P c.Y d.isSome K (az gs A)):ae c (.cd d gs) Q A:=by
 intro code hc a w ab;cases code <;>simp only[eB] at hc <;>try (first | (cases hc;done) | ((repeat' split at hc) <;>cases hc;done))
 rename_i id aW draw;split at hc
 ·rename_i gs' hgs;split at hc
  case isFalse=>cases hc
  rename_i hok;simp only[v6,bq.cd.injEq] at hc;obtain ⟨rfl,rfl⟩:=hc;cases draw with
  |false=>exact wpIn_region_list (sS (K:=Q .normal) (fun B a w hk ab=>⟨B,hk,ab⟩) aW.toList gs' A a w hgs (h _ fun _ hb=>hb) ab)
  |true =>
   simp only[Bool.not_true,Bool.false_or] at hok;exact YL (K:=Q .normal) hok (fun B a w hk ab=>⟨B,hk,ab⟩) hgs (Mm (iy hgs).1 af) (h _ fun _ hb=>hb) ab
 ·cases hc
theorem ae.seq{x y:bq}(h:ae c x (eA (fun B=>ae c y Q B) Q) A):ae c (.seq x y) Q A:=by
 intro code hc a w ab;cases code <;>simp only[eB] at hc <;>try (first | (cases hc;done) | ((repeat' split at hc) <;>cases hc;done))
 rename_i cx cy;split at hc
 ·rename_i x' y' hx hy;simp only[v6,bq.seq.injEq] at hc;obtain ⟨rfl,rfl⟩:=hc;refine wpIn_seq (wpIn_mono (h cx hx a w ab) ?_);rintro e a' w' ⟨B,hq,hs'⟩;cases e <;>simp only[eA,Exit.then] at * <;>first | exact hq cy hy a' w' hs' | exact ⟨B,hq,hs'⟩
 ·cases hc
theorem ae.cond{b:aO}{x y:bq}{t:Bool}(hb:ak A b=.bool t)(J:t=true→ae c x Q A)(U:t=false→ae c y Q A):ae c (.cond b x y) Q A:=by
 intro code hc a w ab;cases code <;>simp only[eB] at hc <;>try (first | (cases hc;done) | ((repeat' split at hc) <;>cases hc;done))
 rename_i cb cx cy;split at hc
 ·rename_i b' x' y' hb' hx hy;simp only[v6,bq.cond.injEq] at hc;obtain ⟨rfl,rfl,rfl⟩:=hc;obtain ⟨D,E,hs'⟩:=ab;have hv:=bV hs' hb';rw[hb] at hv;exact wpIn_cond_split (ky hv) (fun ht=>J ht cx hx a w ⟨D,E,hs'⟩) (fun ht=>U ht cy hy a w ⟨D,E,hs'⟩)
 ·cases hc
theorem ae.block{id:Nat}{x:bq}(h:ae c x (jK id Q) A):ae c (.block id x) Q A:=by
 intro code hc a w ab;cases code <;>simp only[eB] at hc <;>try (first | (cases hc;done) | ((repeat' split at hc) <;>cases hc;done))
 rename_i id' cx;split at hc
 ·rename_i x' hx;simp only[v6,bq.block.injEq] at hc;obtain ⟨rfl,rfl⟩:=hc;refine wpIn_block (wpIn_mono (h cx hx a w ab) ?_);rintro e a' w' ⟨B,hq,hs'⟩;cases e <;>simp only[jK,Exit.inBlock] at * <;>first
   |exact ⟨B,hq,hs'⟩
   |(split at hq
     ·rename_i he;rw[if_pos he];exact ⟨B,hq,hs'⟩
     ·rename_i he;rw[if_neg he];exact ⟨B,hq,hs'⟩)
 ·cases hc
theorem ae.exit{id:Nat}(h:Q (.exit id) A):ae c (.exit id) Q A:=by
 intro code hc a w ab;cases code <;>simp only[eB] at hc <;>try (first | (cases hc;done) | ((repeat' split at hc) <;>cases hc;done))
 simp only[v6,bq.exit.injEq] at hc;subst hc;exact wpIn_exit ⟨A,h,ab⟩
theorem ae.ret(h:Q .ret A):ae c .ret Q A:=by
 intro code hc a w ab;cases code <;>simp only[eB] at hc <;>try (first | (cases hc;done) | ((repeat' split at hc) <;>cases hc;done))
 exact wpIn_ret ⟨A,h,ab⟩
theorem ae.skip(h:Q .normal A):ae c .skip Q A:=by
 intro code hc a w ab;cases code <;>simp only[eB] at hc <;>try (first | (cases hc;done) | ((repeat' split at hc) <;>cases hc;done))
 exact wpIn_skip ⟨A,h,ab⟩
theorem AO{p:Nat→Prop}(h:∃ n,p n):∃ n,p n∧∀ m,p m→n≤m:=by
 obtain ⟨n,hn⟩:=h
 induction n using Nat.strongRecOn with
 |_ n ih =>
  by_cases hm:∃ m,m<n∧p m
  ·obtain ⟨m,J,U⟩:=hm;exact ih m J U
  ·exact ⟨n,hn,fun m hp=>Nat.le_of_not_lt fun hlt=>hm ⟨m,hlt,hp⟩⟩
open Classical in
noncomputable def least(p:Nat→Prop):Nat:=if h:∃ n,p n then (AO h).choose else 0
theorem B1{p:Nat→Prop}(h:∃ n,p n):p (least p)∧∀ m,p m→least p≤m:=by
 simp only[least,dif_pos h];exact (AO h).choose_spec
theorem ZM{bE:Fence}{N:Nat}{P:Program}{code:Code}{QQ:Exit→Act→World→Prop}(bf:Nat→Act→World→Prop)(round:∀ n a w,bf n a w→code.wpIn bE N P (Exit.then (fun a' w'=>∃ m,m<n∧bf m a' w') QQ) a w) :
  ∀ n a w,bf n a w→(Code.loop code).wpIn bE N P QQ a w:=by
 intro n a w h;refine wpIn_loop (fun a w=>∃ n,bf n a w) (fun a w=>least fun n=>bf n a w) ⟨n,h⟩ ?_;intro a w hI;have hm:=(B1 hI).1;refine wpIn_mono (round _ a w hm) ?_;intro e a' w' hq;cases e <;>simp only[Exit.then] at hq ⊢ <;>try exact hq
 obtain ⟨m,J,U⟩:=hq;exact ⟨⟨m,U⟩,Nat.lt_of_le_of_lt ((B1 ⟨m,U⟩).2 m U) J⟩
def bx(A B:ai):Prop:=∀ (c:cT) (a:Act) (w:World),bX c A a w→bX c B a w
theorem bx.refl(A:ai):bx A A:=fun _ _ _ h=>h
theorem bx.trans{A B C:ai}(h:bx A B)(k:bx B C):bx A C:=fun c a w ab=>k c a w (h c a w ab)
theorem ae.sub{x:bq}{B:ai}(hsub:bx A B)(h:ae c x Q B):ae c x Q A:=fun code hc a w ab=>h code hc a w (hsub c a w ab)
theorem ae.mono{x:bq}{Q':Exit→ai→Prop}(h:ae c x Q A)(hq:∀ e B,Q e B→Q' e B):ae c x Q' A :=
 fun code hc a w ab=>wpIn_mono (h code hc a w ab) fun e a' w' ⟨B,J,U⟩=>⟨B,hq e B J,U⟩
theorem ae.loop{σ:Type}(S:σ→ai)(C:σ→Prop)(m:σ→Nat)(s0:σ){x:bq}(aY:C s0)(hsub:bx A (S s0))
  (round:∀ s,C s→ae c x (eA (fun B=>∃ s',C s'∧m s'<m s∧bx B (S s')) Q) (S s)):ae c (.loop x) Q A:=by
 intro code hc a w ab;cases code <;>simp only[eB] at hc <;>try (first | (cases hc;done) | ((repeat' split at hc) <;>cases hc;done))
 rename_i cx;split at hc
 ·rename_i x' hx;simp only[v6,bq.loop.injEq] at hc;subst hc;refine ZM (fun n a w=>∃ s,C s∧m s=n∧bX c (S s) a w) ?_ (m s0) a w ⟨s0,aY,rfl,hsub c a w ab⟩;rintro n a w ⟨s,hC,rfl,ab⟩;refine wpIn_mono (round s hC cx hx a w ab) ?_;rintro e a' w' ⟨B,hq,hs'⟩;cases e <;>simp only[eA,Exit.then] at * <;>first
   |exact ⟨B,hq,hs'⟩
   |(obtain ⟨s',J,U,ah⟩:=hq;exact ⟨m s',U,s',J,rfl,ah c a' w' hs'⟩)
 ·cases hc
end
inductive bM where
 |tmp (t:Nat)
 |cell (a:Nat) (s:Option Nat)
def gS(P:Program):List ResultVar→Option (List bM)
 | []=>some []
 | .tmp t::l=>(gS P l).map (.tmp t :: ·)
 | .cell a t::l=>match fQ P t,gS P l with
  |some s,some l=>some (.cell a s::l)
  |_,_=>none
def tK(A:ai):bM→Option I
 | .tmp t=>bh true A (A.t t)
 | .cell a s=>match cK A (A.t a) with
  |some x=>if bY s x then bh true A x else none
  |none=>none
def fe(A:ai):List bM→Option (List I)
 | []=>some []
 |r::rs=>match tK A r,fe A rs with
  |some x,some xs=>some (x::xs)
  |_,_=>none
def jW:List I→I
 | [x]=>x
 |xs=>.tuple xs
def oC(args:List I):ai:=⟨fun t=>args.getD t .undef,fun _=>none⟩
def ku(rs:List bM)(r:I):Exit→ai→Prop
 | .ret,A=>∃ xs,fe A rs=some xs∧jW xs=r
 | .normal,A=>∃ xs,fe A rs=some xs∧jW xs=r
 |_,_=>False
def oD(args:List I)(os:List (Nat×aq)):ai:=⟨fun t=>args.getD t .undef,aj os⟩
theorem xN{P:Program}{n:Nat}{w:World}{D:aP}{E:aZ}{Y:Value→List I→List (Nat×aq)→cG→Prop}{args:List I}{os:List (Nat×aq)}{vs:List Value}(hD:∀ b o,D b o→b<w.heap.size)(ho:jI (fun _=>True) w D E (aj os))
  (hv:aI w D E args vs) (hn:vs.length≤n) (hos:∀ m,aw os m=true→n≤m∧1000000≤m) (hy:oJ ⟨P,w,D,n,cI E,E,Y,none,none⟩) :
  aV ⟨P,w,D,n,cI E,E,Y,none,none⟩ (oD args os) { tmps:=vs.toArray++Array.replicate (n-vs.toArray.size) undef,defers:=[] } w D E:=by
 refine ⟨by simp;omega,⟨[],rfl,.nil,fun _ h=>by simp at h⟩,fun t =>?_,eZ.refl _ _,fun _ _ h _=>h,hD,fun m =>?_,ho.cN,fun m e h=>.inr ⟨e,h,.refl e⟩,fun m hm =>?_,fun _ _ h=>h,hy,.refl _ _⟩
 ·have key:∀ (args:List I) (vs:List Value) (t:Nat),aI w D E args vs→a8 w D E (args.getD t .undef) (vs.getD t undef):=by
   intro args
   induction args with
   |nil=>intro vs t h;simp only[aI] at h;subst h;simp[a8]
   |cons x xs ih =>
    intro vs t h;simp only[aI] at h;obtain ⟨v,rest,cs,rfl,J,U,ah⟩:=h;cases t with
    |zero=>simpa using jx J U
    |succ t=>simpa using ih rest t ah
  have:=key args vs t hv;have e:(vs.toArray++Array.replicate (n-vs.toArray.size) undef).getD t undef=vs.getD t undef:=by
   simp only[Array.getD_eq_getD_getElem?,Z0];rcases Nat.lt_or_ge t vs.length with h | h
   ·rw[Array.getElem?_append_left (by simpa using h)];simp
   ·rw[Array.getElem?_append_right (by simpa using h),zx9 h];simp only[Array.getElem?_replicate];split <;>rfl
  simp only[oD];rw[e];exact this
 ·have h:=ho.bO m;simp only[oD];cases hx:aj os m with
  |none=>rw[hx] at h;exact h
  |some x =>
   rw[hx] at h;cases x with
   |box x =>
    obtain ⟨b,cs,T,k1,_,k3⟩:=h;exact ⟨b,cs,T,k1,.inr ⟨m,_,k1,rfl⟩,k3⟩
   |bU T sz es =>
    obtain ⟨aJ,k1,k2,k3⟩:=h;refine ⟨aJ,k1,k2,?_⟩;cases aJ with
    |none=>exact k3
    |some bc =>
     obtain ⟨b,cap⟩:=bc;obtain ⟨cs,pre,rest,_,k4⟩:=k3;exact ⟨cs,pre,rest,.inr ⟨m,_,k1,rfl⟩,k4⟩
   |dL T xs =>
    obtain ⟨aJ,k1,k2,k3⟩:=h;refine ⟨aJ,k1,k2,?_⟩;cases aJ with
    |none=>exact k3
    |some bc =>
     obtain ⟨b,cap⟩:=bc;obtain ⟨cs,rest,_,k4⟩:=k3;exact ⟨cs,rest,.inr ⟨m,_,k1,rfl⟩,k4⟩
   |dK x =>
    obtain ⟨b,k1,_,k3⟩:=h;exact ⟨b,k1,.inr ⟨m,_,k1,rfl⟩,k3⟩
   |bt ks vs =>
    obtain ⟨b,es,ck,k1,_,k3⟩:=h;exact ⟨b,es,ck,k1,.inr ⟨m,_,k1,rfl⟩,k3⟩
   |it ks vs left cur =>
    obtain ⟨r,b,es,ck,si,se,la,k1,_,k3⟩:=h;exact ⟨r,b,es,ck,si,se,la,k1,.inr ⟨m,_,k1,rfl⟩,k3⟩
 ·have h:=ho.bO m;refine hos m ?_;cases hx:aj os m with
  |none=>rw[hx] at h;exact absurd h hm
  |some x=>simp[aw,hx]
def rv(tmps:Array Value):ResultVar→Sem Value
 | .tmp t=>pure (tmps.getD t undef)
 | .cell a t=>do loadVar t (←asAddr (tmps.getD a undef))
theorem YW(fn:Func)(tmps:Array Value):results fn tmps=(do
  let vs ←fn.results.mapM (rv tmps)
  pure (if h:vs.size=1 then vs[0] else .tuple vs)):=by
 unfold results;rfl
def rf(A:ai):bM→Option I
 | .tmp t=>some (A.t t)
 | .cell a s=>match cK A (A.t a) with
  |some x=>if bY s x then some x else none
  |none=>none
def mb(A A0:ai)(os:List (Nat×aq)):List bM→List I→Prop
 | [],[]=>True
 |r::rs,y::ys=>(∃ x,rf A r=some x∧((y=x∧x.bR=true∧x.only (aw os)=true)∨bh true A0 x=some y))∧mb A A0 os rs ys
 |_,_=>False
def ai.kz(A:ai)(os:List (Nat×aq)):ai:=⟨A.t,fun n=>if aw os n then none else A.o n⟩
def iY(rs:List bM)(post:cG)(A:ai):Prop :=
 ∃ (os:List (Nat×aq)) (xs:List I),(∀ n x,aj os n=some x→A.o n=some x∧x.only (aw os)=true∧x.ej=true)∧mb A (A.kz os) os rs xs∧post (jW xs) os
def og(rs:List bM)(post:cG):Exit→ai→Prop
 | .ret,A=>iY rs post A
 | .normal,A=>iY rs post A
 |_,_=>False
theorem xk{c:cT}{A:ai}{a:Act}{w:World}{D:aP}{E:aZ}(ab:aV c A a w D E){A0:ai}(hu:er A0 A){os:List (Nat×aq)}{D':aP}{E':aZ}(hw:h1 true A0 D E D')(aA:∀ n,aw os n=true→E' n=E n)(hE':∀ n,aw os n=false→E' n=none) :
  ∀ (rs:List ResultVar) (ls:List bM) (xs:List I),gS c.P rs=some ls→mb A A0 os ls xs→∃ vs:List Value,(rs.mapM (rv a.tmps)).run c.P w=.ok vs w∧aI w D' E' xs vs
 | [],ls,xs,hc,hr=>by
  simp only[gS,v6] at hc;subst hc;cases xs with
  |nil=>exact ⟨[],by simp,by simp[aI]⟩
  |cons x xs=>simp[mb] at hr
 |r::rs,ls,xs,hc,hr=>by
  have ao:dY w D E' w D' E':=⟨hw.cZ,fun _ _ _ _ h=>h,fun _ _ _ h=>h,fun _ aJ l h=>⟨aJ,l,h,Z3 _,fun _=>rfl⟩,fun _ _ h=>h,fun _ _ h=>h,fun _ _ _ _ h=>h⟩
  have fin1:∀ {x y:I} {v:Value},a8 w D E x v→((y=x∧x.bR=true∧x.only (aw os)=true)∨bh true A0 x=some y)→∃ cs,bB y v cs∧al w D' E' y cs:=by
   intro x y v hv hf;rcases hf with ⟨rfl,J,U⟩ | hf
   ·have ah:=a8.later ao (a8.da aA U hv);cases y <;>simp only[a8] at ah <;>first | (simp[I.bR] at J;done) | exact ah
   ·have J:aI w D E [x] [v]:=lp [x] [v] (.cons hv .nil) (by
     intro z hz;simp only[zy3] at hz;subst hz;cases z <;>simp_all[bh,I.bR])
    have U:=lN (E':=E') ab hu hw [x] [y] [v] J (by simp[b7,hf]);simp only[aI] at U;obtain ⟨v',rest,cs,e,k1,k2,_⟩:=U;simp only[zw2] at e;obtain ⟨rfl,_⟩:=e;exact ⟨cs,k1,k2⟩
  cases r with
  |tmp t =>
   simp only[gS,t7] at hc;obtain ⟨ls',hl',rfl⟩:=hc;cases xs with
   |nil=>simp[mb] at hr
   |cons y ys =>
    simp only[mb] at hr;obtain ⟨⟨x,J,U⟩,ah⟩:=hr;simp only[rf,v6] at J;subst J;obtain ⟨vs,k1,k2⟩:=xk ab hu hw aA hE' rs ls' ys hl' ah;obtain ⟨cs,k3,k4⟩:=fin1 (ab.dU t) U;refine ⟨a.tmps.getD t undef::vs,?_,?_⟩
    ·simp only[List.mapM_cons,Sem.run_bind,rv,Sem.run_pure,Result.andThen_ok,k1]
    ·simp only[aI];exact ⟨_,vs,cs,rfl,k3,k4,k2⟩
  |cell ad t =>
   simp only[gS] at hc;split at hc
   ·rename_i s ls' hk hl';simp only[v6] at hc;subst hc;cases xs with
    |nil=>simp[mb] at hr
    |cons y ys =>
     simp only[mb] at hr;obtain ⟨⟨x,J,U⟩,ah⟩:=hr;obtain ⟨vs,k1,k2⟩:=xk ab hu hw aA hE' rs ls' ys hl' ah;simp only[rf] at J;split at J
     ·rename_i z hz;split at J
      ·rename_i hok;simp only[v6] at J;subst J;obtain ⟨b,off,cs,q1,q2,q3⟩:=ab.yw (ab.dU ad) hz;obtain ⟨v,q4,q5⟩:=EV hk hok q2 q3;obtain ⟨cs',k3,k4⟩:=fin1 q5 U;refine ⟨v::vs,?_,?_⟩
       ·have e:(rv a.tmps (.cell ad t)).run c.P w=.ok v w:=by
         simp only[rv,Sem.run_bind,q1,asAddr,Sem.run_pure,Result.andThen_ok,q4]
        simp only[List.mapM_cons,Sem.run_bind,Sem.run_pure,Result.andThen_ok,k1,e]
       ·simp only[aI];exact ⟨_,vs,cs',rfl,k3,k4,k2⟩
      ·cases J
     ·cases J
   ·cases hc
theorem aV.Ar{c:cT}{A:ai}{a:Act}{w:World}{D:aP}{E:aZ}(h:aV c A a w D E)(hb:c.e8=none){B:Nat}{ds:List Deferred}(af:a.defers = { target:=.collected B,args := #[] } :: ds) :
  w.heap[B]?=some (.deferred (some []))∧aV c A { a with defers:=ds } (w.putObj B (.deferred none)) D E:=by
 have hdf:=h.eD;rw[hb] at hdf;obtain ⟨Bs,J,U,ah⟩:=hdf;rw[af] at J;cases Bs with
 |nil=>cases J
 |cons B' Bs =>
  simp only[Z4,zw2,Deferred.mk.injEq,Target.collected.injEq,and_true] at J;obtain ⟨rfl,rfl⟩:=J;have hB:=ah B (by simp);have hlt:B<w.heap.size:=(zz1.1 hB.2).1;have ao:dY w D E (w.putObj B (.deferred none)) D E :=
   ⟨fun _ _ h=>h,fun b o v _ hv=>u5 hB.2 rfl hv,fun _ _ _ h=>h,fun _ aJ l h=>⟨aJ,l,h,Z3 _,fun _=>rfl⟩,fun _ _ h=>h,fun _ _ h=>h,fun b es ck _ hm=>(World.putObj_heap_other (fun e=>by rw[e,hB.2] at hm;cases hm)).trans hm⟩
  have hne:∀ {b:Nat} {cs:Array Value} {T:TypeId},w.heap[b]?=some (.cells cs T (0,0))→(w.putObj B (.deferred none)).heap[b]?=w.heap[b]?:=fun {b cs T} hb =>
   World.putObj_heap_other (fun e=>by rw[e,hB.2] at hb;cases hb)
  refine ⟨hB.2,h.sz,by rw[hb];refine ⟨Bs,rfl,(List.nodup_cons.1 U).2,fun B2 hB2=>⟨(ah B2 (by simp[hB2])).1,?_⟩⟩;rw[World.putObj_heap_other (fun e=>(List.nodup_cons.1 U).1 (by rw[←e];exact hB2))];exact (ah B2 (by simp[hB2])).2,fun t=>a8.later ao (h.dU t),h.dQ.trans ⟨rfl,rfl,rfl,by simp,fun k hk =>?_⟩,h.cZ,fun b o af=>by have:=h.aQ b o af;simpa using this,fun n =>?_,h.cN,h.dV,h.eP,h.cR,h.eX,h.kA ao⟩
  ·exact World.putObj_heap_other (fun e=>hk (e▸.inl hB.1))
  ·refine (h.bO n).later ao rfl fun e b he hb=>⟨?_,fun _ h=>h⟩
   have hob:=h.bO n;unfold cX at hob;split at hob
   ·rw[hob] at he;cases he
   ·obtain ⟨b',cs,T,k1,_,k3,_⟩:=hob;rw[k1,v6] at he;subst he;simp only[bL.aJ,v6] at hb;subst hb;exact hne k3
   ·obtain ⟨aJ,k1,_,k3⟩:=hob;rw[k1,v6] at he;subst he;split at k3
    ·simp[bL.aJ] at hb
    ·obtain ⟨cs,pre,rest,_,k5,_⟩:=k3;simp only[bL.aJ,v6] at hb;subst hb;exact hne k5
   ·obtain ⟨b',k1,_,k3,k4,_⟩:=hob;rw[k1,v6] at he;subst he;simp only[bL.aJ,v6] at hb;subst hb;exact World.putObj_heap_other (fun e=>by rw[e,hB.2] at k3;cases k3;cases k4)
   ·obtain ⟨b',es,ck,k1,_,k3,_⟩:=hob;rw[k1,v6] at he;subst he;cases hb;exact World.putObj_heap_other (fun e=>by rw[e,hB.2] at k3;cases k3)
   ·obtain ⟨r,b',es,ck,si,se,la,k1,_,k3,_⟩:=hob;rw[k1,v6] at he;subst he;cases hb;exact World.putObj_heap_other (fun e=>by rw[e,hB.2] at k3;cases k3)
   ·obtain ⟨aJ,k1,_,k3⟩:=hob;rw[k1,v6] at he;subst he;split at k3
    ·simp[bL.aJ] at hb
    ·obtain ⟨cs,m,_,k5,_⟩:=k3;simp only[bL.aJ,v6] at hb;subst hb;exact hne k5
def lC(w:World)(D:aP)(E:aZ)(post:cG)(v:Value)(w':World):Prop :=
 ∃ D' E' r os',post r os'∧a8 w' D' E' r v∧jI (fun b=>w.heap.size≤b∨cI E b) w' D' E' (aj os') ∧
  eZ (fun b=>w.heap.size≤b∨cI E b) w w'∧(∀ b o,D b o→D' b o)∧(∀ b o,D' b o→b<w'.heap.size)∧(∀ b o,D' b o→b<w.heap.size→¬ cI E b→D b o) ∧
  (∀ n e,E n=some e→aw os' n=true→∃ e',E' n=some e'∧e.le e')∧gQ w D w'
theorem aV.wj{P:Program}{n:Nat}{w:World}{D:aP}{E:aZ}{Y:Value→List I→List (Nat×aq)→cG→Prop}{lj:Option Nat}{e8:Option (List Deferred)}{A:ai}{a:Act}{w':World}{D':aP}{E':aZ}
  (ab:aV ⟨P,w,D,n,cI E,E,Y,lj,e8⟩ A a w' D' E') {os:List (Nat×aq)} (J:∀ n x,aj os n=some x→A.o n=some x∧x.only (aw os)=true∧x.ej=true) :
  ∃ D2 E2,h1 true (A.kz os) D' E' D2∧(∀ n,aw os n=true→E2 n=E' n)∧(∀ n,aw os n=false→E2 n=none)∧jI (fun b=>w.heap.size≤b∨cI E b) w' D2 E2 (aj os) ∧
   eZ (fun b=>w.heap.size≤b∨cI E b) w w'∧(∀ b o,D b o→D2 b o)∧(∀ b o,D2 b o→b<w'.heap.size)∧(∀ b o,D2 b o→b<w.heap.size→¬ cI E b→D b o) ∧
   (∀ n e,E n=some e→aw os n=true→∃ e',E2 n=some e'∧e.le e')∧gQ w D w':=by
 obtain ⟨c,hc⟩:∃ c:cT,c=⟨P,w,D,n,cI E,E,Y,lj,e8⟩:=⟨_,rfl⟩
 rw[←hc] at ab;have hM:c.e6=fun b=>w.heap.size≤b∨cI E b:=by rw[hc];rfl
 obtain ⟨E2,hE2⟩:∃ E2:aZ,E2=fun n=>if aw os n then E' n else none:=⟨_,rfl⟩
 obtain ⟨D2,hD2⟩:∃ D2:aP,D2=fun b o=>b<w'.heap.size∧(D' b o∨(¬ cI E2 b∧c.e6 b)):=⟨_,rfl⟩
 have e2:∀ n,aw os n=true→E2 n=E' n:=fun n hn=>by rw[hE2];simp only[hn,if_true]
 have cut:∀ n e,E2 n=some e→aw os n=true∧E' n=some e:=fun n e he=>by
  rw[hE2] at he;simp only at he;split at he
  ·exact ⟨by assumption,he⟩
  ·cases he
 have up2:∀ b o,D' b o→D2 b o:=fun b o af=>by
  rw[hD2];exact ⟨ab.aQ b o af,.inl af⟩
 have down:∀ b o,D2 b o→cI E2 b→D' b o:=fun b o af hb=>by
  rw[hD2] at af;rcases af.2 with h | h
  ·exact h
  ·exact absurd hb h.1
 have hu:er (A.kz os) A:=fun n x hx=>by
  simp only[ai.kz] at hx;split at hx
  ·cases hx
  ·exact hx
 have notOwn:∀ n e b,(A.kz os).o n≠none→E' n=some e→e.aJ=some b→¬ cI E2 b:=fun n e b hn he hb ho=>by
  obtain ⟨m,e',k1,k3⟩:=ho;obtain ⟨k1,k2⟩:=cut m e' k1;have:=ab.cN n m e _ b he k2 hb k3;subst this;simp[ai.kz,k1] at hn
 have hw:h1 true (A.kz os) D' E' D2:=by
  refine ⟨up2,fun n T sz es b cap hn aA o _ =>?_,fun _ n x b aX hn aA o _ =>?_,fun _ n ks vs b hn aA =>?_⟩
  ·rw[hD2];refine ⟨ab.fY aA rfl,.inr ⟨notOwn n _ b (by rw[hn];simp) aA rfl,?_⟩⟩;obtain ⟨aJ,k1,k2,k3⟩:=ab.bU (hu n _ hn);rw[aA] at k1;simp only[v6,bL.rw.injEq,and_true] at k1;subst k1;obtain ⟨_,_,_,k4,_⟩:=k3;exact k4
  ·rw[hD2];refine ⟨ab.fY aA rfl,.inr ⟨notOwn n _ b (by rw[hn];simp) aA rfl,?_⟩⟩;obtain ⟨b',cs,T,k1,k2,_⟩:=ab.box (hu n _ hn);rw[k1] at aA;simp only[v6,bL.aN.injEq] at aA;obtain ⟨rfl,_⟩:=aA;exact k2
  ·rw[hD2];refine ⟨ab.fY aA rfl,.inr ⟨notOwn n _ b (by rw[hn];simp) aA rfl,?_⟩⟩;obtain ⟨b',es,ck,k1,k2,_⟩:=ab.map (hu n _ hn);rw[k1] at aA;cases aA;exact k2
 have hst:gQ w D w':=by
  have:=ab.fx;rw[hc] at this;exact this
 refine ⟨D2,E2,hw,e2,fun n hn=>by rw[hE2];simp[hn],⟨fun m =>?_,fun m m' e e' b g1 g2 g3 g4 =>?_⟩,?_,fun b o af=>up2 b o (ab.cR b o (by rw[hc];exact af)),fun b o af=>by rw[hD2] at af;exact af.1,fun b o af hlt hno =>?_,fun m e hm hin =>?_,hst⟩
 ·cases hx:aj os m with
  |none=>simp only[cX];rw[hE2];simp[aw,hx]
  |some x =>
   have hm:aw os m=true:=by simp[aw,hx]
   obtain ⟨k1,k2,k3⟩:=J m x hx;have ho:=ab.bO m;rw[k1] at ho;have hl2:dY w' D' E2 w' D2 E2:=⟨up2,fun _ _ _ _ h=>h,fun _ _ _ h=>h,fun _ aJ l h=>⟨aJ,l,h,Z3 _,fun _=>rfl⟩,fun _ _ h=>h,fun _ _ h=>h,fun _ _ _ _ h=>h⟩
   have nD:∀ e b,E' m=some e→e.aJ=some b→∀ o,D2 b o→D' b o:=fun e b he hb o af=>down b o af ⟨m,e,(e2 m hm).trans he,hb⟩;cases x with
   |bU T sz es =>
    obtain ⟨aJ,q1,q2,q3⟩:=ho;refine ⟨aJ,(e2 m hm).trans q1,q2,?_⟩;cases aJ with
    |none=>exact q3
    |some bc =>
     obtain ⟨b,cap⟩:=bc;obtain ⟨cs,pre,rest,g1,g2,g3,g4,g5,g6,g7,g8⟩:=q3;exact ⟨cs,pre,rest,by rw[←hM];exact g1,g2,g3,aM.later hl2 _ _ (aM.da e2 _ _ (by simpa[aq.only] using k2) g4),g5,g6,g7,fun o af=>g8 o (nD _ b q1 rfl o af)⟩
   |box y =>
    obtain ⟨b',cs,T,q1,q2,q3,q4,q5⟩:=ho;exact ⟨b',cs,T,(e2 m hm).trans q1,by rw[←hM];exact q2,q3,al.later hl2 _ _ (al.da e2 _ _ (by simpa[aq.only] using k2) q4),fun o af=>q5 o (nD _ b' q1 rfl o af)⟩
   |dK o =>
    obtain ⟨b',q1,q2,q3,q4,q5⟩:=ho;exact ⟨b',(e2 m hm).trans q1,by rw[←hM];exact q2,q3,q4,fun o af=>q5 o (nD _ b' q1 rfl o af)⟩
   |bt ks vs =>
    obtain ⟨b',es,ck,q1,q2,q3,q4,q5,q6,q7⟩:=ho;simp only[aq.only,t8] at k2;exact ⟨b',es,ck,(e2 m hm).trans q1,by rw[←hM];exact q2,q3,q4,aI.later hl2 _ _ (aI.da e2 _ _ k2.1 q5),aI.later hl2 _ _ (aI.da e2 _ _ k2.2 q6),fun o af=>q7 o (nD _ b' q1 rfl o af)⟩
   |it ks vs left cur=>cases k3
   |dL T xs =>
    obtain ⟨aJ,q1,q2,q3⟩:=ho;refine ⟨aJ,(e2 m hm).trans q1,q2,?_⟩;cases aJ with
    |none=>exact q3
    |some bc =>
     obtain ⟨b,cap⟩:=bc;obtain ⟨cs,r,g1,g2,g3,g4,g5,g6,g7⟩:=q3;exact ⟨cs,r,by rw[←hM];exact g1,g2,g3,g4,g5,g6,fun o af=>g7 o (nD _ b q1 rfl o af)⟩
 ·exact ab.cN m m' e e' b (cut m e g1).2 (cut m' e' g2).2 g3 g4
 ·rw[←hM];have:=ab.dQ;rw[hc] at this ⊢;exact this
 ·rw[hD2] at af;have hnm:¬ c.e6 b:=by
    rw[hM];rintro (h | h);· omega
    ·exact hno h
  rcases af.2 with h | h
  ·have:=ab.cZ b o h hnm;rw[hc] at this;exact this
  ·exact absurd h.2 hnm
 ·rw[e2 m hin];have ho:A.o m≠none:=by
   cases hx:aj os m with
   |none=>simp[aw,hx] at hin
   |some x=>rw[(J m x hx).1];simp
  rcases ab.dV m e (by rw[hc];exact hm) with h | h
  ·have hob:=ab.bO m;cases hx:A.o m with
   |none=>exact absurd hx ho
   |some x=>rw[hx] at hob;exact absurd h (tl hob)
  ·exact h
theorem aV.s7{P:Program}{n:Nat}{w:World}{D:aP}{E:aZ}{Y:Value→List I→List (Nat×aq)→cG→Prop}{e8:Option (List Deferred)}{rs:List bM}{post:cG}{fn:Func}{A:ai}{a:Act}{w':World}{D':aP}{E':aZ}
  (ab:aV ⟨P,w,D,n,cI E,E,Y,none,e8⟩ A a w' D' E') (hrs:gS P fn.results.toList=some rs) (h:iY rs post A):∃ v,(results fn a.tmps).run P w'=.ok v w'∧lC w D E post v w':=by
 obtain ⟨os,xs,J,U,ah⟩:=h;obtain ⟨D2,E2,hw,e2,e2n,q1,q2,q3,q4,q5,q6⟩:=ab.wj J;have hu:er (A.kz os) A:=fun n x hx=>by
  simp only[ai.kz] at hx;split at hx
  ·cases hx
  ·exact hx
 obtain ⟨vs,k1,k2⟩:=xk ab hu (os:=os) (E':=E2) hw e2 e2n fn.results.toList rs xs hrs U;have hres:(results fn a.tmps).run P w'=.ok (if h:vs.toArray.size=1 then vs.toArray[0] else .tuple vs.toArray) w':=by
  rw[YW,Sem.run_bind,Array.mapM_eq_mapM_toList,Sem.run_map,k1];rfl
 refine ⟨_,hres,D2,E2,jW xs,os,ah,?_,q1,q2,q3,q4,q5,q6⟩
 match xs,vs,k2 with
 | [x],vs,k2 =>
  simp only[aI] at k2;obtain ⟨v,rest,cs,rfl,q1,q2,rfl⟩:=k2;simpa[jW] using jx q1 q2
 | [],vs,k2 =>
  simp only[aI] at k2;subst k2;simp[jW,a8,aI]
 |x::y::xs,vs,k2 =>
  have ao:vs.length≠1:=by
   simp only[aI] at k2;obtain ⟨v,rest,cs,rfl,_,_,v2,rest2,cs2,rfl,_⟩:=k2;simp
  simp only[jW,a8];exact ⟨vs,by simp[ao],k2⟩
theorem B3{P:Program}{n:Nat}{w:World}{D:aP}{E:aZ}{Y:Value→List I→List (Nat×aq)→cG→Prop}{rs:List bM}{post:cG}{fn:Func}{A:ai}{D':aP}{E':aZ}(hrs:gS P fn.results.toList=some rs)(h:iY rs post A) :
  ∀ (ds:List Deferred) (a:Act) (w':World),a.defers=ds→aV ⟨P,w,D,n,cI E,E,Y,none,none⟩ A a w' D' E'→LeavesInM Fence.wide 9 P fn a.tmps (fun e w'=>∃ v,e=.returned v∧lC w D E post v w') ds .returning w'
 | [],a,w',_,ab=>by
  obtain ⟨v,J,U⟩:=ab.s7 hrs h;exact ⟨v,J,v,rfl,U⟩
 |d::ds,a,w',af,ab=>by
  obtain ⟨Bs,J,_⟩:=ab.eD;rw[af] at J;cases Bs with
  |nil=>cases J
  |cons B Bs =>
   simp only[Z4,zw2] at J;obtain ⟨rfl,rfl⟩:=J;obtain ⟨k1,k2⟩:=ab.Ar rfl af;exact ⟨by simp,.inl ⟨B,_,rfl,run_takeDeferred k1,B3 hrs h _ { a with defers:=Bs.map _ } _ rfl k2⟩⟩
theorem rB{w:World}{D:aP}{E:aZ} : ∀ {args:List I} {vs:List Value},aI w D E args vs→vs.length=args.length
 | [],vs,h=>by simp only[aI] at h;subst h;rfl
 |x::xs,vs,h=>by
  simp only[aI] at h;obtain ⟨v,rest,cs,rfl,_,_,ah⟩:=h;simp[rB ah]
def kC(P:Program)(f:FuncId)(Y:Value→List I→List (Nat×aq)→cG→Prop)(args:List I)(os:List (Nat×aq))(post:cG):Prop :=
 e9 P f=true∧∀ (w:World) (D:aP) (E:aZ) (vs:List Value),(∀ n,oJ ⟨P,w,D,n,cI E,E,Y,none,none⟩)→(∀ b o,D b o→b<w.heap.size)→jI (fun _=>True) w D E (aj os)→aI w D E args vs →
  Calls P f vs.toArray w fun e w'=>∃ v,e=.returned v∧lC w D E post v w'
theorem kC.tm{P:Program}{f:FuncId}{fn:Func}{body:Code}{x:bq}{rs:List bM}{Y:Value→List I→List (Nat×aq)→cG→Prop}{args:List I}{os:List (Nat×aq)}{post:cG}(hf:P.funcs[f]?=some fn)(hb:fn.body=some body)(hcall:e9 P f=true)(hc:eB P fn.ntmps body=some x)
  (hrs:gS P fn.results.toList=some rs) (hn:args.length≤fn.ntmps) (hos:∀ m,aw os m=true→fn.ntmps≤m∧1000000≤m) (h:∀ (w:World) (D:aP) (E:aZ),ae ⟨P,w,D,fn.ntmps,cI E,E,Y,none,none⟩ x (og rs post) (oD args os)):kC P f Y args os post:=by
 refine ⟨hcall,fun w D E vs hy hD ho hv =>?_⟩;have hlen:=rB hv;have hsim:=xN (P:=P) (n:=fn.ntmps) (Y:=Y) hD ho hv (by omega) hos (hy fn.ntmps);refine (callsIn_wide (n:=9)).1 (callsIn_of_wp_marks hf hb trivial ?_);refine wpIn_mono (h w D E body hc _ w ⟨D,E,hsim⟩) ?_;rintro e a w' ⟨A,hq,D',E',ab⟩;cases e <;>simp only[og] at hq <;>first
  |exact B3 hrs hq a.defers a w' rfl ab
  |cases hq
theorem pR{P:Program}{w:World}{D:aP}{E:aZ}{n:Nat}{e8:Option (List Deferred)}(ao:gP P w (cI E)):oJ ⟨P,w,D,n,cI E,E,dy,none,e8⟩:=⟨ao,fun _ _ _ _ h=>h.elim⟩
theorem cS.CC{P:Program}{f:FuncId}{args:List I}{os:List (Nat×aq)}{post:cG}(h:kC P f dy args os post):cS P f args os post :=
 ⟨h.1,fun w D E vs ao hD ho hv=>(h.2 w D E vs (fun _=>pR ao) hD ho hv).mono fun e w' ⟨v,he,D',E',r,os',k⟩=>⟨v,D',E',r,os',he,k⟩⟩
theorem bd.XT{P:Program}{f:FuncId}{args:List I}{r:I}(h:cS P f args [] (fun r' os'=>r'=r∧os'=[])):bd P f args r:=by
 refine ⟨h.1,fun w D vs ao hD hv =>?_⟩;have bK:jI (fun _=>True) w D dh (aj []):=⟨fun n=>rfl,fun n m e e' b h=>by simp[dh] at h⟩
 refine (h.2 w D dh vs (ao.nQ fun b ⟨n,e,J,_⟩=>by simp[dh] at J) hD bK hv).mono fun e w' hq =>?_;obtain ⟨v,D',E',r',os',he,⟨J,U⟩,k1,k2,k3,k4,k5,k6,_⟩:=hq;subst J U;refine ⟨v,D',he,?_,?_,k5,fun b o af hlt=>k6 b o af hlt fun ⟨n,e,h,_⟩=>by simp[dh] at h⟩
 ·have:E'=dh:=by funext n;exact k2.bO n
  rw[←this];exact k1
 ·exact k3.Hn fun k hk hm=>by
   rcases hm with hm | ⟨n,e,h,_⟩
   ·omega
   ·simp[dh] at h
theorem Zb(A:ai):A.kz []=A:=rfl
theorem EI{A:ai} : ∀ {rs:List bM} {xs:List I},fe A rs=some xs→mb A (A.kz []) [] rs xs
 | [],xs,h=>by simp only[fe,v6] at h;subst h;trivial
 |r::rs,xs,h=>by
  simp only[fe] at h;split at h
  ·rename_i x xs' J U;simp only[v6] at h;subst h;refine ⟨?_,EI U⟩;rw[Zb];cases r with
   |tmp t=>exact ⟨_,rfl,.inr J⟩
   |cell a s =>
    simp only[tK,rf] at J ⊢;split at J
    ·rename_i y hy;split at J
     ·rename_i hok;exact ⟨y,by simp[hok],.inr J⟩
     ·cases J
    ·cases J
  ·cases h
theorem YX{rs:List bM}{r:I}{e:Exit}{A:ai}(h:ku rs r e A):og rs (fun r' os'=>r'=r∧os'=[]) e A:=by
 cases e <;>simp only[ku] at h <;>first
  |exact h.elim
  |(obtain ⟨xs,J,U⟩:=h
    exact ⟨[],xs,fun n x hx=>by simp[aj] at hx,EI J,U,rfl⟩)
theorem bd.tm{P:Program}{f:FuncId}{fn:Func}{body:Code}{x:bq}{rs:List bM}{args:List I}{r:I}(hf:P.funcs[f]?=some fn)(hb:fn.body=some body)(hcall:e9 P f=true)(hc:eB P fn.ntmps body=some x)
  (hrs:gS P fn.results.toList=some rs) (hn:args.length≤fn.ntmps) (h:∀ (w:World) (D:aP) (E:aZ),ae ⟨P,w,D,fn.ntmps,cI E,E,dy,none,none⟩ x (ku rs r) (oC args)):bd P f args r:=by
 refine bd.XT (cS.CC (kC.tm hf hb hcall hc hrs hn (fun m hm=>by simp[aw,aj] at hm) fun w D E =>?_));exact (h w D E).mono fun e B hq=>YX hq
end Go.Abs
namespace Go.Abs
open Go Go.RowKit
def cw(ts:List (Nat×I)):List (Nat×I)→Prop
 | []=>True
 |(k,v)::r=>bW ts k=v∧cw ts r
def cY(os:List (Nat×aq)):List (Nat×aq)→Prop
 | []=>True
 |(k,v)::r=>aj os k=some v∧cY os r
def cH(p:Nat→Bool):List (Nat×I)→Prop
 | []=>True
 |(_,v)::r=>v.only p=true∧cH p r
theorem tZ{ts:List (Nat×I)} : ∀ {ts':List (Nat×I)},cw ts ts'→∀ k,bW ts' k=.dv∨bW ts' k=bW ts k
 | [],_,k=>.inl rfl
 |(j,v)::r,h,k=>by
  simp only[cw] at h;simp only[bW];split
  ·rename_i hk;subst hk;exact .inr h.1.symm
  ·exact tZ h.2 k
theorem Ff{os:List (Nat×aq)} : ∀ {os':List (Nat×aq)},cY os os'→∀ k,aj os' k=none∨aj os' k=aj os k
 | [],_,k=>.inl rfl
 |(j,v)::r,h,k=>by
  simp only[cY] at h;simp only[aj];split
  ·rename_i hk;subst hk;exact .inr h.1.symm
  ·exact Ff h.2 k
theorem wS{p:Nat→Bool} : ∀ {ts:List (Nat×I)},cH p ts→∀ k,(bW ts k).only p=true
 | [],_,k=>by simp[bW,I.only]
 |(j,v)::r,h,k=>by
  simp only[cH] at h;simp only[bW];split
  ·exact h.1
  ·exact wS h.2 k
theorem CJ{p:Nat→Bool} : ∀ {os:List (Nat×aq)},cJ p os→∀ k x,aj os k=some x→x.only p=true
 | [],_,k,x,hx=>by simp[aj] at hx
 |(j,v)::r,h,k,x,hx=>by
  simp only[cJ] at h;simp only[aj] at hx;split at hx
  ·simp only[v6] at hx;subst hx;exact h.1
  ·exact CJ h.2 k x hx
theorem bx.df{ts ts':List (Nat×I)}{os os':List (Nat×aq)}(J:cw ts ts')(U:cY os os')(ah:cH (aw os') ts')(au:cJ (aw os') os'):bx (av ts os) (av ts' os'):=by
 rintro c a w ⟨D,E,ab⟩;have hp:∀ n,aw os' n=true→(if aw os' n then E n else none)=E n:=fun n hn=>by simp[hn]
 refine ⟨D,fun n=>if aw os' n then E n else none,ab.sz,ab.eD,fun t =>?_,ab.dQ,ab.cZ,ab.aQ,fun n =>?_,fun n m e e' b J U ah au =>?_,fun n e hn =>?_,ab.eP,ab.cR,ab.eX,ab.fx⟩
 ·have:=tZ J t;rcases this with h | h
  ·simp only[av];rw[h];simp[a8]
  ·refine a8.da (p:=aw os') hp (wS ah t) ?_;have:=ab.dU t;simp only[av] at *;rw[h];exact this
 ·have ho:=ab.bO n;simp only[av] at *;rcases Ff U n with h | h
  ·rw[h];simp[cX,aw,h]
  ·rw[h];by_cases hin:aj os n=none
   ·rw[hin];simp[cX,aw,h,hin]
   ·have aA:(if aw os' n then E n else none)=E n:=hp n (by simp[aw,h];cases bK:aj os n <;>simp_all);cases hx:aj os n with
    |none=>exact absurd hx hin
    |some x =>
     have hon:=CJ au n x (h.trans hx);rw[hx] at ho;cases x with
     |box x =>
      obtain ⟨b,cs,T,k1,k2,k3,k4,k5⟩:=ho;exact ⟨b,cs,T,aA.trans k1,k2,k3,al.da hp _ _ (by simpa[aq.only] using hon) k4,k5⟩
     |bU T sz es =>
      obtain ⟨aJ,k1,k2,k3⟩:=ho;refine ⟨aJ,aA.trans k1,k2,?_⟩;cases aJ with
      |none=>exact k3
      |some bc =>
       obtain ⟨b,cap⟩:=bc;obtain ⟨cs,pre,rest,q1,q2,q3,q4,q5⟩:=k3;exact ⟨cs,pre,rest,q1,q2,q3,aM.da hp _ _ (by simpa[aq.only] using hon) q4,q5⟩
     |dL T xs =>
      obtain ⟨aJ,k1,k2,k3⟩:=ho;exact ⟨aJ,aA.trans k1,k2,k3⟩
     |dK x =>
      obtain ⟨b,k1,k2⟩:=ho;exact ⟨b,aA.trans k1,k2⟩
     |bt ks vs =>
      obtain ⟨b,es,ck,k1,k2,k3,k4,k5,k6,k7⟩:=ho;simp only[aq.only,t8] at hon;exact ⟨b,es,ck,aA.trans k1,k2,k3,k4,aI.da hp _ _ hon.1 k5,aI.da hp _ _ hon.2 k6,k7⟩
     |it ks vs left cur =>
      obtain ⟨r,b,es,ck,si,se,la,k1,k2,k3,k4,k5,k6,k7⟩:=ho;simp only[aq.only,t8] at hon;exact ⟨r,b,es,ck,si,se,la,aA.trans k1,k2,k3,k4,aI.da hp _ _ hon.1 k5,aI.da hp _ _ hon.2 k6,k7⟩
 ·refine ab.cN n m e e' b ?_ ?_ ah au
  ·split at J
   ·exact J
   ·cases J
  ·split at U
   ·exact U
   ·cases U
 ·by_cases hi:aw os' n=true
  ·simp only[hi,if_true];exact ab.dV n e hn
  ·simp only[hi];exact .inl rfl
def bH:Nat→List I→List (Nat×I)
 |_,[]=>[]
 |k,a::as=>(k,a)::bH (k+1) as
theorem Ch:∀ (as:List I) (k t:Nat),bW (bH k as) t=if t<k then .dv else (as[t-k]?).getD .dv
 | [],k,t=>by simp[bH,bW]
 |a::as,k,t=>by
  simp only[bH,bW,Ch as (k+1) t];by_cases h:t=k
  ·subst h;simp
  ·rw[if_neg h];by_cases U:t<k
   ·rw[if_pos (by omega),if_pos U]
   ·rw[if_neg (by omega),if_neg U,show t-k=(t-(k+1))+1 from by omega];simp
theorem tX(args:List I)(os:List (Nat×aq)):bx (oD args os) (av (bH 0 args) os):=by
 rintro c a w ⟨D,E,ab⟩;refine ⟨D,E,ab.sz,ab.eD,fun t =>?_,ab.dQ,ab.cZ,ab.aQ,ab.bO,ab.cN,ab.dV,ab.eP,ab.cR,ab.eX,ab.fx⟩;have:=ab.dU t;simp only[av,Ch,oD,Nat.not_lt_zero,if_false,Nat.sub_zero] at *;cases h:args[t]? with
 |none=>simp[a8]
 |some x=>simpa[Z0,h] using this
theorem Zy(args:List I):bx (oC args) (av (bH 0 args) []):=tX args []
theorem te(ts:List (Nat×I))(os:List (Nat×aq))(d:Nat)(v:I):(av ts os).put d v=av ((d,v)::ts) os:=rfl
theorem Ct(ts:List (Nat×I))(os:List (Nat×aq))(d:Nat)(v:I):(av ts os).aT (some d) v=av ((d,v)::ts) os:=rfl
theorem W3(A:ai)(v:I):A.aT none v=A:=rfl
theorem qN(ts:List (Nat×I))(os:List (Nat×aq))(d:Nat)(x:aq):(av ts os).aS d x=av ts ((d,x)::os):=rfl
theorem W4(ts:List (Nat×I))(os:List (Nat×aq))(k:Nat):(av ts os).t k=bW ts k:=rfl
theorem W2(ts:List (Nat×I))(os:List (Nat×aq))(k:Nat):(av ts os).o k=aj os k:=rfl
theorem cq(j:Nat)(v:I)(r:List (Nat×I))(k:Nat):bW ((j,v)::r) k=if k=j then v else bW r k:=rfl
theorem dx(j:Nat)(v:aq)(r:List (Nat×aq))(k:Nat):aj ((j,v)::r) k=if k=j then some v else aj r k:=rfl
theorem qK(k:Nat):aj [] k=none:=rfl
theorem Mz(A:ai)(k:Nat):ak A (.t k)=A.t k:=rfl
theorem My(A:ai)(x:I):ak A (.c x)=x:=rfl
noncomputable def dk(d:Option Nat)(rest:List aH)(A:ai)(v:I):cM:=az rest (A.aT d v)
theorem Ww(d:Option Nat)(rest:List aH)(A:ai)(v:I):dk d rest A v=az rest (A.aT d v):=rfl
theorem HI(v:I)(k:I→cM):cP (some v) k=k v:=rfl
theorem G2(A:ai):az [] A=.done A:=rfl
noncomputable def bJ(A:ai)(d:Option Nat)(op:bQ)(rest:List aH):cM:=bl A d op rest (az rest)
noncomputable def gV(x:I)(b:Bool)(d:Option Nat)(op:bQ)(rest:List aH)(A:ai):cM :=
 match x with
 | .bool b'=>if b'=b then bJ A d op rest else az rest (A.aT d .undef)
 | .undef=>az rest (A.aT d .undef)
 |_=>.fail
theorem aR.guard{P:Program}{Y:Value→List I→List (Nat×aq)→cG→Prop}{dr:Bool}{K:ai→Prop}{x b:Bool}{d:Option Nat}{op:bQ}{rest:List aH}{A:ai}(J:x=b→aR P Y dr K (bJ A d op rest))(U:x = !b→aR P Y dr K (az rest (A.aT d .undef))):aR P Y dr K (gV (.bool x) b d op rest A):=by
 unfold gV;by_cases h:x=b
 ·simp only[if_pos h];exact J h
 ·simp only[if_neg h];exact U (by cases x <;>cases b <;>simp_all)
def I.dR:I→Option (List I)
 | .agg fs=>some fs
 |_=>none
def oM(p:List Nat):Option I→Option I
 |some f=>f.at p
 |none=>none
def mB(i:Nat)(p:List Nat):Option (List I)→Option I
 |some fs=>oM p fs[i]?
 |none=>none
theorem yq(c:I):c.at []=some c:=by cases c <;>rfl
theorem Hh(c:I)(i:Nat)(p:List Nat):c.at (i::p)=mB i p c.dR:=by
 cases c <;>first | rfl | (rename_i fs;simp only[I.at,mB,I.dR,oM])
def xD(fs:List I)(i:Nat)(p:List Nat)(v:I):Option I→I
 |some f=>.agg (fs.set i (f.ez p v))
 |none=>.agg fs
def tQ(c:I)(i:Nat)(p:List Nat)(v:I):Option (List I)→I
 |some fs=>xD fs i p v fs[i]?
 |none=>c
theorem ot(c v:I):c.ez [] v=v:=by cases c <;>rfl
theorem Zd(c:I)(i:Nat)(p:List Nat)(v:I):c.ez (i::p) v=tQ c i p v c.dR:=by
 cases c <;>first | rfl | (rename_i fs;simp only[I.ez,tQ,I.dR];cases fs[i]? <;>rfl)
def fo(p:List Nat):Option aq→Option I
 |some (.box c)=>c.at p
 |_=>none
def gT(A:ai):I→Option I
 | .ref x=>some x
 | .ptr n p=>fo p (A.o n)
 |_=>none
theorem lI(A:ai)(x:I):cK A x=gT A x:=by
 cases x <;>first | rfl | (rename_i n p;simp only[cK,gT];cases A.o n with | none=>rfl | some y=>cases y <;>rfl)
def tp(s:Option Nat)(x:I):Option I:=if bY s x=true then some x else none
def nW(s:Option Nat):Option I→Option I
 |some x=>tp s x
 |none=>none
open Classical in
noncomputable def dD(fs:List I)(f off:Nat)(y:I):Option I:=if f<fs.length∧I.sizes (fs.take f)=off then some y else none
noncomputable def qg(n:Nat)(p:List Nat)(f off:Nat):Option (List I)→Option I
 |some fs=>dD fs f off (.ptr n (p++[f]))
 |none=>none
noncomputable def oY(fs:List I)(f off:Nat):Option I→Option I
 |some v=>dD fs f off (.ref v)
 |none=>none
noncomputable def qh(f off:Nat):Option (List I)→Option I
 |some fs=>oY fs f off fs[f]?
 |none=>none
def fF:Option I→Option (List I)
 |some x=>x.dR
 |none=>none
noncomputable def jc(A:ai)(f off:Nat):I→Option I
 | .ref c=>qh f off c.dR
 | .ptr n p=>qg n p f off (fF (fo p (A.o n)))
 |_=>none
theorem Yr(A:ai)(f off:Nat)(x:aO):bn A (.fa f off x)=jc A f off (ak A x):=by
 simp only[bn];generalize ak A x=y;cases y with
 |ref c =>
  cases c <;>simp only[jc,I.dR,qh]
  rename_i fs;cases h:fs[f]? with
  |none=>simp[oY]
  |some v =>
   have ao:f<fs.length:=(Z5.1 h).1;simp only[oY,dD,ao,true_and]

 |ptr n p =>
  simp only[jc,lI,gT];cases fo p (A.o n) with
  |none=>simp[fF,qg]
  |some c =>
   cases c <;>simp only[fF,I.dR,qg]
   simp only[dD]

 |_=>simp only[jc]
noncomputable def sN(f off:Nat)(s:Option Nat):Option (List I)→Option I
 |some fs=>match fs[f]? with
  |some v=>(dD fs f off v).bind (tp s)
  |none=>none
 |none=>none
theorem Ys(A:ai)(f off:Nat)(s:Option Nat)(x:aO):bn A (.fl f off s x)=sN f off s (ak A x).dR:=by
 simp only[bn];generalize ak A x=y;cases y <;>simp only[sN,I.dR]
 rename_i fs;cases h:fs[f]? with
 |none=>rfl
 |some v =>
  have ao:f<fs.length:=(Z5.1 h).1;simp only[dD,ao,true_and];by_cases J:I.sizes (fs.take f)=off <;>by_cases U:bY s v=true <;>simp[J,U,tp]
open Classical in
noncomputable def lT(k:Int)(n:Nat)(y:Option I):Option I:=if 0≤k∧k<n then y else none
noncomputable def lS(n esz:Nat)(fs:List I)(y:Option I):Option I:=if jb n esz fs=true then y else none
noncomputable def sV(n esz:Nat)(k:Int):Option (List I)→Option I
 |some fs=>lS n esz fs ((fs[k.toNat]?).map .ref)
 |none=>none
noncomputable def qx(n esz m:Nat)(p:List Nat)(k:Int):Option (List I)→Option I
 |some fs=>lS n esz fs (some (.ptr m (p++[k.toNat])))
 |none=>none
noncomputable def nN(A:ai)(n esz:Nat)(k:Int):I→Option I
 | .ref c=>lT k n (sV n esz k c.dR)
 | .ptr m p=>lT k n (qx n esz m p k (fF (fo p (A.o m))))
 |_=>none
noncomputable def qw(A:ai)(n esz:Nat)(x:I):I→Option I
 | .int _ k=>nN A n esz k x
 |_=>none
theorem Yt(A:ai)(n esz:Nat)(x i:aO):bn A (.ia n esz x i)=qw A n esz (ak A x) (ak A i):=by
 simp only[bn];generalize ak A x=y;generalize ak A i=z;cases z <;>simp only[qw]
 rename_i kk k;cases y with
 |ref c =>
  simp only[nN,lT];split
  ·cases c <;>simp only[I.dR,sV,lS]
  ·rfl
 |ptr m p =>
  simp only[nN,lT,lI,gT];split
  ·cases fo p (A.o m) with
   |none=>simp[fF,qx]
   |some c=>cases c <;>simp only[fF,I.dR,qx,lS]
  ·rfl
 |_=>simp only[nN];split <;>rfl
open Classical in
noncomputable def mM(m:Nat)(p:List Nat)(sz lo l esz:Nat)(k:Int):Option (List I)→Option I
 |some _=>if sz=esz∧0≤k∧k<l then some (.ptr m (p++[lo+k.toNat])) else none
 |none=>none
open Classical in
noncomputable def jP(A:ai)(esz:Nat)(k:Int):I→Option I
 | .slice sz es=>if sz=esz∧0≤k∧k<es.length then (es[k.toNat]?).map .ref else none
 | .own m l=>match A.o m with
  |some (.bU _ sz es)=>if l=es.length∧sz=esz∧0≤k∧k<es.length then (es[k.toNat]?).map .ref else none
  |_=>none
 | .view m p sz lo l=>mM m p sz lo l esz k (fF (fo p (A.o m)))
 |_=>none
noncomputable def qz(A:ai)(esz:Nat)(x:I):I→Option I
 | .int _ k=>jP A esz k x
 |_=>none
theorem Yu(A:ai)(esz:Nat)(x i:aO):bn A (.is esz x i)=qz A esz (ak A x) (ak A i):=by
 simp only[bn];generalize ak A x=y;generalize ak A i=z;cases z <;>simp only[qz]
 cases y <;>simp only[jP]
 ·split <;>simp_all
 ·rename_i m p sz lo l;simp only[lI,gT];cases fo p (A.o m) with
  |none=>rfl
  |some c=>cases c <;>simp only[fF,I.dR,mM]
noncomputable def sX(n esz:Nat)(s:Option Nat)(k:Int):Option (List I)→Option I
 |some fs=>lT k n (lS n esz fs (nW s fs[k.toNat]?))
 |none=>none
noncomputable def qC(n esz:Nat)(s:Option Nat)(x:I):I→Option I
 | .int _ k=>sX n esz s k x.dR
 |_=>none
theorem Yv(A:ai)(n esz:Nat)(s:Option Nat)(x i:aO):bn A (.ix n esz s x i)=qC n esz s (ak A x) (ak A i):=by
 simp only[bn];generalize ak A x=y;generalize ak A i=z;cases z <;>simp only[qC]
 rename_i kk k;cases y <;>simp only[I.dR,sX]
 case agg fs =>
  simp only[lT,lS];split
  ·split
   ·cases fs[k.toNat]? <;>rfl
   ·rfl
  ·rfl
 all_goals (split <;>rfl)
def jw(A:ai):I→Option I
 | .slice _ es=>some (.int .i64 es.length)
 | .nils _=>some (.int .i64 0)
 | .c0 _=>some (.int .i64 0)
 | .own m l=>match A.o m with | some (.bU _ _ es)=>if l=es.length then some (.int .i64 es.length) else none | _=>none
 | .view _ _ _ _ k=>some (.int .i64 k)
 |_=>none
theorem Yx(A:ai)(x:aO):bn A (.len x)=jw A (ak A x):=by
 simp only[bn];generalize ak A x=y;cases y <;>rfl
open Classical in
noncomputable def rQ(n esz:Nat)(fs:List I)(y:I):Option I:=if jb n esz fs=true∧n≤maxLen∧n≠0 then some y else none
noncomputable def rR(n esz m:Nat)(p:List Nat):Option (List I)→Option I
 |some fs=>rQ n esz fs (.view m p esz 0 n)
 |none=>none
noncomputable def Fs(n esz:Nat):Option (List I)→Option I
 |some fs=>rQ n esz fs (.slice esz fs)
 |none=>none
noncomputable def oF(A:ai)(n esz:Nat):I→Option I
 | .ptr m p=>rR n esz m p (fF (fo p (A.o m)))
 | .ref c=>Fs n esz c.dR
 |_=>none
theorem Yy(A:ai)(n esz:Nat)(x:aO):bn A (.va n esz x)=oF A n esz (ak A x):=by
 simp only[bn];generalize ak A x=y;cases y with
 |ptr m p =>
  simp only[oF,lI,gT];cases fo p (A.o m) with
  |none=>simp[fF,rR]
  |some c=>cases c <;>simp only[fF,I.dR,rR,rQ] <;>(split <;>simp_all)
 |ref c=>cases c <;>simp only[oF,I.dR,Fs,rQ] <;>(split <;>simp_all)
 |_=>simp only[oF]
theorem Yw(A:ai)(s:Option Nat)(x:aO):bn A (.ld s x)=nW s (gT A (ak A x)):=by
 simp only[bn,lI];cases gT A (ak A x) <;>simp only[nW,tp]
noncomputable def qY(A:ai)(d:Option Nat)(a b:aO)(rest:List aH):I→cM
 | .bool t=>az rest (A.aT d (if t then ak A a else ak A b))
 |_=>.fail
noncomputable def rO(op:UnOp)(x:I):Option I:=match op,x with
  | .not,.bool b=>some (.bool !b)
  | .neg,.int k n=>some (.int k (k.wrap (0-n)))
  | .xor,.int k n=>some (.int k (oT k n))
  |_,_=>none
def vw(i:Nat):I→Option I
 | .tuple fs=>fs[i]?
 |_=>none
def vb(k:IntKind):I→Option I
 | .int _ n=>some (.int k (k.wrap n))
 |_=>none
noncomputable def uC(A:ai)(d:Nat)(z:I)(rest:List aH):Option aq→cM
 |none=>az rest ((A.aS d (.box z)).put d (.ptr d []))
 |some _=>.fail
noncomputable def sv(A:ai)(d:Nat)(z:I)(rest:List aH)(v:Bool):cM:=if v=true then az rest ((A.aS d (.box z)).put d (.ptr d [])) else .fail
noncomputable def su(A:ai)(d:Nat)(z:I)(rest:List aH):Option aq→cM
 |none=>sv A d z rest z.bR
 |some _=>.fail
open Classical in
noncomputable def db(A:ai)(s:Option Nat)(n:Nat)(p:List Nat)(b v:I)(rest:List aH):Option I→cM
 |some old=>if wP s v old then az rest (A.aS n (.box (b.ez p v))) else .fail
 |none=>.fail
noncomputable def tU(A:ai)(s:Option Nat)(n:Nat)(p:List Nat)(v:I)(rest:List aH):Option aq→cM
 |some (.box b)=>db A s n p b v rest (b.at p)
 |_=>.fail
noncomputable def dH(A:ai)(s:Option Nat)(v:I)(rest:List aH):I→cM
 | .ptr n p=>tU A s n p v rest (A.o n)
 |_=>.fail
noncomputable def p9(A:ai)(d:Option Nat)(args:List I)(rest:List aH):I→cM
 | .func f caps=>.call (kV f) (h3 f args caps) (b7 true A (h3 f args caps)) (b7 false A (h3 f args caps)) d rest A
 | .raw v=>.kN v args d rest A
 |_=>.fail
section
variable (d:Option Nat) (rest:List aH) (A:ai)
theorem GM(op:bQ):az (⟨d,op,none⟩::rest) A=bJ A d op rest:=rfl
theorem GN(op:bQ)(t:Nat)(b:Bool):az (⟨d,op,some (t,b)⟩::rest) A=gV (A.t t) b d op rest A:=rfl
theorem VE(op:bQ):gV (.bool true) true d op rest A=bJ A d op rest:=by simp[gV]
theorem VB(op:bQ):gV (.bool false) false d op rest A=bJ A d op rest:=by simp[gV]
theorem VD(op:bQ):gV (.bool true) false d op rest A=az rest (A.aT d .undef):=by simp[gV]
theorem VC(op:bQ):gV (.bool false) true d op rest A=az rest (A.aT d .undef):=by simp[gV]
theorem VF(op:bQ)(b:Bool):gV .undef b d op rest A=az rest (A.aT d .undef):=rfl
theorem XI(x:aO):bJ A d (.mv x) rest=az rest (A.aT d (ak A x)):=rfl
theorem XM(c a b:aO):bJ A d (.pick c a b) rest=qY A d a b rest (ak A c):=by
 simp only[bJ,bl,bn];cases ak A c <;>simp only[cP,qY]
theorem Xj(op:BinOp)(x y:aO):bJ A d (.bin op x y) rest=cP (cD op (ak A x) (ak A y)) (dk d rest A):=rfl
theorem Xs(ty:cF)(neg:Bool)(x y:aO):bJ A d (.eqv ty neg x y) rest=cP ((b5 ty (ak A x) (ak A y)).map fun b=>.bool (if neg then !b else b)) (dk d rest A):=rfl
theorem XR(op:UnOp)(x:aO):bJ A d (.un op x) rest=cP (rO op (ak A x)) (dk d rest A):=rfl
theorem Xq(k:IntKind)(x:aO):bJ A d (.conv k x) rest=cP (vb k (ak A x)) (dk d rest A):=by
 simp only[bJ,bl,bn];cases ak A x <;>rfl
theorem Xz(s:Option Nat)(x:aO):bJ A d (.ld s x) rest=cP (nW s (gT A (ak A x))) (dk d rest A):=by rw[←Yw];rfl
theorem Xu(f off:Nat)(x:aO):bJ A d (.fa f off x) rest=cP (jc A f off (ak A x)) (dk d rest A):=by rw[←Yr];rfl
theorem Xv(f off:Nat)(s:Option Nat)(x:aO):bJ A d (.fl f off s x) rest=cP (sN f off s (ak A x).dR) (dk d rest A):=by rw[←Ys];rfl
theorem Xw(n esz:Nat)(x i:aO):bJ A d (.ia n esz x i) rest=cP (qw A n esz (ak A x) (ak A i)) (dk d rest A):=by rw[←Yt];rfl
theorem Xx(esz:Nat)(x i:aO):bJ A d (.is esz x i) rest=cP (qz A esz (ak A x) (ak A i)) (dk d rest A):=by rw[←Yu];rfl
theorem Xy(n esz:Nat)(s:Option Nat)(x i:aO):bJ A d (.ix n esz s x i) rest=cP (qC n esz s (ak A x) (ak A i)) (dk d rest A):=by rw[←Yv];rfl
theorem XA(x:aO):bJ A d (.len x) rest=cP (jw A (ak A x)) (dk d rest A):=by rw[←Yx];rfl
theorem XS(n esz:Nat)(x:aO):bJ A d (.va n esz x) rest=cP (oF A n esz (ak A x)) (dk d rest A):=by rw[←Yy];rfl
theorem Xk(zs:List I)(ps:List (Nat×aO)):bJ A d (.bld zs ps) rest=cP ((dT zs (ps.map fun p=>(p.1,ak A p.2))).map .agg) (dk d rest A):=rfl
theorem Xt(x:aO)(i:Nat):bJ A d (.ext x i) rest=cP (vw i (ak A x)) (dk d rest A):=by
 simp only[bJ,bl,bn];cases ak A x <;>rfl
theorem XE(f:FuncId)(caps:List aO):bJ A d (.mk f caps) rest=cP (if ((caps.map (ak A)).all fun y=>y.bR)=true then some (.func f (caps.map (ak A))) else none) (dk d rest A):=rfl
theorem Xh(d:Nat)(z:I):bJ A (some d) (.alloc z) rest=uC A d z rest (A.o d):=by
 simp only[bJ,bl];cases A.o d <;>rfl
theorem Xl(d:Nat)(x:aO):bJ A (some d) (.box x) rest=su A d (ak A x) rest (A.o d):=by
 simp only[bJ,bl];cases A.o d <;>simp only[su,sv]
theorem XQ(s:Option Nat)(x v:aO):bJ A none (.aU s x v) rest=dH A s (ak A v) rest (ak A x):=by
 simp only[bJ,bl];cases ak A x <;>simp only[dH]
 rename_i n p;cases A.o n with
 |none=>rfl
 |some y =>
  cases y <;>simp only[tU]
  rename_i b;cases b.at p <;>simp only[db]
theorem Xn(f:FuncId)(args:List aO):bJ A d (.call f args) rest=.call f (args.map (ak A)) (b7 true A (args.map (ak A))) (b7 false A (args.map (ak A))) d rest A:=rfl
theorem Xo(x:aO)(args:List aO):bJ A d (.fL x args) rest=p9 A d (args.map (ak A)) rest (ak A x):=by
 simp only[bJ,bl];cases ak A x <;>rfl
end
end Go.Abs
namespace Go.Abs
open Go Go.RowKit
mutual
/-- Closed,and as a result is told: no nil slice but as the empty one. -/
def I.done:I→Bool
 | .agg fs=>I.h2 fs
 | .slice _ es=>I.ca es
 | .ref x=>x.bw
 | .func f caps=>decide (f<1000000)&&I.h2 caps
 | .iface _ v=>v.bw
 | .dm ks vs=>I.ca ks&&I.ca vs
 | .bool _ | .int _ _ | .bP _ | .nilp | .dC | .ea | .any | .raw _=>true
 |_=>false
def I.h2:List I→Bool
 | []=>true
 |x::xs=>x.done&&I.h2 xs
end
mutual
theorem ve:∀ x:I,x.done=true→x.bw=true
 | .agg fs,h=>by simp only[I.done,I.bw] at *;exact vf fs h
 | .slice _ es,h=>by simpa only[I.done,I.bw] using h
 | .ref x,h=>by simpa only[I.done,I.bw] using h
 | .func _ caps,h=>by simp only[I.done,I.bw,t8] at *;exact vf caps h.2
 | .iface _ v,h=>by simpa only[I.done,I.bw] using h
 | .bool _,_ | .int _ _,_ | .bP _,_ | .nilp,_ | .dC,_ | .ea,_ | .any,_ | .raw _,_=>by simp[I.bw]
 | .dm _ _,h=>by simpa only[I.done,I.bw] using h
 | .nils _,h | .c0 _,h | .ptr _ _,h | .own _ _,h | .view _ _ _ _ _,h | .mref _,h | .dq _,h | .undef,h | .dv,h | .tuple _,h=>by simp[I.done] at h
theorem vf:∀ xs:List I,I.h2 xs=true→I.ca xs=true
 | [],_=>rfl
 |x::xs,h=>by
  simp only[I.h2,I.ca,t8] at *;exact ⟨ve x h.1,vf xs h.2⟩
end
mutual
theorem AY(aN:Bool)(A:ai):∀ x:I,x.done=true→bh aN A x=some x
 | .agg fs,h=>by simp only[I.done,bh] at *;rw[vH aN A fs h];rfl
 | .slice _ es,h=>by simp only[I.done] at h;simp[bh,h]
 | .ref x,h=>by simp only[I.done] at h;simp[bh,h]
 | .func _ caps,h=>by simp only[I.done,bh,t8,decide_eq_true_eq] at *;rw[if_pos h.1,vH aN A caps h.2];rfl
 | .iface _ v,h=>by simp only[I.done] at h;simp[bh,h]
 | .bool _,_ | .int _ _,_ | .bP _,_ | .nilp,_ | .dC,_ | .ea,_ | .any,_ | .raw _,_=>by simp[bh]
 | .dm _ _,h=>by simp only[I.done] at h;simp[bh,h]
 | .nils _,h | .c0 _,h | .ptr _ _,h | .own _ _,h | .view _ _ _ _ _,h | .mref _,h | .dq _,h | .undef,h | .dv,h | .tuple _,h=>by simp[I.done] at h
theorem vH(aN:Bool)(A:ai):∀ xs:List I,I.h2 xs=true→b7 aN A xs=some xs
 | [],_=>by simp[b7]
 |x::xs,h=>by
  simp only[I.h2,t8] at h;simp only[b7,AY aN A x h.1,vH aN A xs h.2]
end
theorem Mj{x:I}(h:x.done=true):x.bR=true:=by cases x <;>simp_all[I.done,I.bR]
class Enc (α:Type) where
 enc:α→I
 sz:Nat
 aX:cO
 gN:Bool
 done:∀ x,(enc x).done=true
 size:∀ x,(enc x).size=sz
 iQ:∀ x,(enc x).aX=aX
 agg:∀ x,(enc x).isAgg=gN
open Enc (enc)
instance:Enc Int where
 enc n:=.int .i64 n
 sz:=1
 aX:=.one
 gN:=false
 done _:=rfl
 size _:=by simp[I.size]
 iQ _:=by simp[I.aX]
 agg _:=rfl
instance:Enc Bool where
 enc b:=.bool b
 sz:=1
 aX:=.one
 gN:=false
 done _:=rfl
 size _:=by simp[I.size]
 iQ _:=by simp[I.aX]
 agg _:=rfl
theorem iA{α:Type}[Enc α](l:List α):I.ca (l.map enc)=true:=by
 induction l with
 |nil=>rfl
 |cons x l ih=>simp only[Z4,I.ca,ve _ (Enc.done x),ih,Bool.and_self]
theorem Mk{α:Type}[Enc α](l:List α):I.h2 (l.map enc)=true:=by
 induction l with
 |nil=>rfl
 |cons x l ih=>simp only[Z4,I.h2,Enc.done x,ih,Bool.and_self]
theorem Zh{α:Type}[Enc α](l:List α):I.sizes (l.map enc)=l.length*Enc.sz α:=by
 rw[I.im (sz:=Enc.sz α) _ (by simp only[zy0];rintro x ⟨y,_,rfl⟩;exact Enc.size y)];simp
theorem xG{α:Type}[Enc α](l:List α):I.cV (l.map enc)=List.replicate l.length (Enc.aX α):=by
 induction l with
 |nil=>rfl
 |cons x l ih=>simp only[Z4,I.cV,Enc.iQ x,ih,zx5,List.replicate_succ]
instance {α:Type} [Enc α]:Enc (List α) where
 enc l:=.slice (Enc.sz α) (l.map enc)
 sz:=1
 aX:=.one
 gN:=false
 done l:=by simp only[I.done];exact iA l
 size _:=by simp[I.size]
 iQ _:=by simp[I.aX]
 agg _:=rfl
structure xS (n:Nat) (α:Type) where
 l:List α
 h:l.length=n
instance {n:Nat} {α:Type} [Enc α]:Enc (xS n α) where
 enc x:=.agg (x.l.map enc)
 sz:=n*Enc.sz α
 aX:=.eJ (List.replicate n (Enc.aX α))
 gN:=true
 done x:=by simp only[I.done];exact Mk x.l
 size x:=by simp only[I.size,Zh,x.h]
 iQ x:=by simp only[I.aX,xG,x.h]
 agg _:=rfl
section
variable {α:Type} [Enc α]
theorem lJ(aN:Bool)(A:ai)(x:α):bh aN A (enc x)=some (enc x):=AY aN A _ (Enc.done x)
theorem kQ(x:α):(enc x).bw=true:=ve _ (Enc.done x)
theorem cA(p:Nat→Bool)(x:α):(enc x).only p=true:=kl p _ (kQ x)
theorem eh(x:α):(enc x).bR=true:=Mj (Enc.done x)
theorem kS(x:α):bY none (enc x) = !(Enc.gN α):=by simp[bY,Enc.agg]
theorem fh(n:Nat)(x:α):bY (some n) (enc x)=(Enc.gN α&&Enc.sz α==n):=by simp[bY,Enc.agg,Enc.size]
theorem kU(x:α):(enc x).size=Enc.sz α:=Enc.size x
theorem eI(x:α):(enc x).aX=Enc.aX α:=Enc.iQ x
theorem eH(n:Int):(enc n:I)=.int .i64 n:=rfl
theorem Mo(n:Bool):(enc n:I)=.bool n:=rfl
theorem hl(l:List α):(enc l:I)=.slice (Enc.sz α) (l.map enc):=rfl
theorem kd:Enc.sz (List α)=1:=rfl
theorem kR:Enc.gN (List α)=false:=rfl
theorem mG:Enc.aX (List α)=.one:=rfl
theorem GX(l:List α):∀ x∈l.map (enc (α:=α)),x.size=Enc.sz α:=by
 simp only[zy0];rintro x ⟨y,_,rfl⟩;exact Enc.size y
end
theorem hZ(n:Int)(J:-9223372036854775808≤n)(U:n≤9223372036854775807):IntKind.i64.wrap n=n:=IntWalk.i64_in n ⟨J,U⟩
theorem bd.mk{P:Program}{f:FuncId}{fn:Func}{x:bq}{rs:List bM}{args:List I}{r:I}(hf:P.funcs[f]?=some fn)(hcall:e9 P f=true)(hc:(fn.body.bind (eB P fn.ntmps))=some x)
  (hrs:gS P fn.results.toList=some rs) (hn:args.length≤fn.ntmps) (h:∀ (w:World) (D:aP) (E:aZ),ae ⟨P,w,D,fn.ntmps,cI E,E,dy,none,none⟩ x (ku rs r) (av (bH 0 args) [])):bd P f args r:=by
 obtain ⟨body,hb,hc'⟩:=zx7.1 hc;exact bd.tm hf hb hcall hc' hrs hn (fun w D E=>(h w D E).sub (Zy args))
end Go.Abs
namespace Go.Abs.C
open Go Go.Abs
abbrev o(a:Nat)(x:bQ):aH:=⟨some a,x,none⟩
abbrev bT(a:Nat)(x:bQ)(k:Nat):aH:=⟨some a,x,some (k,true)⟩
abbrev on(a:Nat)(x:bQ)(k:Nat):aH:=⟨some a,x,some (k,false)⟩
abbrev p(x:bQ):aH:=⟨none,x,none⟩
abbrev bf(n:Int):aO:=.c (.int .i64 n)
abbrev T:aO:=.c (.bool true)
abbrev bE:aO:=.c (.bool false)
abbrev m(a b:Nat):aH:=⟨some a,.mv (.t b),none⟩
abbrev c6(a b k:Nat):aH:=⟨some a,.mv (.t b),some (k,true)⟩
abbrev kY(a b k:Nat):aH:=⟨some a,.mv (.t b),some (k,false)⟩
abbrev bS(a:Nat)(n:Int):aH:=⟨some a,.mv (.c (.int .i64 n)),none⟩
abbrev l(a b:Nat):aH:=⟨some a,.ld none (.t b),none⟩
abbrev dS(a b k:Nat):aH:=⟨some a,.ld none (.t b),some (k,true)⟩
abbrev fq(a b k:Nat):aH:=⟨some a,.ld none (.t b),some (k,false)⟩
abbrev L(a s b:Nat):aH:=⟨some a,.ld (some s) (.t b),none⟩
abbrev f(a b c d:Nat):aH:=⟨some a,.fa b c (.t d),none⟩
abbrev dZ(a b c d k:Nat):aH:=⟨some a,.fa b c (.t d),some (k,true)⟩
abbrev fn(a b c d k:Nat):aH:=⟨some a,.fa b c (.t d),some (k,false)⟩
abbrev ad(a b:Nat)(n:Int):aH:=⟨some a,.bin .add (.t b) (.c (.int .i64 n)),none⟩
abbrev lt(a b c:Nat):aH:=⟨some a,.bin .lss (.t b) (.t c),none⟩
abbrev and(a b c:Nat):aH:=⟨some a,.pick (.t b) (.t c) (.c (.bool false)),none⟩
abbrev or(a b c:Nat):aH:=⟨some a,.pick (.t b) (.c (.bool true)) (.t c),none⟩
abbrev no(a b:Nat):aH:=⟨some a,.un .not (.t b),none⟩
abbrev b(a c:Nat):aH:=⟨some a,.box (.t c),none⟩
abbrev s(x y:bq):bq:=.seq x y
abbrev r(g:List aH):bq:=.cd none g
abbrev cz(P:Program)(f:Func)(c:bq):Prop:=f.body.bind (eB P f.ntmps)=some c
abbrev cv(P:Program)(f:Func)(r:List bM):Prop:=gS P f.results.toList=some r
abbrev cg(P:Program)(n:FuncId):Prop:=e9 P n=true
theorem e{α:Type}{a b:α}(h:a=b):a=b:=h
end Go.Abs.C
