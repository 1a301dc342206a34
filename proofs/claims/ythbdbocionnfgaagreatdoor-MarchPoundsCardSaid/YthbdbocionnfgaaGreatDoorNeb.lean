/-
  A part of the proof that the law MarchPounds returns true for every input; three tables of Go's library start as the text lays them (the card ties them); conditions: none beyond the statement's own. (part 2 of 6)
-/
import Derived.Maps.RangeRun
import Derived.Laws.MakeOwn
import Derived.Orders
import Derived.OrdersIn
import Derived.Test.YthbdbocionnfgaaGreatDoorNea
set_option linter.unusedSimpArgs false
set_option linter.unusedVariables false
set_option maxHeartbeats 16000000
set_option maxRecDepth 100000
namespace Go.Abs
open Go Go.RowKit
theorem AZ{w:World}{D:aP}{E:aY} : ∀ (l:List cJ) (xs ys:List I) (cs ds:List Value),l.all wi=true→hX l xs ys=some true→aN w D E xs cs→aN w D E ys ds→xs=ys∧cs=ds∧∀ v∈cs,∃ k n,v=.int k n
 | [],xs,ys,cs,ds,_,h,hx,hy=>by
  simp only[hX] at h;split at h
  ·simp only[aN] at hx hy;subst hx hy;exact ⟨rfl,rfl,fun v hv=>by simp at hv⟩
  ·cases h
 |t::ts,xs,ys,cs,ds,ha,h,hx,hy=>by
  simp only[List.all_cons,t8] at ha;simp only[hX] at h;split at h
  case h_2=>cases h
  rename_i f fs g gs;unfold iY at h;split at h
  case h_2=>cases h
  rename_i a b J U;simp only[v6,t8] at h;obtain ⟨rfl,rfl⟩:=h;simp only[aN] at hx hy;obtain ⟨c1,c2,rfl,p1,p2⟩:=hx;obtain ⟨d1,d2,rfl,q1,q2⟩:=hy;obtain ⟨rfl,rfl,k3⟩:=AZ ts fs gs c2 d2 ha.2 U p2 q2;cases t with
  |i k =>
   simp only[ca] at J;split at J
   case h_2=>cases J
   rename_i k1 a k2 b;split at J
   case isFalse=>cases J
   rename_i hk;simp only[v6,beq_iff_eq] at J;subst J;obtain ⟨rfl,rfl⟩:=hk;simp only[al] at p1 q1;obtain ⟨rfl,_⟩:=p1;obtain ⟨rfl,_⟩:=q1;refine ⟨rfl,rfl,fun v hv =>?_⟩;rcases zy7.1 hv with hv | hv
   ·simp at hv;exact ⟨_,_,hv⟩
   ·exact k3 v hv
  |b | s | bd _ | qa _ _=>simp[wi] at ha
theorem Fh:∀ (cs:List Value) (n:Nat),(∀ v∈cs,∃ k m,v=.int k m)→((cs.zip cs).all fun (x,y)=>Instr.sameBits n x y)=true
 | [],_,_=>rfl
 |v::cs,n,h=>by
  obtain ⟨k,m,rfl⟩:=h v (by simp);simp only[List.zip_cons_cons,List.all_cons,t8];exact ⟨by cases n <;>simp[Instr.sameBits],Fh cs n fun v hv=>h v (by simp[hv])⟩
theorem Wz{P:Program}{t:TypeId}{ty:cJ}{w:World}{D:aP}{E:aY}{x y:I}{u v:Value}(hk:jO P t=some ty)(h:ca ty x y=some true)(hx:aZ w D E x u)(hy:aZ w D E y v):x=y∧u=v∧Instr.sameBits 10000 u v=true:=by
 unfold jO at hk;split at hk
 ·rename_i k hu;simp only[v6] at hk;subst hk;simp only[ca] at h;split at h
  case h_2=>cases h
  split at h
  case isFalse=>cases h
  rename_i hk;simp only[v6,beq_iff_eq] at h;subst h;obtain ⟨rfl,rfl⟩:=hk;rw[(eV hx).1,(eV hy).1];exact ⟨rfl,rfl,by simp[Instr.sameBits]⟩
 ·rename_i fs hu;split at hk
  case h_2=>cases hk
  rename_i l aq;split at hk
  case isFalse=>cases hk
  rename_i hc;simp only[v6] at hk;subst hk;simp only[ca] at h;split at h
  case h_2=>cases h
  rename_i xs ys;obtain ⟨cs,rfl,hc1⟩:=je hx;obtain ⟨ds,rfl,hd1⟩:=je hy;obtain ⟨rfl,rfl,ah⟩:=AZ l xs ys cs ds hc.1 h hc1 hd1;refine ⟨rfl,rfl,?_⟩;simp only[Instr.sameBits,beq_self_eq_true,Bool.true_and];exact Fh cs _ ah
 ·cases hk
section
variable {P:Program} {w:World} {D:aP} {E:aY}
theorem vd{t:TypeId}{ty:cJ}{em:Bool}{x y:I}{v:Value}{r:Bool}(hk:jO P t=some ty)(hx:aZ w D E x v)(h:ca ty x y=some r)(n:Nat):(Instr.checkKey em (n+2) t v).run P w=.ok () w:=by
 unfold jO at hk;split at hk
 ·rename_i k hu;simp only[v6] at hk;subst hk;simp only[ca] at h;split at h
  case h_2=>cases h
  rename_i k1 a k2 b;split at h
  case isFalse=>cases h
  rename_i hq;rw[(eV hx).1,hq.1];exact MapKept.run_checkKey hu (by simp[MapKept.IsKey]) em (n+1)
 ·rename_i fs hu;split at hk
  case h_2=>cases hk
  rename_i l aq;split at hk
  case isFalse=>cases hk
  rename_i hc;simp only[v6] at hk;subst hk;simp only[ca] at h;split at h
  case h_2=>cases h
  rename_i xs ys;obtain ⟨cs,rfl,hc1⟩:=je hx;obtain ⟨d,af⟩:∃ d,d=11:=⟨_,rfl⟩
  rw[show (12:Nat)=d+1 from by omega] at aq;simp only[gH,hu] at aq;split at aq
  case isFalse=>cases aq
  rename_i hc2;simp only[t7,cJ.bd.injEq] at aq;obtain ⟨l',aq,rfl⟩:=aq;rw[show n+2=(n+1)+1 from rfl,Instr.checkKey];simp only[Sem.run_bind,run_underlying hu,Result.andThen_ok];rw[←Array.forIn_toList];have key:∀ (L:List Field) (l:List cJ) (xs ys:List I) (r:Bool) (c1 c2:List Value),
    (L.mapM fun f=>match gH P d f.type with
     |some ty=>if ty.size=P.cellsOf f.type then some ty else none
     | none => none) = some l → (∀ f ∈ L, f.name ≠ "_" ∧ qH (P.underlying f.type) = true) → pD P c1.length L = true → aN w D E xs c2 → hX l xs ys = some r → c1 ++ c2 = cs →
    Sem.run P (forIn L PUnit.unit (fun (f : Field) (_ : PUnit) => (if f.name ≠ "_" then (do
     let x ←part f.type cs.toArray f.offset
     Instr.checkKey em (n+1) f.type x
     pure (ForInStep.yield PUnit.unit)) else pure (ForInStep.yield PUnit.unit):Sem (ForInStep PUnit)))) w=.ok PUnit.unit w:=by
   intro L
   induction L with
   |nil=>intros;simp
   |cons f L ih =>
    intro l xs ys r c1 c2 hm hn ho hx h htot;simp only[List.mapM_cons,Option.bind_eq_bind,Option.pure_def,zx9,v6] at hm;obtain ⟨ty,hty,tys,htys,rfl⟩:=hm;split at hty
    case h_2=>cases hty
    rename_i ty' hd';split at hty
    case isFalse=>cases hty
    rename_i hsz;simp only[v6] at hty;subst hty;simp only[hX] at h;split at h
    case h_2=>cases h
    rename_i x xs y ys;unfold iY at h;split at h
    case h_2=>cases h
    rename_i ra rb J U;simp only[aN] at hx;obtain ⟨e1,e2,rfl,k1,k2⟩:=hx;obtain ⟨s,q1,q2,q3⟩:=vl hd' hsz J;obtain ⟨u,p1,p2⟩:=oq (P:=P) (w:=w) (c1:=c1) (c3:=e2) q1 q2 k1;simp only[pD,t8,beq_iff_eq] at ho;have hsx:=oW ty' x y ra J;have hle:e1.length=P.cellsOf f.type:=by rw[al.length _ _ k1,hsx.1,hsz]
    have ih':=ih tys xs ys rb (c1++e1) e2 htys (fun g hg=>hn g (by simp[hg])) (by simp only[Z7,hle];exact ho.2) k2 U (by rw[←htot];simp);rw[zz1,htot,←ho.1] at p1;obtain ⟨hnm,hint⟩:=hn f (by simp);have hck:(Instr.checkKey em (n+1) f.type u).run P w=.ok () w:=by
     cases hu:P.underlying f.type with
     |none=>simp[hu,qH] at hint
     |some dd =>
      cases dd <;>simp[hu,qH] at hint
      rename_i q;have hti:ty'=.i q:=by
       rw[show d=10+1 from by omega] at hd';unfold gH at hd';simp only[hu,v6] at hd';exact hd'.symm
      subst hti;simp only[ca] at J;split at J
      case h_2=>cases J
      split at J
      case isFalse=>cases J
      rename_i hq;rw[(eV p2).1,hq.1];exact MapKept.run_checkKey hu (by simp[MapKept.IsKey]) em n
    simp only[List.forIn_cons,Sem.run_bind,hnm,ne_eq,not_false_eq_true,if_true,p1,Result.andThen_ok,hck,Sem.run_pure];exact ih'
  rw[key fs.toList l' xs ys r [] cs aq (fun f hf=>⟨by simpa using zz6.1 hc2.2.1 f hf,Array.all_eq_true_iff_forall_mem.1 hc.2 f (Array.mem_toList_iff.1 hf)⟩) hc2.2.2 hc1 h rfl];simp
 ·cases hk
theorem xE{x:I}{xs:List I}{vs:List Value}(h:aI w D E (x::xs) vs):∃ v rest,vs=v::rest∧aZ w D E x v∧aI w D E xs rest:=by
 simp only[aI] at h;obtain ⟨v,rest,cs,rfl,J,U,ah⟩:=h;exact ⟨v,rest,rfl,ju J U,ah⟩
def oH(r:Option Nat)(es:List MapEntry)(i:Nat)(q:Option (Nat×Value)):Prop :=
 (r=none∧q=none)∨∃ j e,r=some (i+j)∧es[j]?=some e∧q=some (i+j,e.val)
theorem oH.step{r:Option Nat}{es:List MapEntry}{e:MapEntry}{i:Nat}{q:Option (Nat×Value)}(h:oH r es (i+1) q):oH r (e::es) i q:=by
 rcases h with h | ⟨j,e',J,U,ah⟩
 ·exact .inl h
 ·exact .inr ⟨j+1,e',by rw[J];congr 1;omega,by simpa using U,by rw[ah];congr 2;omega⟩
theorem Bl{q:IntKind}{k:I}{v:Value}(hv:aZ w D E k v):∀ (ks:List I) (es:List MapEntry) (i:Nat) (r:Option Nat),aI w D E ks (es.map (·.key))→eD (.i q) k ks i=some r →
  ∃ x,Instr.findNow (.int q) v es i=some x∧oH r es i x
 | [],es,i,r,hk,h=>by
  simp only[eD,v6] at h;simp only[aI,List.map_eq_nil_iff] at hk;subst h hk;exact ⟨none,rfl,.inl ⟨rfl,rfl⟩⟩
 |x::ks,es,i,r,hk,h=>by
  obtain ⟨u,rest,e1,hu,hr⟩:=xE hk;cases es with
  |nil=>cases e1
  |cons e es =>
   simp only[Z3,zw2] at e1;obtain ⟨rfl,rfl⟩:=e1;simp only[eD] at h;have same:∀ b,ca (.i q) k x=some b→Instr.sameNow (.int q) v e.key=some b:=fun b hb=>by
    simp only[ca] at hb;split at hb
    case h_2=>cases hb
    split at hb
    case isFalse=>cases hb
    rename_i hq;simp only[v6] at hb;subst hb;rw[(eV hv).1,(eV hu).1];simp[Instr.sameNow,hq.1,hq.2]
   split at h
   ·rename_i hb;simp only[v6] at h;subst h;exact ⟨some (i,e.val),by simp[Instr.findNow,same _ hb],.inr ⟨0,e,rfl,rfl,rfl⟩⟩
   ·rename_i hb;obtain ⟨y,J,U⟩:=Bl hv ks es (i+1) r hr h;exact ⟨y,by simp[Instr.findNow,same _ hb,J],U.step⟩
   ·cases h
theorem Bj{t:TypeId}{ty:cJ}(hty:gH P 12 t=some ty){k:I}{v:Value}(hv:aZ w D E k v):∀ (ks:List I) (es:List MapEntry) (i:Nat) (r:Option Nat),aI w D E ks (es.map (·.key))→eD ty k ks i=some r →
  ∃ x,(Instr.findAsking t v es i).run P w=.ok x w∧oH r es i x
 | [],es,i,r,hk,h=>by
  simp only[eD,v6] at h;simp only[aI,List.map_eq_nil_iff] at hk;subst h hk;exact ⟨none,rfl,.inl ⟨rfl,rfl⟩⟩
 |x::ks,es,i,r,hk,h=>by
  obtain ⟨u,rest,e1,hu,hr⟩:=xE hk;cases es with
  |nil=>cases e1
  |cons e es =>
   simp only[Z3,zw2] at e1;obtain ⟨rfl,rfl⟩:=e1;simp only[eD] at h;have same:∀ b,ca ty k x=some b→(Op.equal t v e.key).run P w=.ok b w:=fun b hb=>sG 12 t ty hty k x v e.key b hv hu hb _ (by simp[Op.maxDepth]);split at h
   ·rename_i hb;simp only[v6] at h;subst h;exact ⟨some (i,e.val),by simp[Instr.findAsking,same _ hb],.inr ⟨0,e,rfl,rfl,rfl⟩⟩
   ·rename_i hb;obtain ⟨y,J,U⟩:=Bj hty hv ks es (i+1) r hr h;exact ⟨y,by simp[Instr.findAsking,same _ hb,J],U.step⟩
   ·cases h
theorem o7{t:TypeId}{ty:cJ}(hk:jO P t=some ty){k:I}{v:Value}(hv:aZ w D E k v){ks:List I}{es:List MapEntry}{r:Option Nat}(hks:aI w D E ks (es.map (·.key)))(h:eD ty k ks 0=some r) :
  ∃ x,(Instr.findKey t v es).run P w=.ok x w∧oH r es 0 x:=by
 have hk0:=hk;unfold jO at hk;split at hk
 ·rename_i q hu;simp only[v6] at hk;subst hk;obtain ⟨x,J,U⟩:=Bl hv ks es 0 r hks h;exact ⟨x,by simp[Instr.findKey,run_underlying hu,J],U⟩
 ·rename_i fs hu;split at hk
  case h_2=>cases hk
  rename_i l aq;split at hk
  case isFalse=>cases hk
  simp only[v6] at hk;subst hk;cases es with
  |nil =>
   cases ks with
   |nil =>
    simp only[eD,v6] at h;subst h;exact ⟨none,by simp[Instr.findKey,run_underlying hu,Instr.findNow],.inl ⟨rfl,rfl⟩⟩
   |cons x xs=>simp[aI] at hks
  |cons e es =>
   obtain ⟨x,J,U⟩:=Bj aq hv ks (e::es) 0 r hks h;exact ⟨x,by simp[Instr.findKey,run_underlying hu,Instr.findNow,Instr.sameNow,J],U⟩
 ·cases hk
theorem mg:∀ {xs:List I} {vs:List Value} {j:Nat} {v:Value},aI w D E xs vs→vs[j]?=some v→∃ x,xs[j]?=some x∧aZ w D E x v
 | [],vs,j,v,h,hj=>by simp only[aI] at h;subst h;simp at hj
 |x::xs,vs,j,v,h,hj=>by
  obtain ⟨u,rest,rfl,J,U⟩:=xE h;cases j with
  |zero=>simp only[List.getElem?_cons_zero,v6] at hj;subst hj;exact ⟨x,rfl,J⟩
  |succ j=>exact mg (xs:=xs) U (by simpa using hj)
end
section
variable {c:cV} {A:ai} {o:Oper} {x:I}
theorem WX{a:Act}{w:World}{D:aP}{E:aY}(ab:aU c A a w D E){m:I}{v:Value}{ks vs:List I}(hv:aZ w D E m v)(hm:fZ A m=some (ks,vs)) :
  (v=.map none∧ks=[]∧vs=[])∨∃ b es clock,v=.map (some b)∧w.heap[b]?=some (.map es clock)∧aI w D E ks (es.toList.map (·.key))∧aI w D E vs (es.toList.map (·.val)):=by
 unfold fZ at hm;split at hm
 ·simp only[v6,Prod.mk.injEq] at hm;obtain ⟨rfl,rfl⟩:=hm;obtain ⟨cs,q1,q2⟩:=hv;simp only[al] at q2;obtain ⟨b,es,ck,q3,q4,q5,q6⟩:=q2;exact .inr ⟨b,es,ck,by simpa[bD,I.isAgg,q3] using q1.symm,q4.1,q5,q6⟩
 ·rename_i n;split at hm
  case h_2=>cases hm
  rename_i ks' vs' hn;simp only[v6,Prod.mk.injEq] at hm;obtain ⟨rfl,rfl⟩:=hm;obtain ⟨cs,q1,q2⟩:=hv;simp only[al] at q2;obtain ⟨b,q3,q4⟩:=q2;obtain ⟨b',es,ck,k1,k2,k3,k4,k5,k6,k7⟩:=ab.map hn;rw[k1] at q3;cases q3;exact .inr ⟨_,es,ck,by simpa[bD,I.isAgg,q4] using q1.symm,k3,k5,k6⟩
 ·simp only[v6,Prod.mk.injEq] at hm;obtain ⟨rfl,rfl⟩:=hm;obtain ⟨cs,q1,q2⟩:=hv;simp only[al] at q2;exact .inl ⟨by simpa[bD,I.isAgg,q2.1] using q1.symm,rfl,rfl⟩
 ·cases hm
theorem oE{w:World}{D:aP}{E:aY}{y:I}{v:Value}(hv:y.bT=true)(h:aZ w D E y v):∃ cs,bD y v cs∧al w D E y cs:=by
 cases y <;>simp[I.bT] at hv <;>exact h
theorem pQ{w:World}{D:aP}{E:aY} : ∀ {xs:List I} {vs:List Value} {j:Nat} {x:I},aI w D E xs vs→xs[j]?=some x→x.bT=true
 | [],_,j,x,_,h=>by simp at h
 |y::ys,vs,j,x,hr,h=>by
  simp only[aI] at hr;obtain ⟨v,rest,cs,rfl,J,U,ah⟩:=hr;cases j with
  |zero =>
   simp only[List.getElem?_cons_zero,v6] at h;subst h;cases y <;>simp only[al] at U <;>rfl
  |succ j=>exact pQ (xs:=ys) ah (by simpa using h)
theorem ZV{x:I}{cs r:List Value}(h:mu x cs=some r):x.bT=true:=by
 cases x <;>first | rfl | (cases cs <;>simp[mu] at h)
theorem ZW{P:Program}{t:TypeId}{z:I}(hz:gj P t=some z)(hp:ui P t z=true):∃ zv,(∀ w,(zeroValue t).run P w=.ok zv w)∧z.bT=true∧∀ w D E,aZ w D E z zv:=by
 have hz0:=hz;obtain ⟨i,zv,hi,hzz,hzr⟩:=lz hz;have hv:z.bT=true:=by
  unfold gj at hz;split at hz
  ·split at hz
   ·rename_i hk;simp only[v6] at hz;subst hz;exact ZV hk
   ·cases hz
  ·cases hz
 refine ⟨zv,fun w=>by simp[zeroValue,typeInfo,hi,hzz],hv,fun w D E =>?_⟩;have J:=hzr w D E;simp only[ui,hi,Option.bind_some,hzz] at hp;refine ju (cs:=zv.cells.toList) ?_ J;cases zv <;>simp only[bD] at hp ⊢ <;>first
  |(rw[if_pos hp];simp[Value.cells])
  |(have hp':z.isAgg=false:=by simpa using hp
    rw[hp'];simp[Value.cells])
theorem V5{t kt et:TypeId}{m k:Operand}{m' k':aO}{ok:Bool}{ty:cJ}{z v:I}{ks vs:List I}{there:Bool}(ho:o.op=.lookup t m k ok)(hu:c.P.underlying t=some (.map kt et))(hk:jO c.P kt=some ty)(hz:gj c.P et=some z)(hzp:ui c.P et z=true)
  (hm:bx c.P 0 m=some m') (hk':bx c.P 0 k=some k') (hmm:fZ A (ak A m')=some (ks,vs)) (aq:fk ty z (ak A k') ks vs=some (v,there)):dL c A o (if ok then .tuple [v,.bool there] else v) :=
 .same fun a w D E ab=>by
  have J:=bX ab hm;have U:=bX ab hk';obtain ⟨zv,hzrun,hzv,hzrv⟩:=ZW hz hzp;unfold fk at aq;split at aq
  case isFalse=>cases aq
  rename_i hkk;obtain ⟨rk,hrk⟩:=zz9.1 hkk;have hchk:=fun em=>vd (P:=c.P) (w:=w) (em:=em) hk U hrk 9998;have bj:∀ u there,v.bT=true→aZ w D E v u→aZ w D E (if ok then .tuple [v,.bool there] else v) (if ok then Value.tuple #[u,.bool there] else u):=fun u there hval hu'=>by
   cases ok
   ·exact hu'
   ·obtain ⟨cs,q1,q2⟩:=oE hval hu';simp only[if_true,aZ,aI];exact ⟨[u,.bool there],rfl,u,[.bool there],cs,rfl,q1,q2,.bool there,[],[.bool there],rfl,by simp[bD,I.isAgg],by simp[al],rfl⟩
  have main:∀ (es:Array MapEntry),aI w D E ks (es.toList.map (·.key))→aI w D E vs (es.toList.map (·.val))→∃ u,v.bT=true∧aZ w D E v u ∧
    ((∃ i,(Instr.findKey kt (a.eval k) es.toList).run c.P w=.ok (some (i,u)) w∧there=true)∨((Instr.findKey kt (a.eval k) es.toList).run c.P w=.ok none w∧u=zv∧there=false)):=fun es hks hvs=>by
   split at aq
   ·rename_i i hfi;simp only[t7,Prod.mk.injEq] at aq;obtain ⟨v',hv',rfl,rfl⟩:=aq;obtain ⟨q,q1,q2⟩:=o7 hk U hks hfi;rcases q2 with ⟨e,_⟩ | ⟨j,e,e1,e2,rfl⟩
    ·cases e
    ·simp only[Z1,v6] at e1;subst e1;obtain ⟨x,k1,k2⟩:=mg (j:=i) (v:=e.val) hvs (by simp only[zy0,e2,zz0]);rw[hv',v6] at k1;subst k1;exact ⟨e.val,pQ hvs hv',k2,.inl ⟨_,q1,rfl⟩⟩
   ·rename_i hfi;simp only[v6,Prod.mk.injEq] at aq;obtain ⟨rfl,rfl⟩:=aq;obtain ⟨q,q1,q2⟩:=o7 hk U hks hfi;rcases q2 with ⟨_,rfl⟩ | ⟨j,e,e1,_⟩
    ·exact ⟨zv,hzv,hzrv w D E,.inr ⟨q1,rfl,rfl⟩⟩
    ·cases e1
   ·cases aq
  rcases WX ab J hmm with ⟨e1,rfl,rfl⟩ | ⟨b,es,ck,e1,e2,e3,e4⟩
  ·obtain ⟨u,hval,hu',hrun⟩:=main #[] (by simp[aI]) (by simp[aI]);refine ⟨_,?_,bj u there hval hu'⟩;rcases hrun with ⟨i,q1,rfl⟩ | ⟨q1,rfl,rfl⟩ <;>
    simp only[execOp,ho,Instr.lookup,e1,Sem.run_bind,run_underlying hu,Result.andThen_ok,Sem.run_pure,hchk,q1,hzrun]
  ·obtain ⟨u,hval,hu',hrun⟩:=main es e3 e4;refine ⟨_,?_,bj u there hval hu'⟩;rcases hrun with ⟨i,q1,rfl⟩ | ⟨q1,rfl,rfl⟩ <;>
    simp only[execOp,ho,Instr.lookup,e1,Sem.run_bind,run_underlying hu,Result.andThen_ok,MapKept.run_getObj_map e2,Sem.run_pure,hchk,q1,hzrun]
theorem BT{y:Operand}{y':aO}(ho:o.op=.nilCheck y)(hy:bx c.P 0 y=some y')(h:(∃ n p,ak A y'=.ptr n p)∨∃ z,ak A y'=.ref z):dL c A o (ak A y') :=
 .same fun a w D E ab=>by
  have J:=bX ab hy;rcases h with ⟨n,p,h⟩ | ⟨z,h⟩
  ·rw[h] at J ⊢;obtain ⟨b,aX,off,_,_,e⟩:=lg J;exact ⟨a.eval y,by simp only[execOp,ho,e,Sem.run_pure],J⟩
  ·rw[h] at J ⊢;obtain ⟨b,off,cs,e,_⟩:=pP J;exact ⟨a.eval y,by simp only[execOp,ho,e,Sem.run_pure],J⟩
theorem B6{w:World}{D:aP}{E:aY}{x:I}{v:Value}{b:Bool}(h:iB x=some b)(hv:aZ w D E x v):∃ ad,v=.pointer ad∧ad.isNone=b:=by
 cases x <;>simp only[iB,v6] at h <;>try (cases h;done)
 case nilp =>
  subst h;obtain ⟨cs,q1,q2⟩:=hv;simp only[al] at q2;exact ⟨none,by simpa[bD,I.isAgg,q2] using q1.symm,rfl⟩
 case ptr n p =>
  subst h;obtain ⟨b,aX,off,_,_,e⟩:=lg hv;exact ⟨_,e,rfl⟩
 case ref z =>
  subst h;obtain ⟨b,off,cs,e,_⟩:=pP hv;exact ⟨_,e,rfl⟩
theorem V8{x y:Operand}{x' y':aO}{tys:Array TypeId}{v:I}(ho:o.op=.call { callee:=.builtin .max,args := #[x,y],argTypes:=tys })(hx:bx c.P 0 x=some x')(hy:bx c.P 0 y=some y')(h:qY (ak A x') (ak A y')=some v):dL c A o v :=
 .same fun a w D E ab=>by
  have J:=bX ab hx;have U:=bX ab hy;unfold qY at h;split at h
  case h_2=>cases h
  rename_i k n k2 m e1 e2;split at h
  case isFalse=>cases h
  rename_i hk;subst hk;simp only[v6] at h;subst h;rw[e1] at J;rw[e2] at U;obtain ⟨v1,r1⟩:=eV J;obtain ⟨v2,n5⟩:=eV U;refine ⟨.int k (if m>n then m else n),by simp[execOp,ho,resolve,invoke,builtin,Builtin.max_,Builtin.max2,v1,v2],jQ ?_⟩;split
  ·exact n5
  ·exact r1
theorem Wc{neg:Bool}{t yt e:TypeId}{y z:Operand}{y' z':aO}{b1 b2:Bool}(ho:o.op=.binOp (if neg then .neq else .eql) t y z yt)(hu:c.P.underlying t=some (.pointer e))(hy:bx c.P 0 y=some y')(hz:bx c.P 0 z=some z')
  (J:iB (ak A y')=some b1) (U:iB (ak A z')=some b2) (h:b1=true∨b2=true):dL c A o (.bool (if neg then !(b1&&b2) else (b1&&b2))) :=
 .same fun a w D E ab=>by
  obtain ⟨p,e1,k1⟩:=B6 J (bX ab hy);obtain ⟨q,e2,k2⟩:=B6 U (bX ab hz);have he:∀ d,(Op.equalIn (d+1) t (.pointer p) (.pointer q)).run c.P w=.ok (b1&&b2) w:=fun d=>by
   subst k1 k2;cases p <;>cases q <;>simp at h <;>simp[Op.equalIn,run_underlying hu]
  refine ⟨.bool (if neg then !(b1&&b2) else (b1&&b2)),?_,nT _⟩;cases neg <;>simp only[execOp,ho,e1,e2,if_true,Z2,if_false,Sem.run_bind,eqGuard] <;>simp[binOp,Op.equal,Op.maxDepth,he]
end
section
variable {c:cV} {A:ai} {o:Oper} {x:I}
theorem Mj{t:TypeId}{d:Nat}(ho:o.op=.makeMap t none)(af:o.dst=some d)(hn:d<c.n)(hf:A.o d=none):h1 c A o ((A.aT d (.bz [] [])).put d (.mref d)):=by
 intro a w D E ab;have J:=ab.Xf (.inl hn) hf;have U:=J.put (x:=.mref d) (v:=.map (some w.heap.size)) hn ⟨_,by simp[bD,I.isAgg];rfl,by
  simp only[al,if_true];exact ⟨w.heap.size,rfl,rfl⟩⟩
 exact ⟨w.alloc (.map #[] 0),.inl ⟨.map (some w.heap.size),by simp[execOp,ho,Instr.makeMap],D,_,by rw[af];exact U⟩⟩
theorem xD{w:World}{D:aP}{E:aY} : ∀ {xs ys:List I} {us vs:List Value},aI w D E xs us→aI w D E ys vs→aI w D E (xs++ys) (us++vs)
 | [],ys,us,vs,h,k=>by simp only[aI] at h;subst h;simpa using k
 |x::xs,ys,us,vs,h,k=>by
  simp only[aI,Z5] at *;obtain ⟨v,rest,cs,rfl,J,U,ah⟩:=h;exact ⟨v,rest++vs,cs,rfl,J,U,xD ah k⟩
theorem Fg{w:World}{D:aP}{E:aY} : ∀ {xs:List I} {us:List Value} {i:Nat} {y:I} {v:Value} {cs:List Value},aI w D E xs us→bD y v cs→al w D E y cs→aI w D E (xs.set i y) (us.set i v)
 | [],us,i,y,v,cs,h,_,_=>by simp only[aI] at h;subst h;simp[aI]
 |x::xs,us,i,y,v,cs,h,k1,k2=>by
  simp only[aI] at h;obtain ⟨u,rest,ds,rfl,J,U,ah⟩:=h;cases i with
  |zero=>simp only[List.set_cons_zero,aI];exact ⟨v,rest,cs,rfl,k1,k2,ah⟩
  |succ i=>simp only[List.set_cons_succ,aI];exact ⟨u,_,ds,rfl,J,U,Fg ah k1 k2⟩
theorem Ff{w:World}{D:aP}{E:aY}{y:I}{v:Value}{cs:List Value}(J:bD y v cs)(U:al w D E y cs):aI w D E [y] [v]:=by
 simp only[aI];exact ⟨v,[],cs,rfl,J,U,rfl⟩
theorem Bk{ty:cJ}{k:I} : ∀ {ks:List I} {i j:Nat},eD ty k ks i=some (some j)→∃ x,ks[j-i]?=some x∧i≤j∧ca ty k x=some true
 | [],i,j,h=>by simp[eD] at h
 |x::xs,i,j,h=>by
  simp only[eD] at h;split at h
  ·rename_i hb;simp only[v6] at h;subst h;exact ⟨x,by simp,Z4 _,hb⟩
  ·obtain ⟨y,J,U,ah⟩:=Bk h;refine ⟨y,?_,by omega,ah⟩;rw[show j-i=(j-(i+1))+1 from by omega];simpa using J
  ·cases h
theorem AR{t kt et:TypeId}{m k v:Operand}{m' k' v':aO}{ty:cJ}{n:Nat}{ks vs ks' vs':List I}(ho:o.op=.mapUpdate t m k v∨o.op=.insert t m k v)(hu:c.P.underlying t=some (.map kt et))(hk:jO c.P kt=some ty)
  (hm:bx c.P 0 m=some m') (hk':bx c.P 0 k=some k') (hv':bx c.P et v=some v') (hmm:ak A m'=.mref n) (hn:A.o n=some (.bz ks vs)) (aq:fy ty (ak A k') (ak A v') ks vs=some (ks',vs')) (af:o.dst=none) :
  h1 c A o (A.aT n (.bz ks' vs')):=by
 intro a w D E ab;have J:=bX ab hm;have U:=bX ab hk';have ah:=bX ab hv';rw[hmm] at J;unfold fy at aq;split at aq
 case isFalse=>cases aq
 rename_i hc;obtain ⟨hkk,hkv,hvv⟩:=hc;obtain ⟨rk,hrk⟩:=zz9.1 hkk;have hchk:=fun em=>vd (P:=c.P) (w:=w) (em:=em) hk U hrk 9998;obtain ⟨kcs,kp1,kp2⟩:=oE hkv U;obtain ⟨vcs,vp1,vp2⟩:=oE hvv ah;obtain ⟨b,es,ck,k1,k2,k3,k4,k5,k6,k7⟩:=ab.map hn;have hmv:a.eval m=.map (some b):=by
  obtain ⟨cs,q1,q2⟩:=J;simp only[al] at q2;obtain ⟨b',q3,q4⟩:=q2;rw[k1] at q3;cases q3;simpa[bD,I.isAgg,q4] using q1.symm
 -- the new entries
 have step:∀ (es':Array MapEntry) (ck':Nat),(Instr.mapUpdate t (.map (some b)) (a.eval k) (a.eval v)).run c.P w=.ok () (w.putObj b (.map es' ck'))→oz es' ck'→aI w D E ks' (es'.toList.map (·.key))→aI w D E vs' (es'.toList.map (·.val)) →
   ∃ w',((∃ u,(execOp a.eval o).run c.P w=.ok (.value u) w'∧b5 c (A.aT n (.bz ks' vs')) (a.put o.dst u) w')∨((execOp a.eval o).run c.P w=.ok .skip w'∧b5 c (A.aT n (.bz ks' vs')) (a.put o.dst undef) w')):=fun es' ck' hrun hst hks hvs=>by
  refine ⟨w.putObj b (.map es' ck'),.inr ⟨?_,?_⟩⟩
  ·rcases ho with ho | ho <;>simp only[execOp,ho,hmv,Sem.run_bind,hrun,Result.andThen_ok,Sem.run_pure]
  ·rw[af];have:=ab.xL (o':=.map es' ck') (x:=.bz ks' vs') k1 rfl rfl k3 rfl (fun q=>by simp) k2 (fun hl' bH hno=>⟨b,es',ck',k1,k2,bH,hst,aI.later hl' _ _ hks,aI.later hl' _ _ hvs,hno⟩);exact ⟨D,E,this⟩
 split at aq
 ·rename_i i hfi;simp only[v6,Prod.mk.injEq] at aq;obtain ⟨rfl,rfl⟩:=aq;obtain ⟨q,q1,q2⟩:=o7 hk U k5 hfi;rcases q2 with ⟨e,_⟩ | ⟨j,e,e1,e2,rfl⟩
  ·cases e
  simp only[Z1,v6] at e1;subst e1;obtain ⟨y,y1,_,y2⟩:=Bk hfi;simp only[Nat.sub_zero] at y1;obtain ⟨y',y3,y4⟩:=mg (j:=i) (v:=e.key) k5 (by simp only[zy0,e2,zz0]);rw[y1,v6] at y3;subst y3;obtain ⟨_,kk2,kk3⟩:=Wz hk y2 U y4;have hes:es[i]?=some e:=by rw[←zx1];exact e2
  have hlen:i<es.size:=(zz2.1 hes).1;refine step (es.modify i fun e => { e with key:=a.eval k,val:=a.eval v }) ck ?_ ?_ ?_ ?_
  ·have hsb:Instr.sameBits 10000 (((es[i]?).map (·.key)).getD (a.eval k)) (a.eval k)=true:=by
    rw[hes];simp only[zz0,Option.getD_some];rw[←kk2];rw[←kk2] at kk3;exact kk3
   simp only[Instr.mapUpdate,Sem.run_bind,run_underlying hu,Result.andThen_ok,MapKept.run_getObj_map k3,hchk,q1,Z1,Instr.keyThatStays,hsb,if_true,Sem.run_pure,MapKept.run_setObj_map _ k3];rfl
  all_goals
   have em:(es.modify i fun e => { e with key:=a.eval k,val:=a.eval v }).toList=es.toList.set i { e with key:=a.eval k,val:=a.eval v } :=by
    rw[Array.toList_modify];apply List.ext_getElem?;intro j;rw[List.getElem?_modify,List.getElem?_set];by_cases hij:i=j
    ·subst hij;have hge:es[i]'hlen=e:=(zz2.1 hes).2;simp[hlen,hge]
    ·simp[hij]
  ·refine ⟨fun x hx =>?_,?_⟩
   ·rw[em] at hx;rcases List.mem_or_eq_of_mem_set hx with hx | rfl
    ·exact k4.1 x hx
    ·exact k4.1 e (List.mem_of_getElem? e2)
   ·rw[em];have:(es.toList.set i { e with key:=a.eval k,val:=a.eval v }).map (·.born)=es.toList.map (·.born):=by
     rw[List.map_set];apply List.ext_getElem?;intro j;rw[List.getElem?_set];split
     ·rename_i hij;subst hij;simp[e2];exact hlen
     ·rfl
    rw[this];exact k4.2
  ·rw[em,List.map_set];have:(es.toList.map (·.key)).set i (a.eval k)=es.toList.map (·.key):=by
    apply List.ext_getElem?;intro j;rw[List.getElem?_set];split
    ·rename_i hij;subst hij;simp[e2,kk2];exact hlen
    ·rfl
   simp only[this];exact k5
  ·rw[em,List.map_set];exact Fg k6 vp1 vp2
 ·rename_i hfi;simp only[v6,Prod.mk.injEq] at aq;obtain ⟨rfl,rfl⟩:=aq;obtain ⟨q,q1,q2⟩:=o7 hk U k5 hfi;rcases q2 with ⟨_,rfl⟩ | ⟨j,e,e1,_⟩
  case inr=>cases e1
  refine step (es.push { key:=a.eval k,val:=a.eval v,born:=ck }) (ck+1) ?_ ⟨fun x hx =>?_,?_⟩ ?_ ?_
  ·simp only[Instr.mapUpdate,Sem.run_bind,run_underlying hu,Result.andThen_ok,MapKept.run_getObj_map k3,hchk,q1,MapKept.run_setObj_map _ k3];rfl
  ·simp only[Array.toList_push,zy7,zy4] at hx;rcases hx with hx | rfl
   ·have:=k4.1 x hx;omega
   ·simp
  ·simp only[Array.toList_push,zz3,Z3,zx0];refine List.nodup_append.2 ⟨k4.2,by simp,fun x hx y hy =>?_⟩;simp only[zy4] at hy;subst hy;obtain ⟨e,he,rfl⟩:=zy1.1 hx;exact Nat.ne_of_lt (k4.1 e he)
  ·simp only[Array.toList_push,zz3,Z3,zx0];exact xD k5 (Ff kp1 kp2)
  ·simp only[Array.toList_push,zz3,Z3,zx0];exact xD k6 (Ff vp1 vp2)
 ·cases aq
theorem tg{α β:Type}(f:α→β):∀ (l:List α) (i:Nat),(l.eraseIdx i).map f=(l.map f).eraseIdx i
 | [],_=>rfl
 |x::xs,0=>rfl
 |x::xs,i+1=>by simp only[List.eraseIdx_cons_succ,Z3,tg f xs i]
theorem xF{w:World}{D:aP}{E:aY} : ∀ {xs:List I} {us:List Value} (i:Nat),aI w D E xs us→aI w D E (xs.eraseIdx i) (us.eraseIdx i)
 | [],us,i,h=>by simp only[aI] at h;subst h;simp[aI]
 |x::xs,us,i,h=>by
  simp only[aI] at h;obtain ⟨v,rest,cs,rfl,J,U,ah⟩:=h;cases i with
  |zero=>exact ah
  |succ i=>simp only[List.eraseIdx_cons_succ,aI];exact ⟨v,_,cs,rfl,J,U,xF i ah⟩
theorem Mi{t kt et t':TypeId}{m k:Operand}{m' k':aO}{ty:cJ}{n:Nat}{ks vs ks' vs':List I}(ho:o.op=.call { callee:=.builtin .delete,args := #[m,k],argTypes := #[t,t'] })(hu:c.P.underlying t=some (.map kt et))(hk:jO c.P kt=some ty)
  (hm:bx c.P 0 m=some m') (hk':bx c.P 0 k=some k') (hmm:ak A m'=.mref n) (hn:A.o n=some (.bz ks vs)) (aq:lS ty (ak A k') ks vs=some (ks',vs')) (af:o.dst=none) :
  h1 c A o (A.aT n (.bz ks' vs')):=by
 intro a w D E ab;have J:=bX ab hm;have U:=bX ab hk';rw[hmm] at J;unfold lS at aq;split at aq
 case isFalse=>cases aq
 rename_i hkk;obtain ⟨rk,hrk⟩:=zz9.1 hkk;have hchk:=fun em=>vd (P:=c.P) (w:=w) (em:=em) hk U hrk 9998;obtain ⟨b,es,ck,k1,k2,k3,k4,k5,k6,k7⟩:=ab.map hn;have hmv:a.eval m=.map (some b):=by
  obtain ⟨cs,q1,q2⟩:=J;simp only[al] at q2;obtain ⟨b',q3,q4⟩:=q2;rw[k1] at q3;cases q3;simpa[bD,I.isAgg,q4] using q1.symm
 have step:∀ (es':Array MapEntry),(Builtin.delete_ #[t,t'] o.type #[.map (some b),a.eval k]).run c.P w=.ok (.tuple #[]) (w.putObj b (.map es' ck))→oz es' ck→aI w D E ks' (es'.toList.map (·.key))→aI w D E vs' (es'.toList.map (·.val)) →
   ∃ w',((∃ u,(execOp a.eval o).run c.P w=.ok (.value u) w'∧b5 c (A.aT n (.bz ks' vs')) (a.put o.dst u) w')∨((execOp a.eval o).run c.P w=.ok .skip w'∧b5 c (A.aT n (.bz ks' vs')) (a.put o.dst undef) w')):=fun es' hrun hst hks hvs=>by
  refine ⟨w.putObj b (.map es' ck),.inl ⟨.tuple #[],?_,?_⟩⟩
  ·simp[execOp,ho,resolve,invoke,builtin,hmv,hrun]
  ·rw[af];have:=ab.xL (o':=.map es' ck) (x:=.bz ks' vs') k1 rfl rfl k3 rfl (fun q=>by simp) k2 (fun hl' bH hno=>⟨b,es',ck,k1,k2,bH,hst,aI.later hl' _ _ hks,aI.later hl' _ _ hvs,hno⟩);exact ⟨D,E,this⟩
 split at aq
 ·rename_i i hfi;simp only[v6,Prod.mk.injEq] at aq;obtain ⟨rfl,rfl⟩:=aq;obtain ⟨q,q1,q2⟩:=o7 hk U k5 hfi;rcases q2 with ⟨e,_⟩ | ⟨j,e,e1,e2,rfl⟩
  ·cases e
  simp only[Z1,v6] at e1;subst e1;have hes:es[i]?=some e:=by rw[←zx1];exact e2
  have hlen:i<es.size:=(zz2.1 hes).1;have em:(es.eraseIdxIfInBounds i).toList=es.toList.eraseIdx i:=by
   simp[Array.eraseIdxIfInBounds,hlen]
  refine step (es.eraseIdxIfInBounds i) ?_ ⟨fun x hx =>?_,?_⟩ ?_ ?_
  ·simp[Builtin.delete_,run_underlying hu,MapKept.run_getObj_map k3,hchk,q1,MapKept.run_setObj_map _ k3];rfl
  ·rw[em] at hx;exact k4.1 x (List.mem_of_mem_eraseIdx hx)
  ·rw[em,tg];exact k4.2.sublist (List.eraseIdx_sublist _ _)
  ·rw[em,tg];exact xF i k5
  ·rw[em,tg];exact xF i k6
 ·rename_i hfi;simp only[v6,Prod.mk.injEq] at aq;obtain ⟨rfl,rfl⟩:=aq;obtain ⟨q,q1,q2⟩:=o7 hk U k5 hfi;rcases q2 with ⟨_,rfl⟩ | ⟨j,e,e1,_⟩
  case inr=>cases e1
  refine step es ?_ k4 k5 k6;simp[Builtin.delete_,run_underlying hu,MapKept.run_getObj_map k3,hchk,q1,MapKept.run_setObj_map _ k3];rfl
 ·cases aq
theorem Ml{t kt et:TypeId}{y:Operand}{y':aO}{ks vs:List I}{d:Nat}(ho:o.op=.range t y)(hu:c.P.underlying t=some (.map kt et))(hy:bx c.P 0 y=some y')(h:ak A y'=.dj ks vs)(af:o.dst=some d)(hn:d<c.n)(hf:A.o d=none) :
  h1 c A o ((A.aT d (.it ks vs (List.range ks.length) none)).put d (.dq d)):=by
 intro a w D E ab;have J:=bX ab hy;rw[h] at J;obtain ⟨cs,q1,q2⟩:=J;simp only[al] at q2;obtain ⟨b,es,ck,q3,q4,q5,q6⟩:=q2;have hv:a.eval y=.map (some b):=by simpa[bD,I.isAgg,q3] using q1.symm
 have U:=ab.Xe (.inl hn) hf q4 q5 q6;have ah:=U.put (x:=.dq d) (v:=.pointer (some ⟨w.heap.size,0,none⟩)) hn ⟨_,by simp[bD,I.isAgg];rfl,by
  simp only[al,if_true];exact ⟨w.heap.size,rfl,rfl⟩⟩
 refine ⟨w.alloc (.mapIter (some b) ck #[] ck),.inl ⟨.pointer (some ⟨w.heap.size,0,none⟩),?_,D,_,by rw[af];exact ah⟩⟩;simp only[execOp,ho,hv,Sem.run_bind,run_range_map w t kt et b es ck hu q4.1,Result.andThen_ok,Sem.run_pure]
theorem Ci{es:Array MapEntry}{bq:Array Nat}{i:Nat} : i∈nQ es bq↔∃ e,es[i]?=some e∧bq.contains e.born=false:=by
 unfold nQ;simp only[zx5,zy6];constructor
 ·rintro ⟨J,U⟩;rw[zw0 J] at U ⊢;exact ⟨_,rfl,by simpa using U⟩
 ·rintro ⟨e,J,U⟩;exact ⟨(zz2.1 J).1,by rw[J];simpa using U⟩
theorem Zz{es:Array MapEntry}{ck:Nat}(hst:oz es ck){i j:Nat}{e f:MapEntry}(hi:es[i]?=some e)(hj:es[j]?=some f)(h:e.born=f.born):i=j:=by
 have hn:=hst.2;rw[←zx1] at hi hj;have J:(es.toList.map (·.born))[i]?=some e.born:=by rw[zy0,hi];rfl
 have U:(es.toList.map (·.born))[j]?=some e.born:=by rw[zy0,hj,h];rfl
 have hil:i<(es.toList.map (·.born)).length:=(Z6.1 J).1;have hjl:j<(es.toList.map (·.born)).length:=(Z6.1 U).1;exact (List.getElem?_inj hil hn).1 (J.trans U.symm)
theorem WL{es:Array MapEntry}{bq:Array Nat}{ck i:Nat}{e:MapEntry}(hst:oz es ck)(hi:es[i]?=some e):nQ es (bq.push e.born)=(nQ es bq).filter (· != i):=by
 unfold nQ;rw[List.filter_filter];refine List.filter_congr fun j hj =>?_;have hjl:j<es.size:=by simpa using hj
 rw[zw0 hjl];simp only[Array.contains_push];by_cases hij:j=i
 ·subst hij;rw[zw0 hjl,v6] at hi;simp[hi]
 ·have:(es[j].born==e.born)=false:=by
   simp only[beq_eq_false_iff_ne,ne_eq];exact fun h=>hij (Zz hst (zw0 hjl) hi h)
  have U:(j != i)=true:=by simpa using hij
  simp[this,U]
theorem Xg{y:Operand}{y':aO}{ks vs:List I}{left:List Nat}{cur:Option Nat}{n:Nat}(ho:o.op=.next y false)(hy:bx c.P 0 y=some y')(h:ak A y'=.dq n)(hn:A.o n=some (.it ks vs left cur))(hdn:∀ k,o.dst=some k→k<c.n){a:Act}{w:World}{D:aP}{E:aY}(ab:aU c A a w D E) :
  ∃ w' v,(execOp a.eval o).run c.P w=.ok (.value v) w'∧((left=[]∧b5 c (A.aS o.dst (.tuple [.bool false])) (a.put o.dst v) w') ∨
   ∃ i k x,i∈left∧ks[i]?=some k∧vs[i]?=some x∧b5 c ((A.aT n (.it ks vs (left.filter (· != i)) (some i))).aS o.dst (.tuple [.bool true,k,x])) (a.put o.dst v) w'):=by
 have J:=bX ab hy;rw[h] at J;obtain ⟨cs,q1,q2⟩:=J;simp only[al] at q2;obtain ⟨r,q3,q4⟩:=q2;have hv:a.eval y=.pointer (some ⟨r,0,none⟩):=by simpa[bD,I.isAgg,q4] using q1.symm
 have hob:=ab.bP n;rw[hn] at hob;obtain ⟨r',b,es,ck,since,bq,last,k1,k2,k3,k4,k5,k6,k7,k8,k9,k9',k10⟩:=hob;rw[k1] at q3;cases q3;rcases run_next_at (P:=c.P) w o.type r b since last bq es ck k3 k4.1 k7 k8.1 with ⟨aW,hrun⟩ | ⟨e,he,w1,hal,hrun⟩
 ·refine ⟨w,.tuple #[.bool false],by simp only[execOp,ho,hv,Sem.run_bind,hrun,Result.andThen_ok,Sem.run_pure],.inl ⟨?_,D,E,ab.aS hdn ?_⟩⟩
  ·rw[k9];refine List.eq_nil_iff_forall_not_mem.2 fun i hi =>?_;obtain ⟨e,J,U⟩:=Ci.1 hi;have hm:e∈leftOf es bq:=by
    unfold leftOf;simp only[Array.mem_filter];exact ⟨Array.mem_of_getElem? J,by simpa using U⟩
   rw[Array.eq_empty_of_size_eq_zero aW] at hm;simp at hm
  ·simp only[aZ,aI];exact ⟨[.bool false],rfl,.bool false,[],[.bool false],rfl,by simp[bD,I.isAgg],by simp[al],rfl⟩
 ·have hmem:e∈es.toList∧bq.contains e.born=false:=by
   unfold leftOf at he;simp only[Array.toList_filter,zx5] at he;exact ⟨he.1,by simpa using he.2⟩
  obtain ⟨i,hi⟩:=List.getElem?_of_mem hmem.1;have hie:es[i]?=some e:=by rw[←zx1];exact hi
  obtain ⟨k,hk1,hk2⟩:=mg (j:=i) (v:=e.key) k5 (by simp only[zy0,hi,zz0]);obtain ⟨x,hx1,hx2⟩:=mg (j:=i) (v:=e.val) k6 (by simp only[zy0,hi,zz0]);have hsw:aU c A a w1 D E:=by
   rcases hal with rfl | rfl
   ·exact ab
   ·exact ab.grow (w':=w.drew) (D':=D) ⟨rfl,rfl,rfl,Z4 _,fun _ _=>rfl⟩ (fun _ _ h=>h) (fun _ _ h _=>h) (fun b o af=>ab.aQ b o af)
  have hw1:w1.heap=w.heap:=by rcases hal with rfl | rfl <;>rfl
  have k3':w1.heap[r]?=some (.mapIter (some b) since bq last):=by rw[hw1];exact k3
  have hset:=hsw.xL (x:=.it ks vs (left.filter (· != i)) (some i)) (o':=.mapIter (some b) since (bq.push e.born) ck) k1 rfl rfl k3' rfl (fun q=>by simp) k2
   (fun aq bH hno=>by
    have hm:nU w1 D b es ck:=⟨by rw[hw1];exact k4.1,k4.2.1,k4.2.2⟩
    have hob:=hsw.bP n;rw[hn] at hob;refine ⟨r,b,es,ck,since,bq.push e.born,ck,k1,k2,bH,hm.later aq,aI.later aq _ _ ?_,aI.later aq _ _ ?_,k7,?_,?_,fun j hj =>?_,hno⟩
    ·obtain ⟨n5,b2,es2,ck2,si2,se2,la2,g1,g2,g3,g4,g5,g6,_⟩:=hob;rw[k1] at g1;cases g1;rw[k3'] at g3;cases g3;have:=g4.1;rw[hw1,k4.1] at this;cases this;exact g5
    ·obtain ⟨n5,b2,es2,ck2,si2,se2,la2,g1,g2,g3,g4,g5,g6,_⟩:=hob;rw[k1] at g1;cases g1;rw[k3'] at g3;cases g3;have:=g4.1;rw[hw1,k4.1] at this;cases this;exact g6
    ·exact ⟨k8.2,k8.2⟩
    ·rw[k9,WL k4.2.2 hie]
    ·cases hj;exact ⟨e,hie,by simp,rfl⟩)
  have hset':aU c (A.aT n (.it ks vs (left.filter (· != i)) (some i))) a (ChangeMaps.setBlock w1 r (.mapIter (some b) since (bq.push e.born) ck)) D E:=hset;refine ⟨_,.tuple #[.bool true,e.key,e.val],by simp only[execOp,ho,hv,Sem.run_bind,hrun,Result.andThen_ok,Sem.run_pure],.inr ⟨i,k,x,?_,hk1,hx1,D,E,hset'.aS hdn ?_⟩⟩
  ·rw[k9];exact Ci.2 ⟨e,hie,hmem.2⟩
  ·have hob2:=hset'.bP n;simp only[ai.aT,if_true] at hob2;obtain ⟨n5,b2,es2,ck2,si2,se2,la2,g1,g2,g3,g4,g5,g6,_⟩:=hob2;rw[k1] at g1;cases g1;have hr2:(ChangeMaps.setBlock w1 r (.mapIter (some b) since (bq.push e.born) ck)).heap[r]?=some (.mapIter (some b) since (bq.push e.born) ck):=World.putObj_heap_same (w:=w1) (fJ k3');rw[hr2] at g3;cases g3;have hb2:(ChangeMaps.setBlock w1 r (.mapIter (some b) since (bq.push e.born) ck)).heap[b]?=some (.map es ck):=by
    have:b≠r:=fun e=>by rw[e] at k4;rw[k4.1] at k3;cases k3
    refine (World.putObj_heap_other (w:=w1) this).trans ?_;rw[hw1];exact k4.1
   have:=g4.1;rw[hb2] at this;cases this;obtain ⟨kk,a1,a2⟩:=mg (j:=i) (v:=e.key) g5 (by simp only[zy0,hi,zz0]);rw[hk1] at a1;cases a1;obtain ⟨xx,b1,b2⟩:=mg (j:=i) (v:=e.val) g6 (by simp only[zy0,hi,zz0]);rw[hx1] at b1;cases b1;obtain ⟨c1,c2,c3⟩:=oE (pQ k5 hk1) a2;obtain ⟨d1,d2,d3⟩:=oE (pQ k6 hx1) b2;simp only[aZ,aI];exact ⟨[.bool true,e.key,e.val],rfl,.bool true,_,[.bool true],rfl,by simp[bD,I.isAgg],by simp[al],e.key,_,c1,rfl,c2,c3,e.val,[],d1,rfl,d2,d3,rfl⟩
theorem VS{y:Operand}{y':aO}{ks vs:List I}{left:List Nat}{i n:Nat}{k x:I}(ho:o.op=.entry y)(hy:bx c.P 0 y=some y')(h:ak A y'=.dq n)(hn:A.o n=some (.it ks vs left (some i)))(hk:ks[i]?=some k)(hx:vs[i]?=some x):dL c A o (.tuple [k,x]) :=
 .same fun a w D E ab=>by
  have J:=bX ab hy;rw[h] at J;obtain ⟨cs,q1,q2⟩:=J;simp only[al] at q2;obtain ⟨r,q3,q4⟩:=q2;have hv:a.eval y=.pointer (some ⟨r,0,none⟩):=by simpa[bD,I.isAgg,q4] using q1.symm
  have hob:=ab.bP n;rw[hn] at hob;obtain ⟨r',b,es,ck,since,bq,last,k1,k2,k3,k4,k5,k6,k7,k8,k9,k9',k10⟩:=hob;rw[k1] at q3;cases q3;obtain ⟨e,e1,e2,rfl⟩:=k9' i rfl;have hi:es.toList[i]?=some e:=by rw[zx1];exact e1
  obtain ⟨kk,a1,a2⟩:=mg (j:=i) (v:=e.key) k5 (by simp only[zy0,hi,zz0]);rw[hk] at a1;cases a1;obtain ⟨xx,b1,b2⟩:=mg (j:=i) (v:=e.val) k6 (by simp only[zy0,hi,zz0]);rw[hx] at b1;cases b1;obtain ⟨c1,c2,c3⟩:=oE (pQ k5 hk) a2;obtain ⟨d1,d2,d3⟩:=oE (pQ k6 hx) b2;have hf:es.find? (·.born==e.born)=some e:=by rw[←Array.find?_toList];exact find_born e es.toList k4.2.2.2 (List.mem_of_getElem? hi)
  refine ⟨.tuple #[e.key,e.val],?_,?_⟩
  ·have hr:(Instr.entry (.pointer (some ⟨r,0,none⟩))).run c.P w=.ok (.tuple #[e.key,e.val]) w:=by
    simp only[Instr.entry,getObj,Sem.run_bind,Sem.run,k3,k4.1,Result.andThen,e2,bne_self_eq_false,Z2,if_false,hf];rfl
   simp only[execOp,ho,hv,Sem.run_bind,hr,Result.andThen_ok,Sem.run_pure]
  ·simp only[aZ,aI];exact ⟨[e.key,e.val],rfl,e.key,_,c1,rfl,c2,c3,e.val,[],d1,rfl,d2,d3,rfl⟩
theorem ED{w:World}{D:aP}{E:aY}{z:I}{v:Value}(h:al w D E z [v]):∀ n:Nat,aN w D E (List.replicate n z) (List.replicate n v)
 |0=>by simp[aN]
 |n+1=>by simp only[List.replicate_succ,aN];exact ⟨[v],_,rfl,h,ED h n⟩
theorem Mk{t e:TypeId}{l l':Operand}{n':aO}{z:I}{n d:Nat}{k:IntKind}(ho:o.op=.makeSlice t l l')(hll:l'=l)(hu:c.P.underlying t=some (.slice e))(aq:bx c.P 0 l=some n')(h:ak A n'=.int k n)(hz:gj c.P e=some z)(hz1:z.size=1)
  (hc1:c.P.cellsOf e=1) (hby:n*c.P.bytesOf e≤281474976710656) (hmax:n≤maxLen) (af:o.dst=some d) (hn:d<c.n) (hf:A.o d=none):h1 c A o ((A.aT d (.box (.agg (List.replicate n z)))).put d (.view d [] 1 0 n)):=by
 subst hll;intro a w D E ab;have J:=bX ab aq;rw[h] at J;obtain ⟨e1,_⟩:=eV J;obtain ⟨i,zv,hi,hzz,hzr⟩:=lz hz;have hzc:=al.length _ _ (hzr w D E);rw[hz1] at hzc;obtain ⟨u,hu1⟩:∃ u,zv.cells = #[u]:=by
  have:zv.cells.size=1:=by simpa using hzc
  obtain ⟨u,hu⟩:=Array.size_eq_one_iff.1 this;exact ⟨u,hu⟩
 have hsz:i.size=1:=by have:=hc1;simp only[Program.cellsOf,hi,zz0,Option.getD_some] at this;exact this
 have hbytes:(i.bytes:Int)*(n:Int)≤281474976710656:=by
  have:c.P.bytesOf e=i.bytes:=by simp[Program.bytesOf,hi]
  rw[this] at hby;have U:((i.bytes*n:Nat):Int)≤281474976710656:=by rw[Nat.mul_comm] at hby;omega
  rwa [Int.natCast_mul] at U
 have hrun:=run_make (P:=c.P) w t e i zv hu hi hzz k k n n (by omega) (Int.le_refl _) hbytes (by have h9:=hmax;unfold maxLen at h9;omega);simp only[Int.toNat_natCast,hsz,Nat.mul_one] at hrun;have hmc:(madeCells zv.cells n).toList=List.replicate n u:=by
  rw[hu1];simp only[madeCells];apply List.ext_getElem?;intro j;simp[List.getElem?_replicate];split <;>simp_all[Nat.mod_one]
 have hcells:al w D E (.agg (List.replicate n z)) (madeCells zv.cells n).toList:=by
  rw[hmc];simp only[al];refine ED ?_ n;have:=hzr w D E;rw[hu1] at this;simpa using this
 have U:=ab.qZ (T:=e) (.inl hn) hf hcells;have ah:=U.put (x:=.view d [] 1 0 n) (v:=.slice (some ⟨w.heap.size,0,none⟩) n n) hn ⟨_,by simp[bD,I.isAgg];rfl,by
  simp only[al,if_true];refine ⟨w.heap.size,_,0,I.c7 (List.replicate n z),rfl,by simp[cR.off],by simp[I.aX,cR.part],by simp[I.dy],by simpa[I.dy] using hmax,by simp[I.dy],fun s ab =>?_⟩;rw[I.dy] at ab;obtain ⟨y,hy,rfl⟩:=zy1.1 ab;rw[I.ln,(List.mem_replicate.1 hy).2,hz1]⟩
 refine ⟨_,.inl ⟨_,?_,D,_,by rw[af];exact ah⟩⟩;simp only[execOp,ho,e1,Sem.run_bind,hrun,Result.andThen_ok,Sem.run_pure]
end
end Go.Abs
namespace Go.Abs
open Go Go.RowKit
mutual
/-- Values that lead to no memory. -/
def I.flat:I→Bool
 | .agg fs | .tuple fs=>I.nH fs
 | .bool _ | .int _ _ | .bQ _ | .nilp | .dB | .dX | .any | .raw _ | .undef | .dw=>true
 |_=>false
def I.nH:List I→Bool
 | []=>true
 |x::xs=>x.flat&&I.nH xs
end
mutual
theorem al.flat{w w':World}{D D':aP}{E E':aY} : ∀ (x:I) (cs:List Value),x.flat=true→al w D E x cs→al w' D' E' x cs
 | .agg fs,cs,hf,hr=>by simp only[al,I.flat] at *;exact aN.flat fs cs hf hr
 | .bool b,cs,_,hr=>by simpa only[al] using hr
 | .int k n,cs,_,hr=>by simpa only[al] using hr
 | .bQ s,cs,_,hr=>by simpa only[al] using hr
 | .nilp,cs,_,hr=>by simpa only[al] using hr
 | .dB,cs,_,hr=>by simpa only[al] using hr
 | .dX,cs,_,hr | .any,cs,_,hr=>by simpa only[al] using hr
 | .raw _,cs,_,hr=>by simpa only[al] using hr
 | .undef,_,_,hr=>by simp only[al] at hr
 | .dw,_,_,hr=>by simp only[al] at hr
 | .tuple _,_,_,hr=>by simp only[al] at hr
 | .nils _,_,hf,_ | .c0 _,_,hf,_ | .slice _ _,_,hf,_ | .ref _,_,hf,_ | .func _ _,_,hf,_ | .iface _ _,_,hf,_ | .ptr _ _,_,hf,_ | .own _ _,_,hf,_ | .view _ _ _ _ _,_,hf,_ | .mref _,_,hf,_ | .dq _,_,hf,_ | .dj _ _,_,hf,_=>by simp[I.flat] at hf
theorem aN.flat{w w':World}{D D':aP}{E E':aY} : ∀ (xs:List I) (cs:List Value),I.nH xs=true→aN w D E xs cs→aN w' D' E' xs cs
 | [],cs,_,hr=>by simpa only[aN] using hr
 |x::xs,cs,hf,hr=>by
  simp only[aN,I.nH,t8] at *;obtain ⟨c1,c2,J,U,ah⟩:=hr;exact ⟨c1,c2,J,al.flat x c1 hf.1 U,aN.flat xs c2 hf.2 ah⟩
end
theorem aI.flat{w w':World}{D D':aP}{E E':aY} : ∀ (xs:List I) (vs:List Value),I.nH xs=true→aI w D E xs vs→aI w' D' E' xs vs
 | [],vs,_,hr=>by simpa only[aI] using hr
 |x::xs,vs,hf,hr=>by
  simp only[aI,I.nH,t8] at *;obtain ⟨v,rest,cs,J,U,ah,ar⟩:=hr;exact ⟨v,rest,cs,J,U,al.flat x cs hf.1 ah,aI.flat xs rest hf.2 ar⟩
theorem aZ.flat{w w':World}{D D':aP}{E E':aY}{x:I}{v:Value}(hf:x.flat=true)(hr:aZ w D E x v):aZ w' D' E' x v:=by
 cases x <;>simp only[aZ] at * <;>first
  |exact hr
  |(obtain ⟨vs,J,U⟩:=hr;exact ⟨vs,J,aI.flat _ _ (by simpa[I.flat] using hf) U⟩)
  |(obtain ⟨cs,J,U⟩:=hr;exact ⟨cs,J,al.flat _ _ hf U⟩)
def dk:aY:=fun _=>none
def a8(P:Program)(f:FuncId)(args:List I)(r:I):Prop :=
 e8 P f=true∧∀ (w:World) (D:aP) (vs:List Value),gM P w (fun _=>False)→(∀ b o,D b o→b<w.heap.size)→aI w D dk args vs →
  Calls P f vs.toArray w fun e w'=>∃ v D',e=.returned v∧aZ w' D' dk r v∧Below w.heap.size w w'∧(∀ b o,D' b o→b<w'.heap.size)∧∀ b o,D' b o→b<w.heap.size→D b o
def cU(P:Program)(f:FuncId)(args:List I)(os:List (Nat×ao))(post:cK):Prop :=
 e8 P f=true∧nt (Calls P f) (fun w _ E=>gM P w (cL E)) args os post
def cn(p:Nat→Bool):List (Nat×ao)→Prop
 | []=>True
 |(_,v)::r=>v.only p=true∧cn p r
def eK(ns:List Nat)(os:List (Nat×ao)):List (Nat×ao):=os.filter fun q => !ns.contains q.1
def lJ(ns:List Nat)(ts:List (Nat×I)):List (Nat×I):=ts.map fun q=>(q.1,if q.2.only (fun n => !ns.contains n) then q.2 else .dw)
def mM(ns:List Nat)(os:List (Nat×ao)):List (Nat×ao):=os.filter fun q=>ns.contains q.1
def iE(ρ:List (Nat×Nat))(os:List (Nat×ao)):List Nat:=os.map fun q=>bI ρ q.1
def gP(aL:Bool)(A0:ai)(ρ:List (Nat×Nat))(os:List (Nat×ao)):List I→List I→Prop
 | [],[]=>True
 |x::xs,c::cs=>((x=c.bn (bI ρ)∧c.only (aw os)=true∧c.bT=true)∨bj aL A0 x=some c)∧gP aL A0 ρ os xs cs
 |_,_=>False
structure aH where
 dst:Option Nat
 op:bS
 guard:Option (Nat×Bool)
 deriving Inhabited
inductive cO where
 |done (A:ai)
 |fail
 |call (f:FuncId) (avs:List I) (a1 a2:Option (List I)) (dst:Option Nat) (rest:List aH) (A:ai)
 |kN (v:Value) (avs:List I) (dst:Option Nat) (rest:List aH) (A:ai)
 |j5 (f:FuncId) (avs:List I) (dst:Option Nat) (rest:List aH) (A:ai)
 |any (p:Nat→Prop) (k:Nat→cO)
def cS(x:Option I)(k:I→cO):cO:=match x with
 |some v=>k v
 |none=>.fail
def w0(s:Option Nat)(v old:I):Prop:=v.bT=true∧cg s v=true∧v.aX=old.aX
def wY(e esz bytes l sz:Nat)(ys:List I)(T sz':Nat)(es:List I):Prop:=l=es.length∧sz=esz∧T=e∧sz'=esz∧ys≠[]∧es.length+ys.length≤maxLen∧(es.length+ys.length)*bytes≤140737488355328
def qF(ys:List I):List Int:=ys.filterMap fun y=>match y with | .int .i64 i=>some i | _=>none
def wZ(e esz bytes l:Nat)(ys:List I)(T:Nat)(xs:List Int)(z:I):Prop:=l=xs.length∧esz=1∧T=e∧z=.int .i64 0∧ys=(qF ys).map (.int .i64)∧ys≠[]∧xs.length+ys.length≤maxLen∧(xs.length+ys.length)*bytes≤140737488355328
def jD:I→Bool
 | .slice _ es=>es.isEmpty
 | .c0 _=>true
 |_=>false
def kS(f:Nat):Nat:=if f<1000000 then f else f-1000000
def h4(f:Nat)(args caps:List I):List I:=if f<1000000 then args++caps else caps++args
theorem vD{f:Nat}(h:f<1000000):kS f=f:=by simp only[kS,if_pos h]
theorem vC{f:Nat}(h:f<1000000)(args caps:List I):h4 f args caps=args++caps:=by simp only[h4,if_pos h]
theorem sI(g:Nat):kS (g+1000000)=g:=by simp only[kS,if_neg (show ¬ g+1000000<1000000 by omega),Nat.add_sub_cancel]
theorem vB(g:Nat)(args caps:List I):h4 (g+1000000) args caps=caps++args:=by simp only[h4,if_neg (show ¬ g+1000000<1000000 by omega)]
open Classical in
noncomputable def fW(A:ai)(dst:Option Nat)(esz bytes:Nat)(z:I)(es ys:List I)(k:ai→cO):cO :=
 match dst with
 |some d=>match A.o d with
  |none=>if (es.length+ys.length)*bytes≤140737488355328∧es.length+ys.length≤maxLen then
    .any (fun m=>es.length+ys.length+m≤maxLen) (fun m=>k ((A.aT d (.box (.agg (es++(ys++List.replicate m z))))).aS dst (.view d [] esz 0 (es.length+ys.length)))) else .fail
  |some _=>.fail
 |none=>.fail
open Classical in
noncomputable def e6(A:ai)(dst:Option Nat)(esz bytes:Nat)(z:I)(s:I):Option (List I)→Option (List I)→(ai→cO)→cO
 |some es,some ys,k=>if ys=[] then k (A.aS dst s) else match s with
  | .nils _=>fW A dst esz bytes z es ys k
  | .c0 _=>fW A dst esz bytes z es ys k
  | .view n p sz lo l=>match A.o n with
   |some (.box b)=>match b.at p with
    |some (.agg fs)=>if lo+l+ys.length≤fs.length then
      (if sz=esz∧I.c7 ys=I.c7 ((fs.drop (lo+l)).take ys.length) then k ((A.aT n (.box (jf b p (lo+l) fs ys))).aS dst (.view n p esz lo (l+ys.length))) else .fail)
      else fW A dst esz bytes z es ys k
    |_=>.fail
   |_=>.fail
  |_=>.fail
 |_,_,_=>.fail
open Classical in
noncomputable def uK(A:ai)(dst:Option Nat)(esz bytes:Nat)(z:I)(m:Nat)(s:I):Option (List I)→(ai→cO)→cO
 |some es,k=>match s with
  | .view n p _ lo l=>match A.o n with
   |some (.box b)=>match b.at p with
    |some (.agg fs)=>if 0<m∧fs.length<lo+l+m then fW A dst esz bytes z es (List.replicate m z) k else .fail
    |_=>.fail
   |_=>.fail
  |_=>.fail
 |_,_=>.fail
open Classical in
noncomputable def oU(A:ai)(esz:Nat)(z:I)(k:ai→cO):I→cO
 | .view n p sz lo l=>match A.o n with
  |some (.box b)=>match b.at p with
   |some (.agg fs)=>if sz=esz∧I.c7 (List.replicate l z)=I.c7 ((fs.drop lo).take l) then k (A.aT n (.box (jf b p lo fs (List.replicate l z)))) else .fail
   |_=>.fail
  |_=>.fail
 | .nils _=>k A
 | .c0 _=>k A
 |_=>.fail
open Classical in
noncomputable def sC(A:ai)(dst:Option Nat)(esz:Nat)(k:ai→cO):I→Option (List I)→cO
 | .view n p sz lo l,some ys=>match A.o n with
  |some (.box b)=>match b.at p with
   |some (.agg fs)=>if sz=esz∧I.c7 (ys.take (min ys.length l))=I.c7 ((fs.drop lo).take (min ys.length l)) then k ((A.aT n (.box (jf b p lo fs (ys.take (min ys.length l))))).aS dst (.int .i64 (min ys.length l:Nat))) else .fail
   |_=>.fail
  |_=>.fail
 |_,_=>.fail
open Classical in
noncomputable def bl(A:ai)(dst:Option Nat)(op:bS)(rest:List aH)(k:ai→cO):cO :=
 match op with
 | .alloc z=>match dst with
  |some d=>match A.o d with
   |none=>k ((A.aT d (.box z)).put d (.ptr d []))
   |some _=>.fail
  |none=>.fail
 | .box x=>match dst with
  |some d=>match A.o d with
   |none=>if (ak A x).bT then k ((A.aT d (.box (ak A x))).put d (.ptr d [])) else .fail
   |some _=>.fail
  |none=>.fail
 | .bd s x v=>match dst with
  |none=>match ak A x with
   | .ptr n p=>match A.o n with
    |some (.box b)=>match b.at p with
     |some old=>if w0 s (ak A v) old then k (A.aT n (.box (b.ev p (ak A v)))) else .fail
     |none=>.fail
    |_=>.fail
   |_=>.fail
  |some _=>.fail
 | .dn e esz bytes z s x=>match ak A s with
  | .own n l=>match ak A x with
   | .slice sz ys=>match A.o n with
    |some (.bU T sz' es)=>if wY e esz bytes l sz ys T sz' es then k ((A.aT n (.bU e esz (es++ys))).aS dst (.own n (es.length+ys.length))) else .fail
    |some (.dK T xs)=>if wZ e esz bytes l ys T xs z then k ((A.aT n (.dK e (xs++qF ys))).aS dst (.own n (xs.length+ys.length))) else .fail
    |_=>.fail
   |_=>.fail
  |s'=>e6 A dst esz bytes z s' (eJ A esz s') (eJ A esz (ak A x)) k
 | .lD _ esz bytes z s n=>match ak A n with
  | .int _ m=>uK A dst esz bytes z m.toNat (ak A s) (eJ A esz (ak A s)) k
  |_=>.fail
 | .nilS neg x=>if jD (ak A x) then .any (fun m=>m<2) (fun m=>k (A.aS dst (.bool (m==0)))) else cS (bo A (.nilS neg x)) fun v=>k (A.aS dst v)
 | .jJ esz z x=>match dst with
  |none=>oU A esz z k (ak A x)
  |some _=>.fail
 | .kQ esz x y=>sC A dst esz k (ak A x) (eJ A esz (ak A y))
 | .call f args=>.call f (args.map (ak A)) (b8 true A (args.map (ak A))) (b8 false A (args.map (ak A))) dst rest A
 | .fH x args=>match ak A x with
  | .func f caps=>.call (kS f) (h4 f (args.map (ak A)) caps) (b8 true A (h4 f (args.map (ak A)) caps)) (b8 false A (h4 f (args.map (ak A)) caps)) dst rest A
  | .raw v=>.kN v (args.map (ak A)) dst rest A
  |_=>.fail
 | .j5 f args=>.j5 f (args.map (ak A)) dst rest A
 | .iD=>match dst with
  |some d=>match A.o d with
   |none=>k ((A.aT d (.bz [] [])).put d (.mref d))
   |some _=>.fail
  |none=>.fail
 | .kj _ bytes z n=>match dst with
  |some d=>match A.o d with
   |none=>match ak A n with
    | .int _ n=>if 0≤n∧n.toNat*bytes≤281474976710656∧n.toNat≤maxLen then k ((A.aT d (.box (.agg (List.replicate n.toNat z)))).put d (.view d [] 1 0 n.toNat)) else .fail
    |_=>.fail
   |some _=>.fail
  |none=>.fail
 | .eT ty m key v=>match dst with
  |none=>match ak A m with
   | .mref n=>match A.o n with
    |some (.bz ks vs)=>match fy ty (ak A key) (ak A v) ks vs with
     |some (ks',vs')=>k (A.aT n (.bz ks' vs'))
     |none=>.fail
    |_=>.fail
   |_=>.fail
  |some _=>.fail
 | .iC ty m key=>match dst with
  |none=>match ak A m with
   | .mref n=>match A.o n with
    |some (.bz ks vs)=>match lS ty (ak A key) ks vs with
     |some (ks',vs')=>k (A.aT n (.bz ks' vs'))
     |none=>.fail
    |_=>.fail
   |_=>.fail
  |some _=>.fail
 | .jz x=>match dst with
  |some d=>match A.o d with
   |none=>match ak A x with
    | .dj ks vs=>k ((A.aT d (.it ks vs (List.range ks.length) none)).put d (.dq d))
    |_=>.fail
   |some _=>.fail
  |none=>.fail
 | .ic x=>match ak A x with
  | .dq n=>match A.o n with
   |some (.it ks vs left cur)=>if left=[] then k (A.aS dst (.tuple [.bool false])) else
     .any (fun i=>i∈left) fun i=>match ks[i]?,vs[i]? with
      |some kk,some x=>k ((A.aT n (.it ks vs (left.filter (· != i)) (some i))).aS dst (.tuple [.bool true,kk,x]))
      |_,_=>.fail
   |_=>.fail
  |_=>.fail
 |op=>cS (bo A op) fun v=>k (A.aS dst v)
noncomputable def aB:List aH→ai→cO
 | [],A=>.done A
 |g::rest,A=>match g.guard with
  |none=>bl A g.dst g.op rest (aB rest)
  |some (t,b)=>match A.t t with
   | .bool b'=>if b'=b then bl A g.dst g.op rest (aB rest) else aB rest (A.aS g.dst .undef)
   | .undef=>aB rest (A.aS g.dst .undef)
   |_=>.fail
def GS(P:Program)(A:ai)(f:FuncId)(avs:List I)(r:I):Prop :=
 ∀ (c:cV) (a:Act) (w:World) (D:aP) (E:aY) (vs:List Value),c.P=P→aU c A a w D E→fE (aZ w D E) avs vs→∃ v,(callFunc f vs.toArray).run P w=.ok (.value v) w∧aZ w D E r v
inductive aR (P:Program) (Y:Value→List I→List (Nat×ao)→cK→Prop) (dr:Bool) (K:ai→Prop):cO→Prop where
 |done {A:ai} : K A→aR P Y dr K (.done A)
 |flat {f:FuncId} {avs cargs:List I} {a2:Option (List I)} {dst:Option Nat} {rest:List aH} {A:ai} (r:I):a8 P f cargs r→r.flat=true→aR P Y dr K (aB rest (A.aS dst r))→aR P Y dr K (.call f avs (some cargs) a2 dst rest A)
 |lead {f:FuncId} {avs cargs:List I} {a1:Option (List I)} {dst:Option Nat} {rest:List aH} {A:ai} (r:I):a8 P f cargs r→aR P Y dr K (aB rest (A.aS dst r))→aR P Y dr K (.call f avs a1 (some cargs) dst rest A)
 |jL {f:FuncId} {avs cargs:List I} {a1 a2:Option (List I)} {dst:Option Nat} {rest:List aH} {ts:List (Nat×I)} {os0:List (Nat×ao)} (ns:List Nat) (r:I):dr=false→a8 P f cargs r→b8 true (av ts (mM ns os0)) avs=some cargs →
   cn (fun n => !ns.contains n) (eK ns os0)→aR P Y dr K (aB rest ((av (lJ ns ts) (eK ns os0)).aS dst r))→aR P Y dr K (.call f avs a1 a2 dst rest (av ts os0))
 |bP {f:FuncId} {avs:List I} {a1 a2:Option (List I)} {dst:Option Nat} {rest:List aH} {ts:List (Nat×I)} {os0:List (Nat×ao)} (aL:Bool) (ρ:List (Nat×Nat)) (os:List (Nat×ao)) (cargs:List I) (post:cK):dr=false→cU P f cargs os post →
   gl ρ os os0→gP aL (av ts (eK (iE ρ os) os0)) ρ os avs cargs→(∀ r os',post r os'→gE aL ρ os os0 r os') →
   (∀ r os',post r os'→aR P Y dr K (aB rest ((av ts (dE ρ os'++os0)).aS dst (r.bn (bI ρ)))))→aR P Y dr K (.call f avs a1 a2 dst rest (av ts os0))
 |uh {v:Value} {avs:List I} {dst:Option Nat} {rest:List aH} {ts:List (Nat×I)} {os0:List (Nat×ao)} (os:List (Nat×ao)) (cargs:List I) (post:cK):dr=false→Y v cargs os post →
   gl [] os os0→gP false (av ts (eK (iE [] os) os0)) [] os avs cargs→(∀ r os',post r os'→gE false [] os os0 r os') →
   (∀ r os',post r os'→aR P Y dr K (aB rest ((av ts (dE [] os'++os0)).aS dst (r.bn (bI [])))))→aR P Y dr K (.kN v avs dst rest (av ts os0))
 |ext {f:FuncId} {avs:List I} {dst:Option Nat} {rest:List aH} {A:ai} (r:I):dr=false→GS P A f avs r→aR P Y dr K (aB rest (A.aS dst r))→aR P Y dr K (.j5 f avs dst rest A)
 |any {p:Nat→Prop} {k:Nat→cO} : dr=false→(∀ m,p m→aR P Y dr K (k m))→aR P Y dr K (.any p k)
def AT(n:Nat):Option Nat→Bool
 |some d=>decide (d<n)
 |none=>true
def lF(P:Program)(n:Nat)(aV:Array Oper)(o:Oper):Option aH :=
 match df P o with
 |none=>none
 |some g=>if AT n o.dst=true then
   match o.guard with
   |none=>some ⟨o.dst,g,none⟩
   |some (j,b)=>match (aV[j]?).bind (·.dst) with
    |some t=>some ⟨o.dst,g,some (t,b)⟩
    |none=>none
  else none
def fO(P:Program)(n:Nat)(aV:Array Oper):List Oper→Option (List aH)
 | []=>some []
 |o::l=>match lF P n aV o,fO P n aV l with
  |some g,some gs=>some (g::gs)
  |_,_=>none
end Go.Abs
namespace Go.Abs
open Go Go.RowKit
section
variable {c:cV} {A:ai} {o:Oper} {x:I}
theorem Di{g:bS}(hg:df c.P o=some g)(h:bo A g=some x):dL c A o x:=by
 unfold df at hg;split at hg
 -- move
 ·rename_i y ho;simp only[t7] at hg;obtain ⟨z,hz,rfl⟩:=hg;simp only[bo,v6] at h;subst h;exact BS (.inl ho) hz
 ·rename_i y ho;simp only[t7] at hg;obtain ⟨z,hz,rfl⟩:=hg;simp only[bo,v6] at h;subst h;exact BS (.inr ho) hz
 -- pick
 ·rename_i q y z ho;split at hg
  ·rename_i q' y' z' J U ah;simp only[v6] at hg;subst hg;simp only[bo] at h;split at h
   ·rename_i t ht;simp only[v6] at h;subst h;exact Wb ho J U ah ht
   ·cases h
  ·cases hg
 -- binOp
 ·rename_i op t y z yt ho;split at hg
  ·rename_i k y' z' hu J U;simp only[v6] at hg;subst hg;exact BQ ho J U h
  ·rename_i y' z' hu J U;simp only[v6] at hg;subst hg;exact BQ ho J U h
  ·rename_i e y' z' hu J U;split at hg
   ·rename_i s;split at hg
    ·rename_i hop;simp only[v6] at hg;subst hg;have ho':o.op=.binOp (if (op==.neq)=true then .neq else .eql) t y z yt:=by
      rcases hop with rfl | rfl <;>simpa using ho
     simp only[bo] at h;split at h
     ·rename_i s' hs';simp only[v6] at h;subst h;have:=wc (r:=true) ho' hu J U (.inl ⟨s',hs',rfl⟩);rw[show (if (op==BinOp.neq)=true then !true else true) = !(op==BinOp.neq) from by cases (op==BinOp.neq) <;>rfl] at this;exact this
     ·rename_i s' es hs';split at h
      ·cases h
      ·rename_i hne;simp only[v6] at h;subst h;have:=wc (r:=false) ho' hu J U (.inr (.inl ⟨s',es,hs',by simpa using hne,rfl⟩));rw[show (if (op==BinOp.neq)=true then !false else false)=(op==BinOp.neq) from by cases (op==BinOp.neq) <;>rfl] at this;exact this
     ·rename_i n p s' lo k hs';simp only[v6] at h;subst h;have:=wc (r:=false) ho' hu J U (.inr (.inr ⟨n,p,s',lo,k,hs',rfl⟩));rw[show (if (op==BinOp.neq)=true then !false else false)=(op==BinOp.neq) from by cases (op==BinOp.neq) <;>rfl] at this;exact this
     ·cases h
    ·cases hg
   ·cases hg
  ·rename_i e y' z' hu J U;split at hg
   ·rename_i hop;simp only[v6] at hg;subst hg;have ho':o.op=.binOp (if (op==.neq)=true then .neq else .eql) t y z yt:=by
     rcases hop with rfl | rfl <;>simpa using ho
    simp only[bo] at h;cases hb1:iB (ak A y') with
    |none=>rw[hb1] at h;cases h
    |some b1=>cases hb2:iB (ak A z') with
     |none=>rw[hb1,hb2] at h;cases h
     |some b2 =>
      rw[hb1,hb2] at h;simp only[mX] at h;split at h
      ·rename_i hor;simp only[v6] at h;subst h;exact Wc ho' hu J U hb1 hb2 (by simpa using hor)
      ·cases h
   ·cases hg
  ·rename_i d y' z' _ _ _ _ hu J U;split at hg
   ·rename_i hop;simp only[t7] at hg;obtain ⟨ty,hty,rfl⟩:=hg;have ho':o.op=.binOp (if (op==.neq)=true then .neq else .eql) t y z yt:=by
     rcases hop.1 with rfl | rfl <;>simpa using ho
    simp only[bo,t7] at h;obtain ⟨r,hr,rfl⟩:=h;exact VT ho' J U hop.2 hty hr
   ·cases hg
  ·cases hg
 -- unOp
 ·rename_i op t y ho;simp only[t7] at hg;obtain ⟨z,hz,rfl⟩:=hg;simp only[bo] at h;split at h
  ·rename_i b hb;simp only[v6] at h;subst h;exact Wa ho hz hb
  ·rename_i k n hb;simp only[v6] at h;subst h;exact V9 ho hz hb
  ·rename_i k n hb;simp only[v6] at h;subst h;exact VR ho hz hb
  ·cases h
 -- nilCheck
 ·rename_i y ho;simp only[t7] at hg;obtain ⟨z,hz,rfl⟩:=hg;simp only[bo] at h;cases hy:ak A z <;>rw[hy] at h <;>simp only[lT,v6] at h <;>try (cases h;done)
  ·subst h;rw[←hy];exact BT ho hz (.inr ⟨_,hy⟩)
  ·subst h;rw[←hy];exact BT ho hz (.inl ⟨_,_,hy⟩)
 -- makeMap
 ·simp only[v6] at hg;subst hg;simp[bo] at h
 -- lookup
 ·rename_i t m k ok ho;split at hg
  ·rename_i kt et m' k' hu J U;split at hg
   ·rename_i ty z hk hz;split at hg
    ·rename_i hp;simp only[v6] at hg;subst hg;simp only[bo] at h;cases hm:fZ A (ak A m') with
     |none=>rw[hm] at h;cases h
     |some q =>
      obtain ⟨ks,vs⟩:=q;rw[hm] at h;simp only[qQ] at h;cases aq:fk ty z (ak A k') ks vs with
      |none=>rw[aq] at h;cases h
      |some q =>
       obtain ⟨v,b⟩:=q;rw[aq] at h;simp only[qR,v6] at h;subst h;exact V5 ho hu hk hz hp J U hm aq
    ·cases hg
   ·cases hg
  ·cases hg
 -- mapUpdate,insert
 iterate 2
  ·split at hg
   ·split at hg
    ·simp only[v6] at hg;subst hg;simp[bo] at h
    ·cases hg
   ·cases hg
 -- makeSlice
 ·split at hg
  ·split at hg
   ·split at hg
    ·simp only[v6] at hg;subst hg;simp[bo] at h
    ·cases hg
   ·cases hg
  ·cases hg
 -- range
 ·split at hg
  ·simp only[t7] at hg;obtain ⟨z,_,rfl⟩:=hg;simp[bo] at h
  ·cases hg
 -- next
 ·simp only[t7] at hg;obtain ⟨z,_,rfl⟩:=hg;simp[bo] at h
 -- entry
 ·rename_i y ho;simp only[t7] at hg;obtain ⟨z,hz,rfl⟩:=hg;simp only[bo] at h;split at h
  ·rename_i n hn;split at h
   ·rename_i ks vs left cur hob;cases cur with
    |none=>cases h
    |some i =>
     simp only[mF] at h;split at h
     ·rename_i kk xx hk hx;simp only[v6] at h;subst h;exact VS ho hz hn hob hk hx
     ·cases h
   ·cases h
  ·cases h
 -- convert
 ·rename_i nj dst y ho;split at hg
  ·rename_i k0 k y' J U ah;simp only[v6] at hg;subst hg;simp only[bo] at h;split at h
   ·rename_i k1 n hn;simp only[v6] at h;subst h;exact VQ ho J U ah hn
   ·cases h
  ·cases hg
 -- load
 ·rename_i t y ho;split at hg
  ·rename_i s y' J U;simp only[v6] at hg;subst hg;simp only[bo] at h;split at h
   ·rename_i v hv;split at h
    ·rename_i hok;simp only[v6] at h;subst h;exact V4 ho J U hv hok
    ·cases h
   ·cases h
  ·cases hg
 -- fieldAddr
 ·rename_i t y f ho;split at hg
  ·rename_i fs y' hu J;split at hg
   ·rename_i fd hf;split at hg
    ·cases hg
    ·rename_i hz;simp only[v6] at hg;subst hg;simp only[bo] at h;split at h
     ·rename_i gs hgs;split at h
      ·rename_i v hv;split at h
       ·rename_i hoff;simp only[v6] at h;subst h;exact VW ho hu hf hz J hgs hv hoff
       ·cases h
      ·cases h
     ·rename_i n p hp;split at h
      ·rename_i gs hgs;split at h
       ·rename_i hoff;simp only[v6] at h;subst h;exact VV ho hu hf hz J hp hgs hoff.1 hoff.2
       ·cases h
      ·cases h
     ·cases h
   ·cases hg
  ·cases hg
 -- field
 ·rename_i t y f ho;split at hg
  ·rename_i fs y' hu J;split at hg
   ·rename_i fd hf;simp only[t7] at hg;obtain ⟨s,ab,rfl⟩:=hg;simp only[bo] at h;split at h
    ·rename_i gs hgs;split at h
     ·rename_i v hv;split at h
      ·rename_i hoff;simp only[v6] at h;subst h;exact VX ho hu hf ab J hgs hv hoff.1 hoff.2
      ·cases h
     ·cases h
    ·cases h
   ·cases hg
  ·cases hg
 -- indexAddr
 ·rename_i t y i ho;split at hg
  ·rename_i n e y' i' hu J U;split at hg
   ·rename_i hinfo;obtain ⟨ti,hti⟩:=zz9.1 hinfo;simp only[v6] at hg;subst hg;simp only[bo] at h;split at h
    ·rename_i kk k hk;split at h
     ·rename_i hb;split at h
      ·rename_i gs hgs;split at h
       ·rename_i hev;simp only[t7] at h;obtain ⟨v,hv,rfl⟩:=h;exact VZ ho hu hti J U hgs hk hb hev hv
       ·cases h
      ·rename_i m p hp;split at h
       ·rename_i gs hgs;split at h
        ·rename_i hev;simp only[v6] at h;subst h;exact VY ho hu hti J U hp hk hb hgs hev
        ·cases h
       ·cases h
      ·cases h
     ·cases h
    ·cases h
   ·cases hg
  ·rename_i e y' i' hu J U;split at hg
   ·rename_i hinfo;obtain ⟨ti,hti⟩:=zz9.1 hinfo;simp only[v6] at hg;subst hg;simp only[bo] at h;split at h
    ·rename_i kk k hk;split at h
     ·rename_i sz es hes;split at h
      ·rename_i hb;obtain ⟨rfl,hb⟩:=hb;simp only[t7] at h;obtain ⟨v,hv,rfl⟩:=h;exact V0 ho hu hti J U hes hk hb hv
      ·cases h
     ·rename_i m l hm;split at h
      ·rename_i T sz es hes;split at h
       ·rename_i hb;obtain ⟨rfl,rfl,hb⟩:=hb;simp only[t7] at h;obtain ⟨v,hv,rfl⟩:=h;exact V1 ho hu hti J U hm hes hk hb hv
       ·cases h
      ·cases h
     ·rename_i m p sz lo l hm;split at h
      ·rename_i fs hfs;split at h
       ·rename_i hb;simp only[v6] at h;subst h;exact V2 ho hu hti J U hb.1 hm hfs hk hb.2
       ·cases h
      ·cases h
     ·cases h
    ·cases h
   ·cases hg
  ·cases hg
 -- index
 ·rename_i t y i ho;split at hg
  ·rename_i n e y' i' hu J U;simp only[t7] at hg;obtain ⟨s,ab,rfl⟩:=hg;simp only[bo] at h;split at h
   ·rename_i kk k hk;split at h
    ·rename_i hb;split at h
     ·rename_i gs hgs;split at h
      ·rename_i hev;split at h
       ·rename_i v hv;split at h
        ·rename_i hok;simp only[v6] at h;subst h;exact V3 ho hu ab J U hgs hk hb hev hv hok
        ·cases h
       ·cases h
      ·cases h
     ·cases h
    ·cases h
   ·cases h
  ·cases hg
 -- slice
 ·rename_i t y lo hi mx ho;split at hg
  ·rename_i n e y' hu J;split at hg
   ·split at hg
    ·rename_i hinfo;obtain ⟨ti,hti⟩:=zz9.1 hinfo;simp only[v6] at hg;subst hg;simp only[bo] at h;split at h
     ·rename_i m p hp;split at h
      ·rename_i gs hgs;split at h
       ·rename_i hev;simp only[v6] at h;subst h;exact We ho hu hti J hp hgs hev.1 hev.2.1 hev.2.2
       ·cases h
      ·cases h
     ·rename_i gs hgs;split at h
      ·rename_i hev;simp only[v6] at h;subst h;exact Wf ho hu hti J hgs hev.1 hev.2.1
      ·cases h
     ·cases h
    ·cases hg
   ·cases hg
  ·rename_i e y' hu J;split at hg
   ·rename_i lo' hi' mx' q1 q2 q3;split at hg
    ·rename_i hc;obtain ⟨ti,hti⟩:=zz9.1 hc.2;simp only[v6] at hg;subst hg;simp only[bo] at h;split at h
     ·rename_i sz es hes;split at h
      ·rename_i hsz;subst hsz;exact we ho hu hti J q1 q2 q3 hc.1 (.inl hes) h
      ·cases h
     ·rename_i sz hes;split at h
      ·rename_i hsz;subst hsz;exact we ho hu hti J q1 q2 q3 hc.1 (.inr (.inl ⟨hes,rfl⟩)) h
      ·cases h
     ·rename_i sz hes;split at h
      ·rename_i hsz;subst hsz;exact we ho hu hti J q1 q2 q3 hc.1 (.inr (.inr ⟨hes,rfl⟩)) h
      ·cases h
     ·rename_i n p sz l0 k hv;split at h
      ·rename_i fs hfs;split at h
       ·rename_i hsz;exact Wd ho hu hti J q1 q2 q3 hc.1 hsz hv hfs h
       ·cases h
      ·cases h
     ·cases h
    ·cases hg
   ·cases hg
  ·cases hg
 -- build
 ·rename_i t parts ho;split at hg
  ·rename_i zs ps hz hp;split at hg
   ·rename_i fs hu;split at hg
    ·rename_i hc;simp only[v6] at hg;subst hg;simp only[bo,t7] at h;obtain ⟨zs',h,rfl⟩:=h;exact BR ho hz hp (.inl ⟨fs,hu,hc.1,hc.2⟩) h
    ·cases hg
   ·rename_i n e hu;split at hg
    ·rename_i hc;simp only[v6] at hg;subst hg;simp only[bo,t7] at h;obtain ⟨zs',h,rfl⟩:=h;exact BR ho hz hp (.inr ⟨n,e,hu,hc.1,hc.2.1,hc.2.2⟩) h
    ·cases hg
   ·cases hg
  ·cases hg
 -- buildSlice
 ·rename_i t len parts ho;split at hg
  ·rename_i e hu;split at hg
   ·rename_i ps hp;split at hg
    ·rename_i aW;obtain ⟨rfl,rfl,aW⟩:=aW;obtain ⟨ti,hti⟩:=zz9.1 aW;simp only[v6] at hg;subst hg;simp only[bo,v6] at h;subst h;exact VP ho hu hti
    split at hg
    ·rename_i hc;obtain ⟨c1,c2,c3,H3,H4⟩:=hc;simp only[v6] at hg;subst hg;simp only[bo] at h;split at h
     ·rename_i es hes;split at h
      ·rename_i hev;simp only[v6] at h;subst h;refine VO ho hu hp c1 c2 c3 H3 H4 hes (fun y hy =>?_) hev.2;have:=zz6.1 hev.1 y hy;simpa using this
      ·cases h
     ·cases h
    ·cases hg
   ·cases hg
  ·cases hg
 -- extract
 ·rename_i y i ho;simp only[t7] at hg;obtain ⟨z,hz,rfl⟩:=hg;simp only[bo] at h;split at h
  ·rename_i fs hfs;exact VU ho hz hfs h
  ·cases h
 -- makeFunc
 ·rename_i f first caps ho
  split at hg
  case isFalse=>cases hg
  rename_i hlt;split at hg
  ·rename_i hfirst;simp only[t7] at hg;obtain ⟨ys,hys,rfl⟩:=hg;simp only[bo] at h;split at h
   ·rename_i hv;simp only[v6] at h;subst h;have hf:first = #[]:=by simpa using hfirst
    rw[hf] at ho;refine V6 hlt ho hys (fun y hy =>?_);have:=zz6.1 hv (ak A y) (zy1.2 ⟨y,hy,rfl⟩);exact this
   ·cases h
  ·split at hg
   case isFalse=>cases hg
   rename_i hcaps;simp only[t7] at hg;obtain ⟨ys,hys,rfl⟩:=hg;simp only[bo] at h;split at h
   ·rename_i hv;simp only[v6] at h;subst h;have hf:caps = #[]:=by simpa using hcaps
    rw[hf] at ho;refine V7 ho hys (fun y hy =>?_);have:=zz6.1 hv (ak A y) (zy1.2 ⟨y,hy,rfl⟩);exact this
   ·cases h
 -- alloc
 ·simp only[t7] at hg;obtain ⟨z,_,rfl⟩:=hg;simp[bo] at h
 -- box
 ·simp only[t7] at hg;obtain ⟨z,_,rfl⟩:=hg;simp[bo] at h
 -- store
 ·split at hg
  ·split at hg
   ·simp only[v6] at hg;subst hg;simp[bo] at h
   ·cases hg
  ·cases hg
 -- call
 ·split at hg
  ·simp only[t7] at hg;obtain ⟨z,_,rfl⟩:=hg;simp[bo] at h
  ·simp only[t7] at hg;obtain ⟨z,_,rfl⟩:=hg;simp[bo] at h
 ·split at hg
  ·simp only[v6] at hg;subst hg;simp[bo] at h
  ·cases hg
 -- len
 ·rename_i args tys ho;split at hg
  ·rename_i y ty hargs htys;have ho':o.op=.call { callee:=.builtin .len,args := #[y],argTypes := #[ty] } :=by
    rw[ho];have e1:args = #[y]:=by apply Array.ext';simpa using hargs
    have e2:tys = #[ty]:=by apply Array.ext';simpa using htys
    rw[e1,e2]
   split at hg
   ·rename_i e hu;simp only[t7] at hg;obtain ⟨y',hy,rfl⟩:=hg;simp only[bo] at h;split at h
    ·rename_i sz es hes;simp only[v6] at h;subst h;refine o8 ho' hu (.inl ⟨e,rfl⟩) hy (fun a w D E ab v hv =>?_);rw[hes] at hv;obtain ⟨ad,cap,e1,e2,e3,_⟩:=nf hv;exact ⟨zw3 e2 e3,fun _=>⟨ad,cap,e1⟩,fun e=>by cases e⟩
    ·rename_i sz hes;simp only[v6] at h;subst h;refine o8 (n:=0) ho' hu (.inl ⟨e,rfl⟩) hy (fun a w D E ab v hv =>?_);rw[hes] at hv;obtain ⟨cs,q1,q2⟩:=hv;simp only[al] at q2;exact ⟨by simp[maxLen],fun _=>⟨none,0,by simpa[bD,I.isAgg,q2] using q1.symm⟩,fun e=>by cases e⟩
    ·rename_i sz hes;simp only[v6] at h;subst h;refine o8 (n:=0) ho' hu (.inl ⟨e,rfl⟩) hy (fun a w D E ab v hv =>?_);rw[hes] at hv;obtain ⟨cs,q1,q2⟩:=hv;simp only[al] at q2;obtain ⟨ad,q2⟩:=q2;exact ⟨by simp[maxLen],fun _=>⟨ad,0,by simpa[bD,I.isAgg,q2] using q1.symm⟩,fun e=>by cases e⟩
    ·rename_i m l hm;split at h
     ·rename_i T sz es hes;split at h
      ·rename_i aq;subst aq;simp only[v6] at h;subst h;refine o8 ho' hu (.inl ⟨e,rfl⟩) hy (fun a w D E ab v hv =>?_);rw[hm] at hv;rcases ab.own hes hv with ⟨rfl,_,rfl⟩ | ⟨b,cap,cs,pre,rest,_,rfl,_,_,_,_,_,k8,k9,_⟩
       ·exact ⟨by simp[maxLen],fun _=>⟨none,0,rfl⟩,fun e=>by cases e⟩
       ·exact ⟨zw3 k8 k9,fun _=>⟨_,_,rfl⟩,fun e=>by cases e⟩
      ·cases h
     ·cases h
    ·rename_i n p sz lo k hm;simp only[v6] at h;subst h;refine o8 ho' hu (.inl ⟨e,rfl⟩) hy (fun a w D E ab v hv =>?_);rw[hm] at hv;obtain ⟨cs,q1,q2⟩:=hv;simp only[al] at q2;obtain ⟨b,aX,off,l,_,_,_,q2,q3,q4,_⟩:=q2;exact ⟨by omega,fun _=>⟨_,_,by simpa[bD,I.isAgg,q2] using q1.symm⟩,fun e=>by cases e⟩
    ·cases h
   ·rename_i hu;simp only[t7] at hg;obtain ⟨y',hy,rfl⟩:=hg;simp only[bo] at h;split at h
    ·rename_i s hs';simp only[v6] at h;subst h;refine o8 ho' hu (.inr rfl) hy (fun a w D E ab v hv =>?_);rw[hs'] at hv;obtain ⟨e1,e2⟩:=ng hv;exact ⟨e2,(fun e=>by obtain ⟨_,e⟩:=e;cases e),fun _=>⟨s,e1,rfl⟩⟩
    ·cases h
   ·cases hg
  ·cases hg
 -- append
 ·split at hg
  ·split at hg
   ·split at hg
    ·simp only[t7] at hg;obtain ⟨z,_,rfl⟩:=hg;simp[bo] at h
    ·split at hg
     ·simp only[t7] at hg;obtain ⟨z,_,rfl⟩:=hg;simp[bo] at h
     ·cases hg
   ·cases hg
  ·cases hg
 -- cap
 ·rename_i args tys ho;split at hg
  ·rename_i y ty hargs htys;have ho':o.op=.call { callee:=.builtin .cap,args := #[y],argTypes := #[ty] } :=by
    rw[ho];have e1:args = #[y]:=by apply Array.ext';simpa using hargs
    have e2:tys = #[ty]:=by apply Array.ext';simpa using htys
    rw[e1,e2]
   split at hg
   ·rename_i e hu;simp only[t7] at hg;obtain ⟨y',hy,rfl⟩:=hg;simp only[bo] at h;split at h
    ·rename_i sz hes;simp only[v6] at h;subst h;refine wb ho' hu hy (fun a w D E ab v hv =>?_);rw[hes] at hv;obtain ⟨cs,q1,q2⟩:=hv;simp only[al] at q2;exact ⟨by simp[maxLen],_,_,by simpa[bD,I.isAgg,q2] using q1.symm⟩
    ·rename_i sz hes;simp only[v6] at h;subst h;refine wb ho' hu hy (fun a w D E ab v hv =>?_);rw[hes] at hv;obtain ⟨cs,q1,q2⟩:=hv;simp only[al] at q2;obtain ⟨ad,q2⟩:=q2;exact ⟨by simp[maxLen],_,_,by simpa[bD,I.isAgg,q2] using q1.symm⟩
    ·rename_i n p sz lo k hm;split at h
     ·rename_i fs hfs;simp only[v6] at h;subst h;refine wb ho' hu hy (fun a w D E ab v hv =>?_);rw[hm] at hv;obtain ⟨_,b,cs,T,off,c1,c2,c3,_,_,_,_,_,_,_,_,_,_,_,q1,q2⟩:=ab.view hv hfs;exact ⟨by omega,_,_,q2⟩
     ·cases h
    ·cases h
   ·cases hg
  ·cases hg
 -- clear
 ·split at hg
  ·split at hg
   ·simp only[t7] at hg;obtain ⟨z,_,rfl⟩:=hg;simp[bo] at h
   ·cases hg
  ·cases hg
 -- copy
 ·split at hg
  ·split at hg
   ·split at hg
    ·simp only[v6] at hg;subst hg;simp[bo] at h
    ·cases hg
   ·cases hg
  ·cases hg
 -- delete
 ·split at hg
  ·split at hg
   ·simp only[t7] at hg;obtain ⟨z,_,rfl⟩:=hg;simp[bo] at h
   ·cases hg
  ·cases hg
 -- max
 ·rename_i args _ ho;split at hg
  ·rename_i x y hargs;split at hg
   ·rename_i x' y' J U;simp only[v6] at hg;subst hg;simp only[bo] at h;have e1:args = #[x,y]:=by apply Array.ext';simpa using hargs
    rw[e1] at ho;exact V8 ho J U h
   ·cases hg
  ·cases hg
 ·cases hg
theorem fE.append{α β:Type}{R:α→β→Prop} : ∀ {xs:List α} {ys:List β} {xs':List α} {ys':List β},fE R xs ys→fE R xs' ys'→fE R (xs++xs') (ys++ys')
 |_,_,_,_,.nil,h=>h
 |_,_,_,_,.cons J U,h=>.cons J (U.append h)
theorem rK{w:World}{D:aP}{E:aY} : ∀ {xs:List I} {vs:List Value},aI w D E xs vs→fE (aZ w D E) xs vs
 | [],vs,h=>by simp only[aI] at h;subst h;exact .nil
 |x::xs,vs,h=>by
  simp only[aI] at h;obtain ⟨v,rest,cs,rfl,J,U,ah⟩:=h;exact .cons (ju J U) (rK ah)
theorem I8 {P : Program} {f : FuncId} (h : e8 P f = true) : ∃ fn, P.funcs[f]? = some fn ∧ ¬ fn.name = "runtime.NumGoroutine" ∧ ¬ fn.body = none := by
 unfold e8 at h;rw[t8] at h
 replace h:=h.2
 cases hf:P.funcs[f]? with
 |none=>simp[hf] at h
 |some fn =>
  simp only[hf,Option.any_some,t8,bne_iff_ne,ne_eq] at h;refine ⟨fn,rfl,by simpa using h.1,?_⟩;cases hb:fn.body <;>simp_all
theorem Ap{P:Program}{f:FuncId}(h:e8 P f=true):f<1000000:=by
 unfold e8 at h;rw[t8] at h;simpa[Nat.blt_eq] using h.1
theorem nd{P:Program}{w:World}{f:FuncId}{args:Array Value}(h:e8 P f=true):(callFunc f args).run P w=.ok (.enter f args) w:=by
 obtain ⟨fn,J,U,ah⟩:=I8 h;simp[callFunc,J,U,ah]
theorem aU.ib{A:ai}{a:Act}{w:World}{D:aP}{E:aY}(h:aU c A a w D E){n:Nat}{e:bM}{b:Nat}(he:E n=some e)(hb:e.aJ=some b):c.eZ b:=by
 have:=h.bP n;unfold c6 at this;split at this
 ·simp[this] at he
 ·obtain ⟨b',cs,T,J,U,_⟩:=this;rw[J,v6] at he;subst he;simp only[bM.aJ,v6] at hb;exact hb▸U
 ·obtain ⟨aJ,J,U,ah⟩:=this;rw[J,v6] at he;subst he;split at ah
  ·cases hb
  ·obtain ⟨cs,pre,rest,ar,_⟩:=ah;simp only[bM.aJ,v6] at hb;exact hb▸ar
 ·obtain ⟨b',J,U,_⟩:=this;rw[J,v6] at he;subst he;simp only[bM.aJ,v6] at hb;exact hb▸U
 ·obtain ⟨b',es,ck,J,U,_⟩:=this;rw[J,v6] at he;subst he;simp only[bM.aJ,v6] at hb;exact hb▸U
 ·obtain ⟨b',bb,es,ck,si,se,la,J,U,_⟩:=this;rw[J,v6] at he;subst he;simp only[bM.aJ,v6] at hb;exact hb▸U
 ·obtain ⟨aJ,J,U,ah⟩:=this;rw[J,v6] at he;subst he;split at ah
  ·cases hb
  ·obtain ⟨cs,m,ar,_⟩:=ah;simp only[bM.aJ,v6] at hb;exact hb▸ar
theorem aU.qP{A:ai}{a:Act}{w:World}{D:aP}{E:aY}(h:aU c A a w D E):gM c.P w (cL E) :=
 h.eW.1.Wy h.dO (fun _ hb=>hb) fun _ ⟨_,_,J,U⟩=>h.ib J U
theorem aU.wu{A:ai}{a:Act}{w:World}{D:aP}{E:aY}(h:aU c A a w D E):gM c.P w (fun _=>False):=h.qP.nR fun _ h=>h.elim
theorem aU.pn{A:ai}{a:Act}{w:World}{D:aP}{E:aY}(h:aU c A a w D E){ρ:List (Nat×Nat)}{os:List (Nat×ao)} : gM c.P w (cL (aA ρ os E)):=h.qP.nR fun b ⟨n,e,J,U⟩=>by
 simp only[aA] at J;split at J
 ·exact ⟨_,e,J,U⟩
 ·cases J
theorem a8.ZN{f:FuncId}{avs cargs:List I}{r:I}{vs:List Value}{a:Act}{w:World}{D:aP}{E:aY}(ab:aU c A a w D E)(h:a8 c.P f cargs r)(hf:r.flat=true)(hc:b8 true A avs=some cargs)(hv:fE (aZ w D E) avs vs) :
  Calls c.P f vs.toArray w fun e w'=>∃ v D',e=.returned v∧aU c A a w' D' E∧aZ w' D' E r v:=by
 have hw:h2 true A D E (fun b _=>b<w.heap.size):=by
  refine ⟨fun b o af=>ab.aQ b o af,fun n T sz es b cap hn aA o _=>ab.fX aA rfl,fun _ n x b aX hn aA o _=>ab.fX aA rfl,fun _ n ks vs b hn aA=>ab.fX aA rfl⟩
 have hrv:=lL (E':=dk) ab (fun _ _ h=>h) hw avs cargs vs (lh _ _ hv (qu hc)) hc;refine (h.2 w _ vs ab.wu (fun _ _ af=>af) hrv).mono fun e w' ⟨v,D',he,J,U,ah,ar⟩=>⟨v,D,he,?_,aZ.flat hf J⟩
 exact ab.grow U (fun _ _ af=>af) (fun _ _ af _=>af) (fun b o af=>Nat.lt_of_lt_of_le (ab.aQ b o af) U.size)
theorem a8.ZP{f:FuncId}{avs cargs:List I}{r:I}{vs:List Value}{a:Act}{w:World}{D:aP}{E:aY}(ab:aU c A a w D E)(h:a8 c.P f cargs r)(hc:b8 false A avs=some cargs)(hv:fE (aZ w D E) avs vs) :
  Calls c.P f vs.toArray w fun e w'=>∃ v D',e=.returned v∧aU c A a w' D' E∧aZ w' D' E r v:=by
 obtain ⟨hs1,hw⟩:=ab.ou;have hrv:=lL (E':=dk) ab (fun _ _ h=>h) hw avs cargs vs (lh _ _ hv (qu hc)) hc;refine (h.2 w _ vs ab.wu hs1.aQ hrv).mono fun e w' ⟨v,D',he,J,U,ah,ar⟩=>⟨v,fun b o=>oo A D E b o∨(w.heap.size≤b∧D' b o),he,?_,?_⟩
 ·refine hs1.grow U (fun _ _ af=>.inl af) ?_ ?_
  ·rintro b o (af | ⟨hle,_⟩) hlt
   ·exact af
   ·omega
  ·rintro b o (af | ⟨_,af⟩)
   ·exact Nat.lt_of_lt_of_le (hs1.aQ b o af) U.size
   ·exact ah b o af
 ·refine aZ.later (E:=dk) ⟨fun b o af =>?_,fun _ _ _ _ h=>h,fun n b aX hn=>by simp[dk] at hn,fun n aJ l hn=>by simp[dk] at hn,fun n b hn=>by simp[dk] at hn,fun n b hn=>by simp[dk] at hn,fun _ _ _ _ h=>h⟩ J;rcases Nat.lt_or_ge b w.heap.size with hlt | hge
  ·exact .inl (ar b o af hlt)
  ·exact .inr ⟨hge,af⟩
theorem Cn(p:Nat→Bool)(os:List (Nat×ao))(n:Nat):aj (os.filter fun q=>p q.1) n=if p n then aj os n else none:=by
 induction os with
 |nil=>simp[aj]
 |cons q os ih =>
  obtain ⟨k,v⟩:=q;simp only[zw4];by_cases hk:p k=true
  ·simp only[hk,if_true,aj,ih];by_cases hn:n=k
   ·subst hn;simp only[hk,if_true]
   ·simp only[if_neg hn]
  ·simp only[hk,Z2,if_false,ih,aj];by_cases hn:n=k
   ·subst hn;simp[hk]
   ·simp only[if_neg hn]
theorem nS(ns:List Nat)(os:List (Nat×ao))(n:Nat):aj (eK ns os) n=if ns.contains n then none else aj os n:=by
 rw[eK,Cn (fun n => !ns.contains n)];cases ns.contains n <;>rfl
theorem pt(ns:List Nat)(os:List (Nat×ao))(n:Nat):aj (mM ns os) n=if ns.contains n then aj os n else none:=Cn _ _ _
theorem w5{p:Nat→Bool} : ∀ {os:List (Nat×ao)},cn p os→∀ k x,aj os k=some x→x.only p=true
 | [],_,k,x,hx=>by simp[aj] at hx
 |(j,v)::r,h,k,x,hx=>by
  simp only[cn] at h;simp only[aj] at hx;split at hx
  ·simp only[v6] at hx;subst hx;exact h.1
  ·exact w5 h.2 k x hx
theorem Cq(ns:List Nat):∀ (ts:List (Nat×I)) (t:Nat),bY (lJ ns ts) t=if (bY ts t).only (fun n => !ns.contains n) then bY ts t else .dw
 | [],t=>by simp[lJ,bY,I.only]
 |(k,v)::r,t=>by
  simp only[lJ,Z3,bY];by_cases h:t=k
  ·simp only[if_pos h]
  ·simp only[if_neg h];exact Cq ns r t
theorem aU.Bo{a:Act}{w:World}{D:aP}{E:aY}{ts:List (Nat×I)}{os0:List (Nat×ao)}(h:aU c (av ts os0) a w D E)(ns:List Nat)(ho:cn (fun n => !ns.contains n) (eK ns os0)) :
  ∃ D' E',aU c (av (lJ ns ts) (eK ns os0)) a w D' E'∧h2 true (av ts (mM ns os0)) D E D':=by
 have J:=h.ou.1;have hw1:=h.ou.2;obtain ⟨D1,hD1⟩:∃ D1,D1=oo (av ts os0) D E:=⟨_,rfl⟩
 rw[←hD1] at J hw1;obtain ⟨D2,hD2⟩:∃ D2:aP,D2=fun b o=>D1 b o∨(∃ n x aX,ns.contains n=true∧aj os0 n=some (.box x)∧E n=some (.aL b aX)∧o<x.size)∨∃ n ks vs,ns.contains n=true∧aj os0 n=some (.bz ks vs)∧E n=some (.bz b)∧o=0:=⟨_,rfl⟩
 obtain ⟨E2,hE2⟩:∃ E2:aY,E2=fun n=>if ns.contains n then none else E n:=⟨_,rfl⟩
 have e2:∀ n,(!ns.contains n)=true→E2 n=E n:=fun n hn=>by rw[hE2];simp at hn;simp[hn]
 have aq:dW w D1 E2 w D2 E2:=⟨fun b o af=>by rw[hD2];exact .inl af,fun _ _ _ _ h=>h,fun _ _ _ h=>h,fun _ aJ l h=>⟨aJ,l,h,Z4 _,fun _=>rfl⟩,fun _ _ h=>h,fun _ _ h=>h,fun _ _ _ _ h=>h⟩
 have py:∀ b o,D2 b o→D1 b o∨∃ n e q,ns.contains n=true∧E n=some e∧e.aJ=some b∧c.eZ b∧w.heap[b]?=some q:=fun b o af=>by
  rw[hD2] at af;rcases af with af | ⟨n,x,aX,k1,k2,k3,k4⟩ | ⟨n,ks,vs,k1,k2,k3,_⟩
  ·exact .inl af
  ·obtain ⟨b',cs,T,q1,q2,q3,_⟩:=h.box (n:=n) (x:=x) (by simpa[av] using k2);rw[k3] at q1;simp only[v6,bM.aL.injEq] at q1;obtain ⟨rfl,rfl⟩:=q1;exact .inr ⟨n,_,_,k1,k3,rfl,q2,q3⟩
  ·obtain ⟨b',es,ck,q1,q2,q3,_⟩:=h.map (n:=n) (ks:=ks) (vs:=vs) (by simpa[av] using k2);rw[k3] at q1;cases q1;exact .inr ⟨n,_,_,k1,k3,rfl,q2,q3⟩
 refine ⟨D2,E2,⟨J.sz,J.eB,fun t =>?_,J.dO,fun b o af hm =>?_,fun b o af =>?_,fun n =>?_,fun n m e e' b g1 g2 g3 g4 =>?_,fun n e hn =>?_,J.eP,fun b o af=>aq.c9 b o (J.cT b o af),J.eW,J.fC⟩,?_⟩
 ·simp only[av,Cq];have ht:=J.dR t;simp only[av] at ht;split
  ·rename_i hp;exact aZ.later aq (aZ.db e2 hp ht)
  ·simp[aZ]
 ·rcases py b o af with af | ⟨n,e,q,_,_,_,k,_⟩
  ·exact J.c9 b o af hm
  ·exact absurd k hm
 ·rcases py b o af with af | ⟨n,e,q,_,_,_,_,k⟩
  ·exact J.aQ b o af
  ·exact fJ k
 ·simp only[av,nS];by_cases hn:ns.contains n=true
  ·simp only[hn,if_true,c6];rw[hE2];simp only[hn,if_true]
  ·have hnb:(!ns.contains n)=true:=by simpa using hn
   simp only[hn,Z2,if_false];have hob:=J.bP n;simp only[av] at hob;cases hx:aj os0 n with
   |none=>rw[hx] at hob;simp only[c6] at hob ⊢;rw[e2 n hnb];exact hob
   |some x =>
    have hon:=w5 ho n x (by rw[nS,if_neg hn];exact hx);have nD:∀ e b,E n=some e→e.aJ=some b→∀ o,D2 b o→D1 b o:=fun e b he hb o af=>by
     rcases py b o af with af | ⟨m,e',q,k1,k3,k2,_⟩
     ·exact af
     ·have:=h.cQ n m e _ b he k3 hb k2;subst this;exact absurd k1 hn
    rw[hx] at hob;cases x with
    |box x =>
     obtain ⟨b,cs,T,k1,k2,k3,k4,k5⟩:=hob;exact ⟨b,cs,T,(e2 n hnb).trans k1,k2,k3,al.later aq _ _ (al.db e2 _ _ (by simpa[ao.only] using hon) k4),fun o af=>k5 o (nD _ b k1 rfl o af)⟩
    |bU T sz es =>
     obtain ⟨aJ,k1,k2,k3⟩:=hob;refine ⟨aJ,(e2 n hnb).trans k1,k2,?_⟩;cases aJ with
     |none=>exact k3
     |some bc =>
      obtain ⟨b,cap⟩:=bc;obtain ⟨cs,pre,rest,q1,q2,q3,q4,q5,q6,q7,q8⟩:=k3;exact ⟨cs,pre,rest,q1,q2,q3,aN.later aq _ _ (aN.db e2 _ _ (by simpa[ao.only] using hon) q4),q5,q6,q7,fun o af=>q8 o (nD _ b k1 rfl o af)⟩
    |dK T xs =>
     obtain ⟨aJ,k1,k2,k3⟩:=hob;refine ⟨aJ,(e2 n hnb).trans k1,k2,?_⟩;cases aJ with
     |none=>exact k3
     |some bc =>
      obtain ⟨b,cap⟩:=bc;obtain ⟨cs,r,q1,q2,q3,q4,q5,q6,q7⟩:=k3;exact ⟨cs,r,q1,q2,q3,q4,q5,q6,fun o af=>q7 o (nD _ b k1 rfl o af)⟩
    |dJ x =>
     obtain ⟨b,k1,k2,k3,k4,k5⟩:=hob;exact ⟨b,(e2 n hnb).trans k1,k2,k3,k4,fun o af=>k5 o (nD _ b k1 rfl o af)⟩
    |bz ks vs =>
     obtain ⟨b,es,ck,k1,k2,k3,k4,k5,k6,k7⟩:=hob;simp only[ao.only,t8] at hon;exact ⟨b,es,ck,(e2 n hnb).trans k1,k2,k3,k4,aI.later aq _ _ (aI.db e2 _ _ hon.1 k5),aI.later aq _ _ (aI.db e2 _ _ hon.2 k6),fun o af=>k7 o (nD _ b k1 rfl o af)⟩
    |it ks vs left cur =>
     obtain ⟨r,b,es,ck,si,se,la,k1,k2,k3,k4,k5,k6,k7,k8,k9,k9',k10⟩:=hob;simp only[ao.only,t8] at hon;exact ⟨r,b,es,ck,si,se,la,(e2 n hnb).trans k1,k2,k3,k4.later aq,aI.later aq _ _ (aI.db e2 _ _ hon.1 k5),aI.later aq _ _ (aI.db e2 _ _ hon.2 k6),k7,k8,k9,k9',fun o af=>k10 o (nD _ r k1 rfl o af)⟩
 ·have cut:∀ n e,E2 n=some e→E n=some e:=fun n e he=>by
   rw[hE2] at he;simp only at he;split at he
   ·cases he
   ·exact he
  exact h.cQ n m e e' b (cut n e g1) (cut m e' g2) g3 g4
 ·by_cases hm:ns.contains n=true
  ·left;rw[hE2];simp only[hm,if_true]
  ·rw[e2 n (by simpa using hm)];exact h.dS n e hn
 ·refine ⟨fun b o af=>by rw[hD2];exact .inl (hw1.c9 b o af),fun n T sz es b cap hn aA o hlt =>?_,fun _ n x b aX hn aA o hlt =>?_,fun _ n ks vs b hn aA =>?_⟩
  ·simp only[av,pt] at hn;split at hn
   ·rw[hD2];exact .inl (hw1.bU n T sz es b cap hn aA o hlt)
   ·cases hn
  ·simp only[av,pt] at hn;split at hn
   ·rename_i hk;rw[hD2];exact .inr (.inl ⟨n,x,aX,hk,hn,aA,hlt⟩)
   ·cases hn
  ·simp only[av,pt] at hn;split at hn
   ·rename_i hk;rw[hD2];exact .inr (.inr ⟨n,ks,vs,hk,hn,aA,rfl⟩)
   ·cases hn
theorem a8.ZO{f:FuncId}{avs cargs:List I}{r:I}{vs:List Value}{a:Act}{w:World}{D:aP}{E:aY}{ts:List (Nat×I)}{os0:List (Nat×ao)}(ab:aU c (av ts os0) a w D E)(ns:List Nat)(ho:cn (fun n => !ns.contains n) (eK ns os0))
  (h:a8 c.P f cargs r) (hc:b8 true (av ts (mM ns os0)) avs=some cargs) (hv:fE (aZ w D E) avs vs) :
  Calls c.P f vs.toArray w fun e w'=>∃ v D' E',e=.returned v∧aU c (av (lJ ns ts) (eK ns os0)) a w' D' E'∧aZ w' D' E' r v:=by
 obtain ⟨D1,E1,hs1,hw⟩:=ab.Bo ns ho;have hu:ep (av ts (mM ns os0)) (av ts os0):=fun n x hx=>by
  simp only[av,pt] at hx ⊢;split at hx
  ·exact hx
  ·cases hx
 have hrv:=lL (E':=dk) ab hu hw avs cargs vs (lh _ _ hv (qu hc)) hc;refine (h.2 w _ vs ab.wu hs1.aQ hrv).mono fun e w' ⟨v,D',he,J,U,ah,ar⟩=>⟨v,fun b o=>D1 b o∨(w.heap.size≤b∧D' b o),E1,he,?_,?_⟩
 ·refine hs1.grow U (fun _ _ af=>.inl af) ?_ ?_
  ·rintro b o (af | ⟨hle,_⟩) hlt
   ·exact af
   ·omega
  ·rintro b o (af | ⟨_,af⟩)
   ·exact Nat.lt_of_lt_of_le (hs1.aQ b o af) U.size
   ·exact ah b o af
 ·refine aZ.later (E:=dk) ⟨fun b o af =>?_,fun _ _ _ _ h=>h,fun n b aX hn=>by simp[dk] at hn,fun n aJ l hn=>by simp[dk] at hn,fun n b hn=>by simp[dk] at hn,fun n b hn=>by simp[dk] at hn,fun _ _ _ _ h=>h⟩ J;rcases Nat.lt_or_ge b w.heap.size with hlt | hge
  ·exact .inl (ar b o af hlt)
  ·exact .inr ⟨hge,af⟩
theorem uL{a:Act}{w:World}{D D1:aP}{E:aY}{ts:List (Nat×I)}{os0 os:List (Nat×ao)}{ρ:List (Nat×Nat)}{aL:Bool}{A0:ai}(ab:aU c (av ts os0) a w D E)(hu:ep A0 (av ts os0))(hD:∀ b o,D b o→D1 b o)(hw:h2 aL A0 D E D1) :
  ∀ (avs cargs:List I) (vs:List Value),gP aL A0 ρ os avs cargs→fE (aZ w D E) avs vs→aI w D1 (aA ρ os E) cargs vs
 | [],[],vs,_,hv=>by cases hv;simp[aI]
 | [],_::_,_,h,_=>by simp[gP] at h
 |_::_,[],_,h,_=>by simp[gP] at h
 |x::xs,y::ys,vs,h,hv=>by
  cases hv with
  |cons hv hvs =>
  rename_i v vs;simp only[gP] at h;have ih:=uL ab hu hD hw xs ys vs h.2 hvs;have aq:dW w D (aA ρ os E) w D1 (aA ρ os E):=⟨hD,fun _ _ _ _ h=>h,fun _ _ _ h=>h,fun _ aJ l h=>⟨aJ,l,h,Z4 _,fun _=>rfl⟩,fun _ _ h=>h,fun _ _ h=>h,fun _ _ _ _ h=>h⟩
  have J:∃ cs,bD y v cs∧al w D1 (aA ρ os E) y cs:=by
   rcases h.1 with ⟨k1,k2,k3⟩ | k
   ·rw[k1] at hv;have U:=aZ.later aq ((aZ.bn (w:=w) (D:=D) (p:=aw os) (ρ:=bI ρ) (E:=aA ρ os E) (E':=E) (fun n hn=>by simp only[aA,hn,if_true]) k2).1 hv);cases y <;>simp only[aZ] at U <;>first | (simp[I.bT] at k3;done) | exact U
   ·have U:aI w D E [x] [v]:=lh [x] [v] (.cons hv .nil) (by
     intro z hz;simp only[zy4] at hz;subst hz;cases z <;>simp_all[bj,I.bT])
    have ah:=lL (E':=aA ρ os E) ab hu hw [x] [y] [v] U (by simp[b8,k]);simp only[aI] at ah;obtain ⟨v',rest,cs,e,k1,k2,_⟩:=ah;simp only[zw2] at e;obtain ⟨rfl,_⟩:=e;exact ⟨cs,k1,k2⟩
  obtain ⟨cs,k1,k2⟩:=J;simp only[aI];exact ⟨v,vs,cs,rfl,k1,k2,ih⟩
theorem ep.drop(ts:List (Nat×I))(ns:List Nat)(os0:List (Nat×ao)):ep (av ts (eK ns os0)) (av ts os0):=fun n x hx=>by
 simp only[av,nS] at hx ⊢;split at hx
 ·cases hx
 ·exact hx
theorem nt.use{run:Array Value→World→(Ending→World→Prop)→Prop}{since:World→aP→aY→Prop}{avs cargs:List I}{post:cK}{vs:List Value}{a:Act}{w:World}{D:aP}{E:aY}{ts:List (Nat×I)}{os0 os:List (Nat×ao)}{ρ:List (Nat×Nat)}
  (ab:aU c (av ts os0) a w D E) (h:nt run since cargs os post) (aL:Bool) (hmono:∀ {vs w R R'},run vs w R→(∀ e w,R e w→R' e w)→run vs w R') (hsince:(aL=true→∀ D,since w D (aA ρ os E))∧(aL=false→since w (oo (av ts os0) D E) (aA ρ os E)))
  (hg:gl ρ os os0) (ha:gP aL (av ts (eK (iE ρ os) os0)) ρ os avs cargs) (hb:∀ r os',post r os'→gE aL ρ os os0 r os') (hv:fE (aZ w D E) avs vs) :
  run vs.toArray w fun e w'=>∃ v r os' D2 E2,e=.returned v∧post r os'∧aU c (av ts (dE ρ os'++os0)) a w' D2 E2∧aZ w' D2 E2 (r.bn (bI ρ)) v∧∀ m e,aA ρ os E m=some e→aw os' m=true→∃ e',E2 (bI ρ m)=some e'∧e.le e':=by
 have notName:∀ n,(iE ρ os).contains n=false→∀ m,aw os m=true→bI ρ m≠n:=fun n hn m hm he=>by
  obtain ⟨q,hq,rfl⟩:=wj.1 hm;have:(iE ρ os).contains n=true:=by simp only[iE,List.contains_iff_mem,zy1];exact ⟨q,hq,he⟩
  rw[this] at hn;cases hn
 have other:∀ {D:aP},aU c (av ts os0) a w D E→∀ n e b x,aj (eK (iE ρ os) os0) n=some x→E n=some e→e.aJ=some b→¬ cL (aA ρ os E) b:=fun ab n e b x hx he hb ho=>by
  obtain ⟨m,e',J,U,hb',_⟩:=ab.sQ hg ho;rw[nS] at hx;split at hx
  ·cases hx
  ·rename_i hc;have:=ab.cQ n (bI ρ m) e _ b he U hb hb';exact notName n (by simpa using hc) m J this.symm
 cases aL with
 |true =>
  obtain ⟨D1,hD1⟩:∃ D1:aP,D1=fun b o=>D b o∨(b<w.heap.size∧¬ cL (aA ρ os E) b):=⟨_,rfl⟩
  have hD:∀ b o,D b o→D1 b o:=fun b o af=>by rw[hD1];exact .inl af
  have hw:h2 true (av ts (eK (iE ρ os) os0)) D E D1:=by
   refine ⟨hD,fun n T sz es b cap hn aA o _ =>?_,fun _ n x b aX hn aA o _ =>?_,fun _ n ks vs b hn aA =>?_⟩
   ·rw[hD1];exact .inr ⟨ab.fX aA rfl,other ab n _ b _ hn aA rfl⟩
   ·rw[hD1];exact .inr ⟨ab.fX aA rfl,other ab n _ b _ hn aA rfl⟩
   ·rw[hD1];exact .inr ⟨ab.fX aA rfl,other ab n _ b _ hn aA rfl⟩
  have hrv:=uL ab (ep.drop ts _ os0) hD hw avs cargs vs ha hv;refine hmono (h w D1 (aA ρ os E) vs (hsince.1 rfl _) (fun b o af=>by
   rw[hD1] at af;rcases af with af | af
   ·exact ab.aQ b o af
   ·exact af.1) (ab.B1 hg hD fun b o af ho=>by
    rw[hD1] at af;rcases af with af | af
    ·exact af
    ·exact absurd ho af.2) hrv) ?_
  rintro e w' ⟨v,D',E',r,os',he,hp,J,U,ah,ar,h5,h6,h7,h8⟩;obtain ⟨D2,E2,k1,k2⟩:=ab.iu hg hD (fun h=>by cases h) (hb r os' hp) J U ah h5 ar h8 h6 h7;exact ⟨v,r,os',D2,E2,he,hp,k1,k2⟩
 |false =>
  obtain ⟨hs1,hw⟩:=ab.ou;have hw':h2 false (av ts (eK (iE ρ os) os0)) D E (oo (av ts os0) D E):=⟨hw.c9,fun n T sz es b cap hn aA o hlt=>hw.bU n T sz es b cap (ep.drop ts _ os0 n _ hn) aA o hlt,(fun hb=>by cases hb),fun hb=>by cases hb⟩
  have hrv:=uL ab (ep.drop ts _ os0) hw.c9 hw' avs cargs vs ha hv;refine hmono (h w _ (aA ρ os E) vs (hsince.2 rfl) hs1.aQ (hs1.B1 hg (fun _ _ h=>h) fun b o af _=>af) hrv) ?_;rintro e w' ⟨v,D',E',r,os',he,hp,J,U,ah,ar,h5,h6,h7,h8⟩;obtain ⟨D2,E2,k1,k2⟩:=hs1.iu hg (fun _ _ h=>h) (fun _ _ _ h=>h) (hb r os' hp) J U ah h5 ar h8 h6 h7;exact ⟨v,r,os',D2,E2,he,hp,k1,k2⟩
theorem aU.since{A:ai}{a:Act}{w:World}{D:aP}{E E':aY}(h:aU c A a w D E)(aA:∀ n,E' n=E n∨E' n=none):yw c w D E' :=
 ⟨h.dO,h.cT,h.c9,fun n e hn=>by
  rcases aA n with k | k
  ·rw[k];exact h.dS n e hn
  ·exact .inl k,h.fC,h.qP.nR fun b ⟨n,e,J,U⟩=>by
   rcases aA n with k | k
   ·rw[k] at J;exact ⟨n,e,J,U⟩
   ·rw[k] at J;cases J⟩
theorem lN(c:cV)(f:FuncId):c.bC.fn f:=by unfold cV.bC;split <;>trivial
theorem vi(c:cV):c.bC.depth.isSome=true→1≤9:=fun _=>by omega
theorem kJ{a:Act}{w:World} : ∀ f,o.about c.P w a.eval=some f→c.bC.fn f:=fun f _=>lN c f
theorem lj{g:bS}(hg:df c.P o=some g)(r:Option Nat)(ρ:Operand→Value):o.semAt r ρ=execOp ρ o:=by
 cases r with
 |none=>rfl
 |some l =>
  refine Oper.semAt_some l ρ o fun cl h =>?_;unfold df at hg;rw[h] at hg;simp at hg
theorem Aq{f:FuncId}{args:Array Value}{w:World}{R:Ending→World→Prop}(h:Calls c.P f args w R):CallsIn c.bC (9-1) c.P f args w R:=by
 have J:CallsIn Fence.wide (9-1) c.P f args w R:=callsIn_wide.2 h;unfold cV.bC;split
 ·exact J
 ·exact J
theorem sg.mono{P:Program}{v:Value}{vs:Array Value}{w:World}{R R':Ending→World→Prop}(h:sg P v vs w R)(hr:∀ e w,R e w→R' e w):sg P v vs w R':=by
 obtain ⟨l,J,fn,tmps,assign,body,U,ah⟩:=h;exact ⟨l,J,fn,tmps,assign,body,U,ah.mono hr⟩
theorem Y8{l:Nat}{f:FuncId}{tmps:Array Value}{assign body:Code}{w:World}{R:Ending→World→Prop}(h:RoundIn Fence.wide 9 c.P l f tmps assign body w R):RoundIn c.bC (9-1) c.P l f tmps assign body w R:=by
 have J:RoundIn Fence.wide (9-1) c.P l f tmps assign body w R:=⟨h.1,fun cc cs _=>h.2 cc cs (room_wide _)⟩
 unfold cV.bC;split
 ·exact J
 ·exact J
theorem h1.wp{B:ai}{g:bS}(hg:df c.P o=some g)(h:h1 c A o B){a:Act}{w:World}{K:Act→World→Prop}{Q:Exit→Act→World→Prop}(ab:b5 c A a w)(hK:∀ a w,b5 c B a w→K a w):o.wpIn c.bC 9 c.P a w K Q:=by
 obtain ⟨D,E,ab⟩:=ab;obtain ⟨w',h⟩:=h a w D E ab;refine ⟨kJ,?_⟩;rw[lj hg];rcases h with ⟨v,J,U⟩ | ⟨J,U⟩
 ·rw[J];exact hK _ _ U
 ·rw[J];exact hK _ _ U
theorem u9{dr:Bool}{K:ai→Prop}{f:FuncId}{avs:List I}{a1 a2:Option (List I)}{vs:List Value}{dst:Option Nat}{rest:List aH}{a:Act}{w:World}{Kw:Act→World→Prop}{Q:Exit→Act→World→Prop}{g:bS}(hg:df c.P o=some g)(J:b8 true A avs=a1)(U:b8 false A avs=a2)
  (ab:∀ D E,aU c A a w D E→fE (aZ w D E) avs vs) (hsim:b5 c A a w) (hwp:aR c.P c.Y dr K (.call f avs a1 a2 dst rest A)) (af:o.dst=dst) (hdn:∀ k,dst=some k→k<c.n)
  (hrun:e8 c.P f=true→(execOp a.eval o).run c.P w=.ok (.enter f vs.toArray) w)
  (hK:∀ B a' w',aR c.P c.Y dr K (aB rest B)→b5 c B a' w'→Kw a' w'):o.wpIn c.bC 9 c.P a w Kw Q:=by
 obtain ⟨D,E,hsw⟩:=hsim;have oB:∀ {R:Ending→World→Prop},e8 c.P f=true→Calls c.P f vs.toArray w R→(∀ e w',R e w'→∃ v,e=.returned v∧Kw (a.put o.dst v) w')→o.wpIn c.bC 9 c.P a w Kw Q:=fun {R} hc hcl hR=>by
  refine ⟨kJ,?_⟩;rw[lj hg,hrun hc,Oper.uponIn_enter];refine ⟨vi c,Aq (hcl.mono fun e w' he =>?_)⟩;obtain ⟨v,rfl,hv⟩:=hR e w' he;exact hv
 cases hwp with
 |flat r hspec hflat hrest =>
  refine oB hspec.1 (hspec.ZN hsw hflat J (ab D E hsw)) ?_;rintro e w' ⟨v,D',he,hs',hv⟩;refine ⟨v,he,?_⟩;rw[af];exact hK _ _ _ hrest ⟨D',E,hs'.aS hdn hv⟩
 |lead r hspec hrest =>
  refine oB hspec.1 (hspec.ZP hsw U (ab D E hsw)) ?_;rintro e w' ⟨v,D',he,hs',hv⟩;refine ⟨v,he,?_⟩;rw[af];exact hK _ _ _ hrest ⟨D',E,hs'.aS hdn hv⟩
 |jL ns r hdr hspec hf ho hrest =>
  refine oB hspec.1 (hspec.ZO hsw ns ho hf (ab D E hsw)) ?_;rintro e w' ⟨v,D',E',he,hs',hv⟩;refine ⟨v,he,?_⟩;rw[af];exact hK _ _ _ hrest ⟨D',E',hs'.aS hdn hv⟩
 |bP aL ρ os cargs post hdr hspec hgv ha hb hrest =>
  refine oB hspec.1 (hspec.2.use hsw aL (fun h=>h.mono) ⟨fun _ _=>hsw.pn,fun _=>hsw.pn⟩ hgv ha hb (ab D E hsw)) ?_;rintro e w' ⟨v,r,os',D2,E2,he,hp,hs',hv,_⟩;refine ⟨v,he,?_⟩;rw[af];exact hK _ _ _ (hrest r os' hp) ⟨D2,E2,hs'.aS hdn hv⟩
theorem Ja{dr:Bool}{K:ai→Prop}{v:Value}{avs:List I}{vs:List Value}{dst:Option Nat}{rest:List aH}{a:Act}{w:World}{Kw:Act→World→Prop}{Q:Exit→Act→World→Prop}{g:bS}(hg:df c.P o=some g)
  (ab:∀ D E,aU c A a w D E→fE (aZ w D E) avs vs) (hsim:b5 c A a w) (hwp:aR c.P c.Y dr K (.kN v avs dst rest A)) (af:o.dst=dst) (hdn:∀ k,dst=some k→k<c.n)
  (hrun:∀ l,v=.func (.yield l) #[] #[]→(execOp a.eval o).run c.P w=(Instr.yield l vs.toArray).run c.P w)
  (hK:∀ B a' w',aR c.P c.Y dr K (aB rest B)→b5 c B a' w'→Kw a' w'):o.wpIn c.bC 9 c.P a w Kw Q:=by
 obtain ⟨D,E,hsw⟩:=hsim;cases hwp with
 |uh os cargs post hdr hY hgv ha hb hrest =>
  have hyr:=(hsw.eW.2 _ _ _ _ hY).use (ρ:=[]) hsw false (fun h=>h.mono) ⟨(fun h=>by cases h),fun _=>hsw.ou.1.since (fun n=>by simp only[aA,bI];split <;>simp)⟩ hgv ha hb (ab D E hsw);obtain ⟨l,rfl,fn,tmps,assign,body,U,ah⟩:=hyr;refine ⟨kJ,?_⟩;rw[lj hg,hrun l rfl,U,Oper.uponIn_round];refine ⟨vi c,Y8 (ah.mono fun e w' he =>?_)⟩;obtain ⟨v,r,os',D2,E2,rfl,hp,hs',hv,_⟩:=he;rw[af];exact hK _ _ _ (hrest r os' hp) ⟨D2,E2,hs'.aS hdn hv⟩
end
section
variable {c:cV} {A:ai} {o:Oper}
theorem nB{P:Program}{n:Nat}{aV:Array Oper}{g:aH}(h:lF P n aV o=some g):df P o=some g.op∧g.dst=o.dst∧(∀ k,o.dst=some k→k<n) ∧
  ((o.guard=none∧g.guard=none)∨∃ j b t,o.guard=some (j,b)∧(aV[j]?).bind (·.dst)=some t∧g.guard=some (t,b)):=by
 unfold lF at h;split at h
 ·cases h
 rename_i g' hg';split at h
 case isFalse=>cases h
 rename_i af;have hdst:∀ k,o.dst=some k→k<n:=by
  intro k hk;rw[hk] at af;simpa[AT] using af
 split at h
 ·rename_i hgd;simp only[v6] at h;subst h;exact ⟨hg',rfl,hdst,.inl ⟨hgd,rfl⟩⟩
 ·rename_i j b hgd;split at h
  ·rename_i t ht;simp only[v6] at h;subst h;exact ⟨hg',rfl,hdst,.inr ⟨j,b,t,hgd,ht,rfl⟩⟩
  ·cases h
theorem BO{dr:Bool}{K:ai→Prop}{op:bS}{dst:Option Nat}{rest:List aH}{a:Act}{w:World}{Kw:Act→World→Prop}{Q:Exit→Act→World→Prop}(hop:df c.P o=some op)(af:o.dst=dst)(hdn:∀ k,dst=some k→k<c.n)
  (hsim:b5 c A a w) (hK:∀ B a' w',aR c.P c.Y dr K (aB rest B)→b5 c B a' w'→Kw a' w') (h:aR c.P c.Y dr K (cS (bo A op) fun v=>aB rest (A.aS dst v))):o.wpIn c.bC 9 c.P a w Kw Q:=by
 cases hv:bo A op with
 |some v =>
  rw[hv] at h;exact ((Di hop hv).does (by rw[af];exact hdn)).wp hop hsim (fun a' w' ab=>by rw[af] at ab;exact hK _ a' w' h ab)
 |none=>rw[hv] at h;cases h
theorem Vp{dr:Bool}{K:ai→Prop}{dst:Option Nat}{rest:List aH}{a:Act}{w:World}{Kw:Act→World→Prop}{Q:Exit→Act→World→Prop}{z:I}(hop:df c.P o=some (.alloc z))(af:o.dst=dst)(hdn:∀ k,dst=some k→k<c.n)
  (hwp:aR c.P c.Y dr K (bl A dst (.alloc z) rest (aB rest))) (hsim:b5 c A a w) (hK:∀ B a' w',aR c.P c.Y dr K (aB rest B)→b5 c B a' w'→Kw a' w'):o.wpIn c.bC 9 c.P a w Kw Q:=by
 have hop0:=hop;simp only[bl] at hwp;split at hwp
 case h_2=>cases hwp
 rename_i d;split at hwp
 case h_2=>cases hwp
 rename_i hf;unfold df at hop;split at hop <;>try (first | (simp at hop;done) | ((repeat' split at hop) <;>simp at hop;done))
 rename_i t ho;simp only[t7,bS.alloc.injEq] at hop;obtain ⟨z',hz,rfl⟩:=hop;exact (Ma ho hz af (hdn d rfl) hf).wp hop0 hsim (fun a' w' ab=>hK _ a' w' hwp ab)
theorem Vs{dr:Bool}{K:ai→Prop}{dst:Option Nat}{rest:List aH}{a:Act}{w:World}{Kw:Act→World→Prop}{Q:Exit→Act→World→Prop}{x:aO}(hop:df c.P o=some (.box x))(af:o.dst=dst)(hdn:∀ k,dst=some k→k<c.n)
  (hwp:aR c.P c.Y dr K (bl A dst (.box x) rest (aB rest))) (hsim:b5 c A a w) (hK:∀ B a' w',aR c.P c.Y dr K (aB rest B)→b5 c B a' w'→Kw a' w'):o.wpIn c.bC 9 c.P a w Kw Q:=by
 have hop0:=hop;simp only[bl] at hwp;split at hwp
 case h_2=>cases hwp
 rename_i d;split at hwp
 case h_2=>cases hwp
 rename_i hf;split at hwp
 case isFalse=>cases hwp
 rename_i hv;unfold df at hop;split at hop <;>try (first | (simp at hop;done) | ((repeat' split at hop) <;>simp at hop;done))
 rename_i t y ho;simp only[t7,bS.box.injEq] at hop;obtain ⟨z',hz,rfl⟩:=hop;exact (Mf ho hz hv af (hdn d rfl) hf).wp hop0 hsim (fun a' w' ab=>hK _ a' w' hwp ab)
theorem VE{dr:Bool}{K:ai→Prop}{dst:Option Nat}{rest:List aH}{a:Act}{w:World}{Kw:Act→World→Prop}{Q:Exit→Act→World→Prop}{s:Option Nat}{x v:aO}(hop:df c.P o=some (.bd s x v))(af:o.dst=dst)(hdn:∀ k,dst=some k→k<c.n)
  (hwp:aR c.P c.Y dr K (bl A dst (.bd s x v) rest (aB rest))) (hsim:b5 c A a w) (hK:∀ B a' w',aR c.P c.Y dr K (aB rest B)→b5 c B a' w'→Kw a' w'):o.wpIn c.bC 9 c.P a w Kw Q:=by
 have hop0:=hop;simp only[bl] at hwp;split at hwp
 case h_2=>cases hwp
 split at hwp
 case h_2=>cases hwp
 rename_i n p hp;split at hwp
 case h_2=>cases hwp
 rename_i b hb;split at hwp
 case h_2=>cases hwp
 rename_i old hat;split at hwp
 case isFalse=>cases hwp
 rename_i hok;unfold df at hop;split at hop <;>try (first | (simp at hop;done) | ((repeat' split at hop) <;>simp at hop;done))
 rename_i t y z ho;split at hop
 case h_2=>cases hop
 rename_i s' x' v' J U ah;split at hop
 case isFalse=>cases hop
 rename_i hk;simp only[v6,bS.bd.injEq] at hop;obtain ⟨rfl,rfl,rfl⟩:=hop;exact (Mm ho J hk U ah hp hb hat hok.1 hok.2.1 hok.2.2 af).wp hop0 hsim (fun a' w' ab=>hK _ a' w' hwp ab)
theorem Vt{dr:Bool}{K:ai→Prop}{dst:Option Nat}{rest:List aH}{a:Act}{w:World}{Kw:Act→World→Prop}{Q:Exit→Act→World→Prop}{f:FuncId}{args:List aO}(hop:df c.P o=some (.call f args))(af:o.dst=dst)(hdn:∀ k,dst=some k→k<c.n)
  (hwp:aR c.P c.Y dr K (bl A dst (.call f args) rest (aB rest))) (hsim:b5 c A a w) (hK:∀ B a' w',aR c.P c.Y dr K (aB rest B)→b5 c B a' w'→Kw a' w'):o.wpIn c.bC 9 c.P a w Kw Q:=by
 have hop0:=hop;simp only[bl] at hwp;unfold df at hop;split at hop <;>try (first | (simp at hop;done) | ((repeat' split at hop) <;>simp at hop;done))
 rename_i f' xs ts ho;split at hop
 case isFalse=>simp at hop
 simp only[t7,bS.call.injEq] at hop;obtain ⟨ys,hys,rfl,rfl⟩:=hop;refine u9 (vs:=xs.toList.map a.eval) hop0 rfl rfl (fun D E ab=>kL ab xs.toList ts.toList ys hys) hsim hwp af hdn (fun hc =>?_) hK;have e:xs.map a.eval=(xs.toList.map a.eval).toArray:=by apply Array.ext';simp
 simp only[execOp,ho,resolve,Act.eval,Deferred.ofValue,Sem.run_bind,Sem.run_pure,Result.andThen_ok,invoke,Array.append_empty,Array.empty_append,nd hc];rw[←e]
theorem VF{dr:Bool}{K:ai→Prop}{dst:Option Nat}{rest:List aH}{a:Act}{w:World}{Kw:Act→World→Prop}{Q:Exit→Act→World→Prop}{f:FuncId}{args:List aO}(hop:df c.P o=some (.j5 f args))(af:o.dst=dst)(hdn:∀ k,dst=some k→k<c.n)
  (hwp:aR c.P c.Y dr K (bl A dst (.j5 f args) rest (aB rest))) (hsim:b5 c A a w) (hK:∀ B a' w',aR c.P c.Y dr K (aB rest B)→b5 c B a' w'→Kw a' w'):o.wpIn c.bC 9 c.P a w Kw Q:=by
 have hop0:=hop;simp only[bl] at hwp;unfold df at hop;split at hop <;>try (first | (simp at hop;done) | ((repeat' split at hop) <;>simp at hop;done))
 rename_i f' xs ts ho;split at hop
 case isTrue=>simp at hop
 simp only[t7,bS.j5.injEq] at hop;obtain ⟨ys,hys,rfl,rfl⟩:=hop;obtain ⟨D,E,ab⟩:=hsim;cases hwp with
 |ext r hdr hx hw =>
  obtain ⟨v,g1,g2⟩:=hx c a w D E (xs.toList.map a.eval) rfl ab (kL ab xs.toList ts.toList ys hys);have e:xs.map a.eval=(xs.toList.map a.eval).toArray:=by apply Array.ext';simp
  have hrun:(execOp a.eval o).run c.P w=.ok (.value v) w:=by
   simp only[execOp,ho,resolve,Act.eval,Deferred.ofValue,Sem.run_bind,Sem.run_pure,Result.andThen_ok,invoke,Array.append_empty,Array.empty_append];rw[←e] at g1;exact g1
  refine ⟨kJ,?_⟩;rw[lj hop0,hrun,Oper.uponIn_value];exact hK _ _ _ hw ⟨D,E,by rw[af];exact ab.aS hdn g2⟩
theorem Vy{dr:Bool}{K:ai→Prop}{dst:Option Nat}{rest:List aH}{a:Act}{w:World}{Kw:Act→World→Prop}{Q:Exit→Act→World→Prop} (hop:df c.P o=some (.iD))(af:o.dst=dst)(hdn:∀ k,dst=some k→k<c.n)
  (hwp:aR c.P c.Y dr K (bl A dst (.iD) rest (aB rest))) (hsim:b5 c A a w) (hK:∀ B a' w',aR c.P c.Y dr K (aB rest B)→b5 c B a' w'→Kw a' w'):o.wpIn c.bC 9 c.P a w Kw Q:=by
 have hop0:=hop;simp only[bl] at hwp;split at hwp
 case h_2=>cases hwp
 rename_i d;split at hwp
 case h_2=>cases hwp
 rename_i hf;unfold df at hop;split at hop <;>try (first | (simp at hop;done) | ((repeat' split at hop) <;>simp at hop;done))
 rename_i t ho;exact (Mj ho af (hdn d rfl) hf).wp hop0 hsim (fun a' w' ab=>hK _ a' w' hwp ab)
theorem Vz{dr:Bool}{K:ai→Prop}{dst:Option Nat}{rest:List aH}{a:Act}{w:World}{Kw:Act→World→Prop}{Q:Exit→Act→World→Prop}{e:TypeId}{bytes:Nat}{z:I}{n:aO}(hop:df c.P o=some (.kj e bytes z n))(af:o.dst=dst)(hdn:∀ k,dst=some k→k<c.n)
  (hwp:aR c.P c.Y dr K (bl A dst (.kj e bytes z n) rest (aB rest))) (hsim:b5 c A a w) (hK:∀ B a' w',aR c.P c.Y dr K (aB rest B)→b5 c B a' w'→Kw a' w'):o.wpIn c.bC 9 c.P a w Kw Q:=by
 have hop0:=hop;simp only[bl] at hwp;split at hwp
 case h_2=>cases hwp
 rename_i d;split at hwp
 case h_2=>cases hwp
 rename_i hf;split at hwp
 case h_2=>cases hwp
 rename_i k m hn;split at hwp
 case isFalse=>cases hwp
 rename_i hc;unfold df at hop;split at hop <;>try (first | (simp at hop;done) | ((repeat' split at hop) <;>simp at hop;done))
 rename_i t l l' ho;split at hop
 case h_2=>cases hop
 rename_i e' n' hu aq;split at hop
 case h_2=>cases hop
 rename_i z' hz;split at hop
 case isFalse=>cases hop
 rename_i hc2;simp only[v6,bS.kj.injEq] at hop;obtain ⟨rfl,rfl,rfl,rfl⟩:=hop;obtain ⟨j,rfl⟩:=Int.eq_ofNat_of_zero_le hc.1;simp only[Int.toNat_natCast] at hc hwp;exact (Mk ho (Zc hc2.1) hu aq hn hz hc2.2.1 hc2.2.2 hc.2.1 hc.2.2 af (hdn d rfl) hf).wp hop0 hsim (fun a' w' ab=>hK _ a' w' hwp ab)
theorem VA{dr:Bool}{K:ai→Prop}{dst:Option Nat}{rest:List aH}{a:Act}{w:World}{Kw:Act→World→Prop}{Q:Exit→Act→World→Prop}{ty:cJ}{m k v:aO}(hop:df c.P o=some (.eT ty m k v))(af:o.dst=dst)(hdn:∀ k,dst=some k→k<c.n)
  (hwp:aR c.P c.Y dr K (bl A dst (.eT ty m k v) rest (aB rest))) (hsim:b5 c A a w) (hK:∀ B a' w',aR c.P c.Y dr K (aB rest B)→b5 c B a' w'→Kw a' w'):o.wpIn c.bC 9 c.P a w Kw Q:=by
 have hop0:=hop;simp only[bl] at hwp;split at hwp
 case h_2=>cases hwp
 split at hwp
 case h_2=>cases hwp
 rename_i n hm;split at hwp
 case h_2=>cases hwp
 rename_i ks vs hn;split at hwp
 case h_2=>cases hwp
 rename_i ks' vs' aq;unfold df at hop;split at hop <;>try (first | (simp at hop;done) | ((repeat' split at hop) <;>simp at hop;done))
 all_goals
  rename_i t mo ko vo ho;split at hop
  case h_2=>cases hop
  rename_i kt et m' k' hu J U;split at hop
  case h_2=>cases hop
  rename_i ty' v' hk ah;simp only[v6,bS.eT.injEq] at hop;obtain ⟨rfl,rfl,rfl,rfl⟩:=hop
 ·exact (AR (.inl ho) hu hk J U ah hm hn aq af).wp hop0 hsim (fun a' w' ab=>hK _ a' w' hwp ab)
 ·exact (AR (.inr ho) hu hk J U ah hm hn aq af).wp hop0 hsim (fun a' w' ab=>hK _ a' w' hwp ab)
theorem Vx{dr:Bool}{K:ai→Prop}{dst:Option Nat}{rest:List aH}{a:Act}{w:World}{Kw:Act→World→Prop}{Q:Exit→Act→World→Prop}{ty:cJ}{m k:aO}(hop:df c.P o=some (.iC ty m k))(af:o.dst=dst)(hdn:∀ k,dst=some k→k<c.n)
  (hwp:aR c.P c.Y dr K (bl A dst (.iC ty m k) rest (aB rest))) (hsim:b5 c A a w) (hK:∀ B a' w',aR c.P c.Y dr K (aB rest B)→b5 c B a' w'→Kw a' w'):o.wpIn c.bC 9 c.P a w Kw Q:=by
 have hop0:=hop;simp only[bl] at hwp;split at hwp
 case h_2=>cases hwp
 split at hwp
 case h_2=>cases hwp
 rename_i n hm;split at hwp
 case h_2=>cases hwp
 rename_i ks vs hn;split at hwp
 case h_2=>cases hwp
 rename_i ks' vs' aq;unfold df at hop;split at hop <;>try (first | (simp at hop;done) | ((repeat' split at hop) <;>simp at hop;done))
 rename_i args tys ho;split at hop
 case h_2=>cases hop
 rename_i mo ko t t' ha ht;split at hop
 case h_2=>cases hop
 rename_i kt et m' k' hu J U;simp only[t7,bS.iC.injEq] at hop;obtain ⟨ty',hk,rfl,rfl,rfl⟩:=hop;have ha':args = #[mo,ko]:=by apply Array.ext';simpa using ha
 have ht':tys = #[t,t']:=by apply Array.ext';simpa using ht
 subst ha' ht';exact (Mi ho hu hk J U hm hn aq af).wp hop0 hsim (fun a' w' ab=>hK _ a' w' hwp ab)
theorem VD{dr:Bool}{K:ai→Prop}{dst:Option Nat}{rest:List aH}{a:Act}{w:World}{Kw:Act→World→Prop}{Q:Exit→Act→World→Prop}{x:aO}(hop:df c.P o=some (.jz x))(af:o.dst=dst)(hdn:∀ k,dst=some k→k<c.n)
  (hwp:aR c.P c.Y dr K (bl A dst (.jz x) rest (aB rest))) (hsim:b5 c A a w) (hK:∀ B a' w',aR c.P c.Y dr K (aB rest B)→b5 c B a' w'→Kw a' w'):o.wpIn c.bC 9 c.P a w Kw Q:=by
 have hop0:=hop;simp only[bl] at hwp;split at hwp
 case h_2=>cases hwp
 rename_i d;split at hwp
 case h_2=>cases hwp
 rename_i hf;split at hwp
 case h_2=>cases hwp
 rename_i ks vs hx;unfold df at hop;split at hop <;>try (first | (simp at hop;done) | ((repeat' split at hop) <;>simp at hop;done))
 rename_i t y ho;split at hop
 case h_2=>cases hop
 rename_i kt et hu;simp only[t7,bS.jz.injEq] at hop;obtain ⟨z,hz,rfl⟩:=hop;exact (Ml ho hu hz hx af (hdn d rfl) hf).wp hop0 hsim (fun a' w' ab=>hK _ a' w' hwp ab)
theorem VC{dr:Bool}{K:ai→Prop}{dst:Option Nat}{rest:List aH}{a:Act}{w:World}{Kw:Act→World→Prop}{Q:Exit→Act→World→Prop}{x:aO}(hop:df c.P o=some (.ic x))(af:o.dst=dst)(hdn:∀ k,dst=some k→k<c.n)
  (hwp:aR c.P c.Y dr K (bl A dst (.ic x) rest (aB rest))) (hsim:b5 c A a w) (hK:∀ B a' w',aR c.P c.Y dr K (aB rest B)→b5 c B a' w'→Kw a' w'):o.wpIn c.bC 9 c.P a w Kw Q:=by
 have hop0:=hop;simp only[bl] at hwp;split at hwp
 case h_2=>cases hwp
 rename_i n hx;split at hwp
 case h_2=>cases hwp
 rename_i ks vs left cur hn;unfold df at hop;split at hop <;>try (first | (simp at hop;done) | ((repeat' split at hop) <;>simp at hop;done))
 rename_i y ho;simp only[t7,bS.ic.injEq] at hop;obtain ⟨z,hz,rfl⟩:=hop;obtain ⟨D,E,ab⟩:=hsim;obtain ⟨w',v,hrun,hor⟩:=Xg ho hz hx hn (by rw[af];exact hdn) ab;refine ⟨kJ,?_⟩;rw[lj hop0,hrun,Oper.uponIn_value];rw[af] at hor;split at hwp
 ·rename_i aq;rcases hor with ⟨_,hor⟩ | ⟨i,k,x,hi,_⟩
  ·exact hK _ _ _ hwp (by rw[af];exact hor)
  ·rw[aq] at hi;cases hi
 ·rename_i aq;rcases hor with ⟨h,_⟩ | ⟨i,k,x,hi,hk,hx,hor⟩
  ·exact absurd h aq
  ·cases hwp with
   |any hdr hall =>
    have:=hall i hi;simp only[hk,hx] at this;exact hK _ _ _ this (by rw[af];exact hor)
theorem Vu{dr:Bool}{K:ai→Prop}{dst:Option Nat}{rest:List aH}{a:Act}{w:World}{Kw:Act→World→Prop}{Q:Exit→Act→World→Prop}{x:aO}{args:List aO}(hop:df c.P o=some (.fH x args))(af:o.dst=dst)(hdn:∀ k,dst=some k→k<c.n)
  (hwp:aR c.P c.Y dr K (bl A dst (.fH x args) rest (aB rest))) (hsim:b5 c A a w) (hK:∀ B a' w',aR c.P c.Y dr K (aB rest B)→b5 c B a' w'→Kw a' w'):o.wpIn c.bC 9 c.P a w Kw Q:=by
 have hop0:=hop;simp only[bl] at hwp;unfold df at hop;split at hop <;>try (first | (simp at hop;done) | ((repeat' split at hop) <;>simp at hop;done))
 rename_i y xs ts _ ho;split at hop
 case h_2=>cases hop
 rename_i y' ys J U;simp only[v6,bS.fH.injEq] at hop;obtain ⟨rfl,rfl⟩:=hop;obtain ⟨D,E,ab⟩:=hsim;have hv:=bX ab J;split at hwp
 ·rename_i f caps hx;rw[hx] at hv;obtain ⟨cs,q1,q2⟩:=hv;simp only[al] at q2;obtain ⟨vs,q3,q4⟩:=q2;have hval:a.eval y=jr f vs:=by simpa[bD,I.isAgg,q3] using q1.symm
  have caps_ok:∀ D' E',aU c A a w D' E'→fE (aZ w D' E') caps vs:=fun D' E' hs'=>by
   have hv':=bX hs' J;rw[hx] at hv';obtain ⟨cs',q1',q2'⟩:=hv';simp only[al] at q2';obtain ⟨vs',q3',q4'⟩:=q2';have hval':a.eval y=jr f vs':=by simpa[bD,I.isAgg,q3'] using q1'.symm
   rw[hval] at hval';have:=M9 hval';subst this;exact rK q4'
  have e:xs.map a.eval=(xs.toList.map a.eval).toArray:=by apply Array.ext';simp
  rcases Nat.lt_or_ge f 1000000 with hf | hf
  ·rw[vD hf,vC hf] at hwp;rw[mG hf] at hval;refine u9 (vs:=xs.toList.map a.eval++vs) hop0 rfl rfl (fun D' E' hs'=>(kL hs' xs.toList ts.toList ys U).append (caps_ok D' E' hs')) ⟨D,E,ab⟩ hwp af hdn (fun hc =>?_) hK;simp only[execOp,ho,resolve,hval,Deferred.ofValue,Sem.run_bind,Sem.run_pure,Result.andThen_ok,invoke,Array.empty_append,nd hc];rw[e];simp
  ·obtain ⟨g,rfl⟩:∃ g:Nat,f=g+1000000:=⟨Nat.sub f 1000000,(Nat.sub_add_cancel hf).symm⟩
   rw[sI,vB] at hwp;rw[qv] at hval;refine u9 (vs:=vs++xs.toList.map a.eval) hop0 rfl rfl (fun D' E' hs'=>(caps_ok D' E' hs').append (kL hs' xs.toList ts.toList ys U)) ⟨D,E,ab⟩ hwp af hdn (fun hc =>?_) hK;simp only[execOp,ho,resolve,hval,Deferred.ofValue,Sem.run_bind,Sem.run_pure,Result.andThen_ok,invoke,Array.append_empty,nd hc];rw[e];simp
 ·rename_i u hx;rw[hx] at hv;obtain ⟨cs,q1,q2⟩:=hv;simp only[al] at q2;have hval:a.eval y=u:=by simpa[bD,I.isAgg,q2.1] using q1.symm
  refine Ja (vs:=xs.toList.map a.eval) hop0 (fun D' E' hs'=>kL hs' xs.toList ts.toList ys U) ⟨D,E,ab⟩ hwp af hdn (fun l aq =>?_) hK;subst aq;have e:xs.map a.eval=(xs.toList.map a.eval).toArray:=by apply Array.ext';simp
  simp only[execOp,ho,resolve,hval,Deferred.ofValue,Sem.run_bind,Sem.run_pure,Result.andThen_ok,invoke,Array.empty_append];rw[e]
 ·cases hwp
theorem VB{dr:Bool}{K:ai→Prop}{dst:Option Nat}{rest:List aH}{a:Act}{w:World}{Kw:Act→World→Prop}{Q:Exit→Act→World→Prop}{neg:Bool}{x:aO}(hop:df c.P o=some (.nilS neg x))(af:o.dst=dst)(hdn:∀ k,dst=some k→k<c.n)
  (hwp:aR c.P c.Y dr K (bl A dst (.nilS neg x) rest (aB rest))) (hsim:b5 c A a w) (hK:∀ B a' w',aR c.P c.Y dr K (aB rest B)→b5 c B a' w'→Kw a' w'):o.wpIn c.bC 9 c.P a w Kw Q:=by
 have hop0:=hop;simp only[bl] at hwp;split at hwp
 case isFalse=>exact BO hop af hdn hsim hK hwp
 rename_i hu;cases hwp with
 |any hdr hall =>
 unfold df at hop;split at hop <;>try (first | (simp at hop;done) | ((repeat' split at hop) <;>simp at hop;done))
 rename_i bop t y z yt ho;split at hop
 ·simp at hop
 ·simp at hop
 ·rename_i e y' z' hut J U;split at hop
  ·rename_i s;split at hop
   ·rename_i hopp;simp only[v6,bS.nilS.injEq] at hop;obtain ⟨rfl,rfl⟩:=hop;have ho':o.op=.binOp (if (bop==.neq)=true then .neq else .eql) t y z yt:=by
     rcases hopp with rfl | rfl <;>simpa using ho
    obtain ⟨D,E,ab⟩:=hsim;have hund:∃ sz,ak A y'=.slice sz []∨ak A y'=.c0 sz:=by
     generalize ak A y'=q at hu;cases q <;>simp only[jD,Z2,List.isEmpty_iff] at hu
     ·rename_i sz;exact ⟨sz,.inr rfl⟩
     ·rename_i sz es;subst hu;exact ⟨sz,.inl rfl⟩
    obtain ⟨b,hrun⟩:=Xh ho' hut J U hund ab;refine ⟨kJ,?_⟩;rw[lj hop0,hrun,Oper.uponIn_value];have hb:=hall (if b then 0 else 1) (by cases b <;>simp);refine hK _ _ _ hb ⟨D,E,?_⟩;rw[af];have e:((if b=true then (0:Nat) else 1)==0)=b:=by cases b <;>rfl
    rw[e];exact ab.aS hdn (nT b)
   ·cases hop
  ·cases hop
 ·split at hop <;>simp at hop
 ·split at hop <;>simp at hop
 ·cases hop
theorem Vq{dr:Bool}{K:ai→Prop}{dst:Option Nat}{rest:List aH}{a:Act}{w:World}{Kw:Act→World→Prop}{Q:Exit→Act→World→Prop}{e:TypeId}{esz bytes:Nat}{z:I}{s x:aO}(hop:df c.P o=some (.dn e esz bytes z s x))(af:o.dst=dst)(hdn:∀ k,dst=some k→k<c.n)
  (hwp:aR c.P c.Y dr K (bl A dst (.dn e esz bytes z s x) rest (aB rest))) (hsim:b5 c A a w) (hK:∀ B a' w',aR c.P c.Y dr K (aB rest B)→b5 c B a' w'→Kw a' w'):o.wpIn c.bC 9 c.P a w Kw Q:=by
 have hop0:=hop;simp only[bl] at hwp;unfold df at hop;split at hop <;>try (first | (simp at hop;done) | ((repeat' split at hop) <;>simp at hop;done))
 rename_i args tys ho;split at hop
 case h_2=>cases hop
 rename_i y q t t' ha ht;split at hop
 case h_2=>cases hop
 rename_i e' s' x' k1 k2 k3;split at hop
 case isFalse=>split at hop <;>simp at hop
 rename_i hk;simp only[t7,bS.dn.injEq] at hop;obtain ⟨zz,hz1,rfl,rfl,rfl,rfl,rfl,rfl⟩:=hop;obtain ⟨rfl,hk2,hk3⟩:=hk;have ha':args = #[y,q]:=by apply Array.ext';simpa using ha
 have ht':tys = #[t,t]:=by apply Array.ext';simpa using ht
 subst ha' ht';rw[hz1] at hk3;simp only[zz0,v6] at hk3;have hinfo:(c.P.info? e').isSome=true:=by
  obtain ⟨ti,_,hti,_⟩:=lz hz1;rw[hti];rfl
 have grow:∀ es ys,eJ A (c.P.cellsOf e') (ak A s')=some es→eJ A (c.P.cellsOf e') (ak A x')=some ys→ys≠[]→(∀ a w D E,aU c A a w D E→∀ ad l cp,a.eval y=.slice ad l cp→cp<l+ys.length) →
   aR c.P c.Y dr K (fW A dst (c.P.cellsOf e') (c.P.bytesOf e') zz es ys (aB rest))→o.wpIn c.bC 9 c.P a w Kw Q:=fun es ys hse hsx hne hfull h=>by
  simp only[fW] at h;split at h
  case h_2=>cases h
  rename_i d;split at h
  case h_2=>cases h
  rename_i hf;split at h
  case isFalse=>cases h
  rename_i hb;cases h with
  |any hdr hall =>
   obtain ⟨D,E,ab⟩:=hsim;obtain ⟨v,w',m,g1,g2,g3⟩:=Hl ho k1 k2 k3 hz1 hk3 hse hsx hb.1 af (hdn d rfl) hf hne ab (hfull a w D E ab) hb.2;refine ⟨kJ,?_⟩;rw[lj hop0,g1,Oper.uponIn_value,af];rw[af] at g3;exact hK _ _ _ (hall m g2) g3
 split at hwp
 ·rename_i n l hs';split at hwp
  case h_2=>cases hwp
  rename_i sz ys hx';split at hwp
  case h_3=>cases hwp
  case h_2 =>
   rename_i T xs hn;split at hwp
   case isFalse=>cases hwp
   rename_i hok;obtain ⟨J,U,ah,ar,h5,h6,h7,h8⟩:=hok;subst ah ar;have hl5:ys.length=(qF ys).length:=(congrArg List.length h5).trans (by simp);rw[hl5] at h7 h8 hwp;rw[h5] at hx';have hd':=Mc (o:=o) ho k1 k2 k3 hz1 U hs' hn J hx' (fun e=>h6 (by rw[h5,e];rfl)) h7 h8 (by rw[af];exact hdn);exact hd'.wp hop0 hsim (fun a' w' ab=>by rw[af] at ab;exact hK _ a' w' hwp ab)
  rename_i T sz' es hn;split at hwp
  case isFalse=>cases hwp
  rename_i hok;obtain ⟨J,U,ah,ar,h5,h6,h7⟩:=hok;subst U ah ar;have hd':=Mb (o:=o) ho k1 k2 k3 hz1 hk3 hk2 hs' hn J hx' rfl h5 h6 h7 (by rw[af];exact hdn);exact hd'.wp hop0 hsim (fun a' w' ab=>by rw[af] at ab;exact hK _ a' w' hwp ab)
 ·simp only[e6] at hwp;split at hwp
  case h_2=>cases hwp
  rename_i es ys hse hsx;split at hwp
  ·rename_i hne;subst hne;exact ((Me ho k1 hinfo k2 k3 hse hsx).does (by rw[af];exact hdn)).wp hop0 hsim (fun a' w' ab=>by rw[af] at ab;exact hK _ a' w' hwp ab)
  ·rename_i hne;have hpos:0<ys.length:=List.length_pos_iff.2 hne;split at hwp
   ·rename_i z0 hsv;refine grow es ys hse hsx hne (fun a w D E ab ad l cp hv =>?_) hwp;have aW:=bX ab k2;rw[hsv] at aW;obtain ⟨cs,q1,q2⟩:=aW;simp only[al] at q2;have:a.eval y=.slice none 0 0:=by simpa[bD,I.isAgg,q2] using q1.symm
    rw[this] at hv;simp only[Value.slice.injEq] at hv;omega
   ·rename_i z0 hsv;refine grow es ys hse hsx hne (fun a w D E ab ad l cp hv =>?_) hwp;have aW:=bX ab k2;rw[hsv] at aW;obtain ⟨cs,q1,q2⟩:=aW;simp only[al] at q2;obtain ⟨ad',q2⟩:=q2;have:a.eval y=.slice ad' 0 0:=by simpa[bD,I.isAgg,q2] using q1.symm
    rw[this] at hv;simp only[Value.slice.injEq] at hv;omega
   ·rename_i n p sz lo l hsv;split at hwp
    case h_2=>cases hwp
    rename_i b hn;split at hwp
    case h_2=>cases hwp
    rename_i fs hat;split at hwp
    ·rename_i hroom;split at hwp
     case isFalse=>cases hwp
     rename_i hok;obtain ⟨rfl,hsh⟩:=hok;exact (Md ho k1 hinfo k2 k3 hsv hn hat hsx hroom hsh (by rw[af];exact hdn)).wp hop0 hsim (fun a' w' ab=>by rw[af] at ab;exact hK _ a' w' hwp ab)
    ·rename_i hroom;refine grow es ys hse hsx hne (fun a w D E ab ad l' cp hv =>?_) hwp;have aW:=bX ab k2;rw[hsv] at aW;obtain ⟨_,bb,cs,T,off,c1,c2,c3,_,_,_,_,_,_,_,_,_,_,r1,n5,tE⟩:=ab.view (fs:=fs) aW (by simp only[cM,hn,hat]);rw[tE] at hv;simp only[Value.slice.injEq] at hv;omega
   ·cases hwp
theorem Vr{dr:Bool}{K:ai→Prop}{dst:Option Nat}{rest:List aH}{a:Act}{w:World}{Kw:Act→World→Prop}{Q:Exit→Act→World→Prop}{e:TypeId}{esz bytes:Nat}{z:I}{s n:aO}(hop:df c.P o=some (.lD e esz bytes z s n))(af:o.dst=dst)(hdn:∀ k,dst=some k→k<c.n)
  (hwp:aR c.P c.Y dr K (bl A dst (.lD e esz bytes z s n) rest (aB rest))) (hsim:b5 c A a w) (hK:∀ B a' w',aR c.P c.Y dr K (aB rest B)→b5 c B a' w'→Kw a' w'):o.wpIn c.bC 9 c.P a w Kw Q:=by
 have hop0:=hop;simp only[bl] at hwp;unfold df at hop;split at hop <;>try (first | (simp at hop;done) | ((repeat' split at hop) <;>simp at hop;done))
 rename_i args tys ho;split at hop
 case h_2=>cases hop
 rename_i y q t t' ha ht;split at hop
 case h_2=>cases hop
 rename_i e' s' x' k1 k2 k3;split at hop
 case isTrue=>simp at hop
 split at hop
 case isFalse=>cases hop
 rename_i hk;simp only[t7,bS.lD.injEq] at hop;obtain ⟨zz,hz1,rfl,rfl,rfl,rfl,rfl,rfl⟩:=hop;obtain ⟨hint,hk2,hk3⟩:=hk;have ha':args = #[y,q]:=by apply Array.ext';simpa using ha
 have ht':tys = #[t,t']:=by apply Array.ext';simpa using ht
 subst ha' ht';rw[hz1] at hk3;simp only[zz0,v6] at hk3;obtain ⟨kt,hkt⟩:∃ kt,c.P.underlying t'=some (.int kt):=by
  cases hu:c.P.underlying t' with
  |none=>rw[hu] at hint;cases hint
  |some dsc=>cases dsc <;>rw[hu] at hint <;>first | exact ⟨_,rfl⟩ | cases hint
 split at hwp
 case h_2=>cases hwp
 rename_i kx bW hx';simp only[uK] at hwp;split at hwp
 case h_2=>cases hwp
 rename_i es hse;split at hwp
 case h_2=>cases hwp
 rename_i nn p sz lo l hsv;split at hwp
 case h_2=>cases hwp
 rename_i bb hn;split at hwp
 case h_2=>cases hwp
 rename_i fs hat;split at hwp
 case isFalse=>cases hwp
 rename_i hroom;simp only[fW] at hwp;split at hwp
 case h_2=>cases hwp
 rename_i d;split at hwp
 case h_2=>cases hwp
 rename_i hf;split at hwp
 case isFalse=>cases hwp
 rename_i hb;rw[List.length_replicate] at hb;cases hwp with
 |any hdr hall =>
  obtain ⟨D,E,ab⟩:=hsim;obtain ⟨v,w',m,g1,g2,g3⟩:=Hm ho k1 k2 k3 hkt hx' rfl hroom.1 hk2 hz1 hk3 hse hb.1 af (hdn d rfl) hf ab (fun ad l' cp hv=>by
   have aW:=bX ab k2;rw[hsv] at aW;have hsv':=hse;obtain ⟨_,b1,cs,T,off,c1,c2,c3,_,_,_,_,_,_,_,_,_,_,r1,n5,tE⟩:=ab.view (fs:=fs) aW (by simp only[cM,hn,hat]);rw[tE] at hv;simp only[Value.slice.injEq] at hv;have hel:es.length=l:=by
    rw[hsv] at hse;simp only[eJ,cM,hn,hat] at hse;split at hse
    ·simp only[v6] at hse;rw[←hse,zy9,List.length_drop];omega
    ·cases hse
   omega) hb.2
  refine ⟨kJ,?_⟩;rw[lj hop0,g1,Oper.uponIn_value,af];rw[af] at g3;have:=hall m (by rw[List.length_replicate];exact g2);rw[List.length_replicate] at this;exact hK _ _ _ this g3
theorem Vv{dr:Bool}{K:ai→Prop}{dst:Option Nat}{rest:List aH}{a:Act}{w:World}{Kw:Act→World→Prop}{Q:Exit→Act→World→Prop}{esz:Nat}{z:I}{x:aO}(hop:df c.P o=some (.jJ esz z x))(af:o.dst=dst)(hdn:∀ k,dst=some k→k<c.n)
  (hwp:aR c.P c.Y dr K (bl A dst (.jJ esz z x) rest (aB rest))) (hsim:b5 c A a w) (hK:∀ B a' w',aR c.P c.Y dr K (aB rest B)→b5 c B a' w'→Kw a' w'):o.wpIn c.bC 9 c.P a w Kw Q:=by
 have hop0:=hop;simp only[bl] at hwp;split at hwp
 case h_2=>cases hwp
 unfold df at hop;split at hop <;>try (first | (simp at hop;done) | ((repeat' split at hop) <;>simp at hop;done))
 rename_i args tys ho;split at hop
 case h_2=>cases hop
 rename_i y t ha ht;split at hop
 case h_2=>cases hop
 rename_i e' x' k1 k2;simp only[t7,bS.jJ.injEq] at hop;obtain ⟨zz,hz1,rfl,rfl,rfl⟩:=hop;have ha':args = #[y]:=by apply Array.ext';simpa using ha
 have ht':tys = #[t]:=by apply Array.ext';simpa using ht
 subst ha' ht';have nothing:aR c.P c.Y dr K (aB rest A)→(∀ a w D E,aU c A a w D E→∃ ad cp,a.eval y=.slice ad 0 cp)→o.wpIn c.bC 9 c.P a w Kw Q:=fun h hv=>by
  obtain ⟨D,E,ab⟩:=hsim;obtain ⟨ad,cp,hv⟩:=hv a w D E ab;refine ⟨kJ,?_⟩;have hrun:(execOp a.eval o).run c.P w=.ok (.value (.tuple #[])) w:=by
   cases ad <;>simp[execOp,ho,resolve,invoke,builtin,Builtin.clear_,run_underlying k1,hv]
  rw[lj hop0,hrun,Oper.uponIn_value,af];exact hK _ _ _ h ⟨D,E,ab⟩
 unfold oU at hwp;split at hwp
 ·rename_i n p sz lo l hv;split at hwp
  case h_2=>cases hwp
  rename_i b hn;split at hwp
  case h_2=>cases hwp
  rename_i fs hat;split at hwp
  case isFalse=>cases hwp
  rename_i hok;obtain ⟨rfl,hsh⟩:=hok;exact (Mg ho k1 k2 hz1 hv hn hat hsh af).wp hop0 hsim (fun a' w' ab=>hK _ a' w' hwp ab)
 ·rename_i z0 hv;refine nothing hwp fun a w D E ab =>?_;have aW:=bX ab k2;rw[hv] at aW;obtain ⟨cs,q1,q2⟩:=aW;simp only[al] at q2;exact ⟨none,0,by simpa[bD,I.isAgg,q2] using q1.symm⟩
 ·rename_i z0 hv;refine nothing hwp fun a w D E ab =>?_;have aW:=bX ab k2;rw[hv] at aW;obtain ⟨cs,q1,q2⟩:=aW;simp only[al] at q2;obtain ⟨ad,q2⟩:=q2;exact ⟨ad,0,by simpa[bD,I.isAgg,q2] using q1.symm⟩
 ·cases hwp
theorem Vw{dr:Bool}{K:ai→Prop}{dst:Option Nat}{rest:List aH}{a:Act}{w:World}{Kw:Act→World→Prop}{Q:Exit→Act→World→Prop}{esz:Nat}{x y:aO}(hop:df c.P o=some (.kQ esz x y))(af:o.dst=dst)(hdn:∀ k,dst=some k→k<c.n)
  (hwp:aR c.P c.Y dr K (bl A dst (.kQ esz x y) rest (aB rest))) (hsim:b5 c A a w) (hK:∀ B a' w',aR c.P c.Y dr K (aB rest B)→b5 c B a' w'→Kw a' w'):o.wpIn c.bC 9 c.P a w Kw Q:=by
 have hop0:=hop;simp only[bl] at hwp;unfold df at hop;split at hop <;>try (first | (simp at hop;done) | ((repeat' split at hop) <;>simp at hop;done))
 rename_i args tys ho;split at hop
 case h_2=>cases hop
 rename_i u v t t' ha ht;split at hop
 case h_2=>cases hop
 rename_i e' x' y' k1 k2 k3;split at hop
 case isFalse=>cases hop
 rename_i hk;simp only[v6,bS.kQ.injEq] at hop;obtain ⟨rfl,rfl,rfl⟩:=hop;obtain ⟨rfl,hinfo⟩:=hk;have ha':args = #[u,v]:=by apply Array.ext';simpa using ha
 have ht':tys = #[t,t]:=by apply Array.ext';simpa using ht
 subst ha' ht';unfold sC at hwp;split at hwp
 ·rename_i n p sz lo l ys hv hsx;split at hwp
  case h_2=>cases hwp
  rename_i b hn;split at hwp
  case h_2=>cases hwp
  rename_i fs hat;split at hwp
  case isFalse=>cases hwp
  rename_i hok;obtain ⟨rfl,hsh⟩:=hok;exact (Mh ho k1 hinfo k2 k3 hv hn hat hsx rfl hsh (by rw[af];exact hdn)).wp hop0 hsim (fun a' w' ab=>by rw[af] at ab;exact hK _ a' w' hwp ab)
 ·cases hwp
theorem sP{dr:Bool}{K:ai→Prop}{op:bS}{dst:Option Nat}{rest:List aH}{a:Act}{w:World}{Kw:Act→World→Prop}{Q:Exit→Act→World→Prop}(hop:df c.P o=some op)(af:o.dst=dst)(hdn:∀ k,dst=some k→k<c.n)
  (hwp:aR c.P c.Y dr K (bl A dst op rest (aB rest))) (hsim:b5 c A a w) (hK:∀ B a' w',aR c.P c.Y dr K (aB rest B)→b5 c B a' w'→Kw a' w'):o.wpIn c.bC 9 c.P a w Kw Q:=by
 cases op with
 |alloc z=>exact Vp hop af hdn hwp hsim hK
 |box x=>exact Vs hop af hdn hwp hsim hK
 |bd s x v=>exact VE hop af hdn hwp hsim hK
 |call f args=>exact Vt hop af hdn hwp hsim hK
 |j5 f args=>exact VF hop af hdn hwp hsim hK
 |iD=>exact Vy hop af hdn hwp hsim hK
 |kj e bytes z n=>exact Vz hop af hdn hwp hsim hK
 |eT ty m k v=>exact VA hop af hdn hwp hsim hK
 |iC ty m k=>exact Vx hop af hdn hwp hsim hK
 |jz x=>exact VD hop af hdn hwp hsim hK
 |ic x=>exact VC hop af hdn hwp hsim hK
 |fH x args=>exact Vu hop af hdn hwp hsim hK
 |nilS neg x=>exact VB hop af hdn hwp hsim hK
 |dn e esz bytes z s x=>exact Vq hop af hdn hwp hsim hK
 |lD e esz bytes z s n=>exact Vr hop af hdn hwp hsim hK
 |jJ esz z x=>exact Vv hop af hdn hwp hsim hK
 |kQ esz x y=>exact Vw hop af hdn hwp hsim hK
 |_=>exact BO hop af hdn hsim hK (by simpa only[bl] using hwp)
theorem sV{j t:Nat}{aV:Array Oper}{a:Act}{w:World}{b b':Bool}(ab:b5 c A a w)(hg:o.guard=some (j,b))(ht:(aV[j]?).bind (·.dst)=some t)(hv:A.t t=.bool b'):Region.wanted o (yielded aV a.tmps)=(b'==b):=by
 obtain ⟨D,E,ab⟩:=ab;have h:=ab.dR t;rw[hv] at h;have h:=kv h;have hy:yielded aV a.tmps j=some b':=by
  unfold yielded;rw[ht];simp only[Option.bind_some];simp only[Array.getD_eq_getD_getElem?] at h;cases bH:a.tmps[t]? with
  |none=>simp[bH,undef] at h
  |some v=>simp only[bH,Option.getD_some] at h;subst h;rfl
 unfold Region.wanted;rw[hg];simp only[hy];cases b <;>cases b' <;>rfl
theorem sW{j t:Nat}{aV:Array Oper}{a:Act}{w:World}{b:Bool}(ab:b5 c A a w)(hg:o.guard=some (j,b))(ht:(aV[j]?).bind (·.dst)=some t)(hv:A.t t=.undef):Region.wanted o (yielded aV a.tmps)=false:=by
 obtain ⟨D,E,ab⟩:=ab;have h:=ab.dR t;rw[hv] at h;simp only[aZ] at h;have hy:yielded aV a.tmps j=none:=by
  unfold yielded;rw[ht];simp only[Option.bind_some];simp only[Array.getD_eq_getD_getElem?] at h;cases bH:a.tmps[t]? with
  |none=>rfl
  |some v=>simp only[bH,Option.getD_some] at h;subst h;rfl
 unfold Region.wanted;rw[hg];simp only[hy];rfl
theorem b5.mY{a:Act}{w:World}(h:b5 c A a w){d:Option Nat}(af:∀ k,d=some k→k<c.n):b5 c (A.aS d .undef) (a.put d undef) w:=by
 obtain ⟨D,E,h⟩:=h;exact ⟨D,E,h.aS af (by simp[aZ])⟩
theorem sU{dr:Bool}{K:ai→Prop}{aV:Array Oper}{Q:Exit→Act→World→Prop}(hQ:∀ B a w,K B→b5 c B a w→Q .normal a w):∀ (l:List Oper) (gs:List aH) (A:ai) (a:Act) (w:World),fO c.P c.n aV l=some gs→aR c.P c.Y dr K (aB gs A) →
  b5 c A a w→wpListIn c.bC 9 c.P aV Q l a w
 | [],gs,A,a,w,hc,hwp,ab=>by
  simp only[fO,v6] at hc;subst hc;simp only[aB] at hwp;cases hwp with
  |done hk=>exact hQ A a w hk ab
 |o::l,gs,A,a,w,hc,hwp,ab=>by
  simp only[fO] at hc;split at hc
  case h_2=>cases hc
  rename_i g gs' hg hgs;simp only[v6] at hc;subst hc;obtain ⟨J,U,ah,ar⟩:=nB hg;have step:aR c.P c.Y dr K (bl A g.dst g.op gs' (aB gs'))→o.wpIn c.bC 9 c.P a w (wpListIn c.bC 9 c.P aV Q l) Q:=fun h =>
   sP J U.symm (by rw[U];exact ah) h ab (fun B a' w' hw hs'=>sU hQ l gs' B a' w' hgs hw hs')
  simp only[wpListIn];simp only[aB] at hwp;rcases ar with ⟨h5,h6⟩ | ⟨j,b,t,h5,h6,h7⟩
  ·rw[h6] at hwp;have hw:Region.wanted o (yielded aV a.tmps)=true:=by simp[Region.wanted,h5]
   rw[hw,if_pos rfl];exact step hwp
  ·rw[h7] at hwp;simp only at hwp;split at hwp
   ·rename_i b' hb';rw[sV ab h5 h6 hb'];split at hwp
    ·rename_i hbb;subst hbb;simp only[BEq.rfl,if_true];exact step hwp
    ·rename_i hbb;have:(b'==b)=false:=by simpa using hbb
     rw[this];simp only[Z2,if_false];exact ⟨fun f _=>lN c f,sU hQ l gs' _ _ w hgs hwp (by rw[U];exact ab.mY ah)⟩
   ·rename_i hb';rw[sW ab h5 h6 hb'];simp only[Z2,if_false];exact ⟨fun f _=>lN c f,sU hQ l gs' _ _ w hgs hwp (by rw[U];exact ab.mY ah)⟩
   ·cases hwp
end
def aO.sl:aO→List Nat
 | .t n=>[n]
 | .c _=>[]
def tn:Option aO→List Nat
 |some x=>x.sl
 |none=>[]
def jB(l:List aO):List Nat:=l.flatMap aO.sl
def bS.da:bS→List Nat
 | .mv x=>x.sl
 | .pick c a b=>c.sl++(a.sl++b.sl)
 | .bin _ x y=>x.sl++y.sl
 | .eqv _ _ x y=>x.sl++y.sl
 | .nilS _ x=>x.sl
 | .conv _ x=>x.sl
 | .un _ x=>x.sl
 | .ld _ x=>x.sl
 | .fa _ _ x=>x.sl
 | .fl _ _ _ x=>x.sl
 | .ia _ _ x i=>x.sl++i.sl
 | .is _ x i=>x.sl++i.sl
 | .ix _ _ _ x i=>x.sl++i.sl
 | .len x=>x.sl
 | .lenT x=>x.sl
 | .va _ _ x=>x.sl
 | .sl _ x lo hi mx=>x.sl++(tn lo++(tn hi++tn mx))
 | .bld _ ps=>jB (ps.map (·.2))
 | .bs _ _ ps=>jB ps
 | .ext x _=>x.sl
 | .mk _ caps=>jB caps
 | .alloc _=>[]
 | .box x=>x.sl
 | .bd _ x v=>x.sl++v.sl
 | .dn _ _ _ _ s x=>s.sl++x.sl
 | .lD _ _ _ _ s x=>s.sl++x.sl
 | .cap x=>x.sl
 | .bs0 _=>[]
 | .jJ _ _ x=>x.sl
 | .kQ _ x y=>x.sl++y.sl
 | .call _ args=>jB args
 | .fH x args=>x.sl++jB args
 | .j5 _ args=>jB args
 | .nilC x=>x.sl
 | .ptrE _ x y=>x.sl++y.sl
 | .max2 x y=>x.sl++y.sl
 | .kj _ _ _ n=>n.sl
 | .iD=>[]
 | .lk _ _ _ m k=>m.sl++k.sl
 | .eT _ m k v=>m.sl++(k.sl++v.sl)
 | .iC _ m k=>m.sl++k.sl
 | .jz x=>x.sl
 | .ic x=>x.sl
 | .ent x=>x.sl
def aH.da(g:aH):List Nat:=g.op.da++(match g.guard with | some (t,_)=>[t] | none=>[])
def bS.gG:bS→Nat
 | .mv _ | .pick .. | .bin .. | .eqv .. | .nilS .. | .conv .. | .un .. | .fl .. | .ix .. | .lenT _ | .bld .. | .ext .. | .mk .. | .nilC _ | .ptrE .. | .max2 .. =>0
 | .ld .. | .fa .. | .ia .. | .is .. | .len _ | .va .. | .bs .. | .sl .. | .cap _ | .bs0 _ | .lk .. | .ent _=>1
 | .call .. | .fH .. =>2
 | .alloc _ | .box _=>3
 | .bd .. =>4
 | .dn .. | .lD .. | .jJ .. | .kQ .. | .j5 .. | .kj .. | .iD | .eT .. | .iC .. | .jz _ | .ic _=>5
def vf(a b:Nat):Bool:=(decide (a≤2)&&decide (b≤3))||(a==0&&b==4)
def mH(g h:aH):Bool:=vf g.op.gG h.op.gG&&(match g.dst with
  |some d => !h.da.contains d&&h.dst != some d
  |none=>true)&&(match h.dst with
  |some d => !g.da.contains d
  |none=>true)
def ee(A A':ai)(l:List Nat):Prop:=∀ k∈l,A'.t k=A.t k
section
variable {A A':ai}
theorem dc{x:aO}(h:ee A A' x.sl):ak A' x=ak A x:=by
 cases x with
 |t n=>exact h n (by simp[aO.sl])
 |c x=>rfl
theorem ee.l{l m:List Nat}(h:ee A A' (l++m)):ee A A' l:=fun k hk=>h k (List.mem_append_left _ hk)
theorem ee.r{l m:List Nat}(h:ee A A' (l++m)):ee A A' m:=fun k hk=>h k (List.mem_append_right _ hk)
theorem lI:∀ {l:List aO},ee A A' (jB l)→l.map (ak A')=l.map (ak A)
 | [],_=>rfl
 |x::l,h=>by
  simp only[jB,List.flatMap_cons] at h;simp only[Z3,dc h.l,lI (l:=l) h.r]
theorem oX{x:Option aO}(h:ee A A' (tn x)):x.map (ak A')=x.map (ak A):=by
 cases x with
 |none=>rfl
 |some x=>simp only[zz0,dc (x:=x) h]
theorem A5:∀ {l:List (Nat×aO)},ee A A' (jB (l.map (·.2)))→(l.map fun p=>(p.1,ak A' p.2))=l.map fun p=>(p.1,ak A p.2)
 | [],_=>rfl
 |x::l,h=>by
  simp only[jB,Z3,List.flatMap_cons] at h;simp only[Z3,dc h.l,A5 (l:=l) h.r]
theorem qV{f g:I→Option I}(h:∀ x v,f x=some v→g x=some v):∀ {xs vs:List I},fR f xs=some vs→fR g xs=some vs
 | [],vs,hx=>by simpa only[fR] using hx
 |x::xs,vs,hx=>by
  simp only[fR] at hx ⊢;cases J:f x with
  |none=>rw[J] at hx;cases hx
  |some y=>cases U:fR f xs with
   |none=>rw[J,U] at hx;cases hx
   |some ys=>rw[J,U] at hx;rw[h x y J,qV h U];exact hx
theorem vI(hu:ep A A'):∀ (k:Nat) (x v:I),c4 A k x=some v→c4 A' k x=some v
 |0,_,_,h=>by simp[c4] at h
 |k+1,x,v,h=>by
  have ih:=vI hu k;simp only[c4] at h ⊢;split at h
  ·rename_i hc;rw[if_pos hc];exact h
  ·rename_i hc;rw[if_neg hc];cases x <;>simp only[] at h ⊢ <;>try (cases h;done)
   case agg fs =>
    simp only[t7] at h ⊢;obtain ⟨a,J,U⟩:=h;exact ⟨a,qV ih J,U⟩
   case func f fs =>
    split at h
    case isFalse hf=>rw[if_neg hf];exact h
    rename_i hf;rw[if_pos hf];simp only[t7] at h ⊢;obtain ⟨a,J,U⟩:=h;exact ⟨a,qV ih J,U⟩
   case ptr n p =>
    cases af:cM A (.ptr n p) with
    |none=>rw[af] at h;cases h
    |some y =>
     rw[af] at h;rw[jo hu af];simp only[t7] at h ⊢;obtain ⟨a,J,U⟩:=h;exact ⟨a,ih _ _ J,U⟩
   case view n p sz lo l =>
    cases af:cM A (.ptr n p) with
    |none=>rw[af] at h;cases h
    |some y=>rw[af] at h;rw[jo hu af];exact h
   case mref n =>
    cases ho:A.o n with
    |none=>rw[ho] at h;cases h
    |some y =>
     rw[ho] at h;rw[hu n y ho];cases y <;>try (cases h;done)
     simp only at h ⊢;split at h
     ·rename_i hk;rw[if_pos hk];simp only[t7] at h ⊢;obtain ⟨a,J,U⟩:=h;exact ⟨a,qV ih J,U⟩
     ·cases h
   case own n l =>
    cases ho:A.o n with
    |none=>rw[ho] at h;cases h
    |some y=>rw[ho] at h;rw[hu n y ho];exact h
mutual
theorem Bi(hu:ep A A'){aL:Bool} : ∀ {x v:I},bj aL A x=some v→bj aL A' x=some v
 | .ptr n p,v,h=>by
  simp only[bj] at h ⊢;cases aL <;>simp only[Z2,if_false,if_true] at h ⊢
  ·exact h
  ·cases af:cM A (.ptr n p) with
   |none=>rw[af] at h;cases h
   |some y =>
    rw[af] at h;rw[jo hu af];simp only at h ⊢;split at h
    ·rename_i hc;rw[if_pos hc];exact h
    ·rename_i hc;rw[if_neg hc];simp only[t7] at h ⊢;obtain ⟨a,J,U⟩:=h;exact ⟨a,vI hu 9 _ _ J,U⟩
 | .mref n,v,h=>by
  simp only[bj] at h ⊢;cases aL <;>simp only[Z2,if_false,if_true] at h ⊢
  ·exact h
  ·cases ho:A.o n with
   |none=>rw[ho] at h;cases h
   |some y =>
    rw[ho] at h;rw[hu n y ho];cases y <;>try (cases h;done)
    simp only at h ⊢;split at h
    ·rename_i hk;rw[if_pos hk];simp only[t7] at h ⊢;obtain ⟨a,J,U⟩:=h;exact ⟨a,qV (vI hu 9) J,U⟩
    ·cases h
 | .dq _,_,h=>by simp[bj] at h
 | .dj _ _,_,h=>by simpa only[bj] using h
 | .own n k,v,h=>by
  simp only[bj] at h ⊢;cases ho:A.o n with
  |none=>rw[ho] at h;cases h
  |some y=>rw[ho] at h;rw[hu n y ho];exact h
 | .view n p sz lo k,v,h=>by
  simp only[bj] at h ⊢;cases aL <;>simp only[Z2,if_false,if_true] at h ⊢
  ·exact h
  ·cases af:cM A (.ptr n p) with
   |none=>rw[af] at h;cases h
   |some y=>rw[af] at h;rw[jo hu af];exact h
 | .func f caps,v,h=>by
  simp only[bj] at h ⊢;split at h
  case isFalse hf=>rw[if_neg hf];exact h
  rename_i hf;rw[if_pos hf];simp only[t7] at h ⊢;obtain ⟨a,J,U⟩:=h;exact ⟨a,kT hu J,U⟩
 | .agg fs,v,h=>by
  simp only[bj,t7] at h ⊢;obtain ⟨a,J,U⟩:=h;exact ⟨a,kT hu J,U⟩
 | .nils _,_,h | .c0 _,_,h | .tuple _,_,h | .undef,_,h | .dw,_,h | .bool _,_,h | .int _ _,_,h | .bQ _,_,h | .nilp,_,h | .dB,_,h | .dX,_,h | .any,_,h | .raw _,_,h | .slice _ _,_,h | .ref _,_,h | .iface _ _,_,h=>by simpa only[bj] using h
theorem kT(hu:ep A A'){aL:Bool} : ∀ {xs vs:List I},b8 aL A xs=some vs→b8 aL A' xs=some vs
 | [],vs,h=>by simpa only[b8] using h
 |x::xs,vs,h=>by
  simp only[b8] at h ⊢;cases J:bj aL A x with
  |none=>rw[J] at h;cases h
  |some y=>cases U:b8 aL A xs with
   |none=>rw[J,U] at h;cases h
   |some ys=>rw[J,U] at h;rw[Bi hu J,kT hu U];exact h
end
theorem xe{op:bS}(hc:op.gG=0)(h:ee A A' op.da):bo A' op=bo A op:=by
 cases op <;>simp only[bS.gG] at hc <;>try (cases hc;done)
 all_goals simp only[bS.da] at h
 case mv x=>simp only[bo,dc h]
 case pick c a b=>simp only[bo,dc h.l,dc h.r.l,dc h.r.r]
 case bin _ x y=>simp only[bo,dc h.l,dc h.r]
 case eqv _ _ x y=>simp only[bo,dc h.l,dc h.r]
 case nilS x=>simp only[bo,dc h]
 case conv x=>simp only[bo,dc h]
 case un x=>simp only[bo,dc h]
 case fl x=>simp only[bo,dc h]
 case ix x i=>simp only[bo,dc h.l,dc h.r]
 case lenT x=>simp only[bo,dc h]
 case bld zs ps=>simp only[bo,A5 h]
 case ext x i=>simp only[bo,dc h]
 case mk f caps=>simp only[bo,lI h]
 case nilC x=>simp only[bo,dc h]
 case ptrE neg x y=>simp only[bo,dc h.l,dc h.r]
 case max2 x y=>simp only[bo,dc h.l,dc h.r]
theorem WZ(hu:ep A A'){m:I}{q:List I×List I}(h:fZ A m=some q):fZ A' m=some q:=by
 cases m with
 |mref n =>
  simp only[fZ] at h ⊢;cases af:A.o n with
  |none=>simp only[af] at h;cases h
  |some y=>simp only[af] at h;simp only[hu n y af];exact h
 |raw v=>cases v <;>first | (cases h;done) | (rename_i m;cases m <;>first | exact h | cases h)
 |dj ks vs=>exact h
 |_=>simp only[fZ] at h;cases h
theorem Dg{op:bS}(hu:ep A A')(h:ee A A' op.da){v:I}(hv:bo A op=some v):bo A' op=some v:=by
 by_cases hc:op.gG=0
 ·rw[xe hc h];exact hv
 cases op <;>try (exact absurd rfl hc)
 all_goals simp only[bS.da] at h
 case ld s x =>
  simp only[bo,dc h] at hv ⊢;cases af:cM A (ak A x) with
  |none=>rw[af] at hv;cases hv
  |some y=>rw[af] at hv;rw[jo hu af];exact hv
 case fa f off x =>
  simp only[bo,dc h] at hv ⊢;generalize ak A x=z at *;cases z <;>try (first | exact hv | (rename_i y;cases y <;>exact hv))
  rename_i n p;cases af:cM A (.ptr n p) with
  |none=>simp only[af] at hv;cases hv
  |some y=>simp only[af] at hv;simp only[jo hu af];exact hv
 case ia n esz x i =>
  simp only[bo,dc h.l,dc h.r] at hv ⊢;generalize ak A x=z at *;cases z <;>try (first | exact hv | (rename_i y;cases y <;>exact hv))
  rename_i n p;cases af:cM A (.ptr n p) with
  |none=>simp only[af] at hv;(repeat' split at hv) <;>cases hv
  |some y=>simp only[af] at hv;simp only[jo hu af];exact hv
 case is esz x i =>
  simp only[bo,dc h.l,dc h.r] at hv ⊢;generalize ak A i=q at *;cases q <;>try (exact hv)
  simp only at hv ⊢;generalize ak A x=z at *;cases z <;>try (first | exact hv | (rename_i y;cases y <;>exact hv))
  ·rename_i n p;cases af:A.o n with
   |none=>simp only[af] at hv;cases hv
   |some y=>simp only[af] at hv;simp only[hu n y af];exact hv
  ·rename_i n p sz lo k;simp only at hv ⊢;cases af:cM A (.ptr n p) with
   |none=>simp only[af] at hv;cases hv
   |some y=>simp only[af] at hv;simp only[jo hu af];exact hv
 case len x =>
  simp only[bo,dc h] at hv ⊢;generalize ak A x=z at *;cases z <;>try (first | exact hv | (rename_i y;cases y <;>exact hv))
  rename_i n p;cases af:A.o n with
  |none=>simp only[af] at hv;cases hv
  |some y=>simp only[af] at hv;simp only[hu n y af];exact hv
 case cap x =>
  simp only[bo,dc h] at hv ⊢;generalize ak A x=z at *;cases z <;>try (first | exact hv | (rename_i y;cases y <;>exact hv))
  rename_i n p sz lo k;simp only at hv ⊢;cases af:cM A (.ptr n p) with
  |none=>simp only[af] at hv;cases hv
  |some y=>simp only[af] at hv;simp only[jo hu af];exact hv
 case bs0 esz=>exact hv
 case sl esz x lo hi mx =>
  simp only[bo,dc h.l,oX h.r.l,oX h.r.r.l,oX h.r.r.r] at hv ⊢;generalize ak A x=z at *;cases z <;>try (first | exact hv | (rename_i y;cases y <;>exact hv))
  rename_i n p sz l0 k;simp only at hv ⊢;cases af:cM A (.ptr n p) with
  |none=>simp only[af] at hv;cases hv
  |some y=>simp only[af] at hv;simp only[jo hu af];exact hv
 case va n esz x =>
  simp only[bo,dc h] at hv ⊢;generalize ak A x=z at *;cases z <;>try (first | exact hv | (rename_i y;cases y <;>exact hv))
  rename_i n p;cases af:cM A (.ptr n p) with
  |none=>simp only[af] at hv;cases hv
  |some y=>simp only[af] at hv;simp only[jo hu af];exact hv
 case lk ty z ok m k =>
  simp only[bo,dc h.l,dc h.r] at hv ⊢;cases af:fZ A (ak A m) with
  |none=>rw[af] at hv;cases hv
  |some y=>rw[af] at hv;rw[WZ hu af];exact hv
 case ent x =>
  simp only[bo,dc h] at hv ⊢;generalize ak A x=z at *;cases z <;>try (exact hv)
  rename_i n;simp only at hv ⊢;cases af:A.o n with
  |none=>simp only[af] at hv;cases hv
  |some y=>simp only[af] at hv;simp only[hu n y af];exact hv
 case bs esz ps =>
  simp only[bo,lI h] at hv ⊢;cases af:b8 false A (ps.map (ak A)) with
  |none=>rw[af] at hv;cases hv
  |some y=>rw[af] at hv;rw[kT hu af];exact hv
 all_goals (simp only[bo] at hv;cases hv)
end
def pass(A:ai)(g:aH):Prop:=match g.guard with | none=>True | some (t,b)=>A.t t=.bool b
def gy(A:ai)(g:aH):Prop:=match g.guard with | none=>False | some (t,b)=>A.t t=.bool (!b)∨A.t t=.undef
inductive jh (P:Program) (A:ai):bS→I→Prop where
 |pure {op:bS} {v:I} : bo A op=some v→jh P A op v
 |flat {f:FuncId} {args:List aO} {cargs:List I} {r:I} : b8 true A (args.map (ak A))=some cargs→a8 P f cargs r→r.flat=true→jh P A (.call f args) r
 |lead {f:FuncId} {args:List aO} {cargs:List I} {r:I} : b8 false A (args.map (ak A))=some cargs→a8 P f cargs r→jh P A (.call f args) r
 |uf {x:aO} {f:FuncId} {caps:List I} {args:List aO} {cargs:List I} {r:I} : ak A x=.func f caps→b8 true A (h4 f (args.map (ak A)) caps)=some cargs→a8 P (kS f) cargs r→r.flat=true→jh P A (.fH x args) r
 |ug {x:aO} {f:FuncId} {caps:List I} {args:List aO} {cargs:List I} {r:I} : ak A x=.func f caps→b8 false A (h4 f (args.map (ak A)) caps)=some cargs→a8 P (kS f) cargs r→jh P A (.fH x args) r
def r9(A:ai)(op:bS)(x:I):Prop:=op=.alloc x∨∃ y,op=.box y∧(ak A y).bT=true∧x=ak A y
def sa(A:ai)(op:bS)(n:Nat)(z:ao):Prop:=∃ s x v p b old,op=.bd s x v∧ak A x=.ptr n p∧A.o n=some (.box b)∧b.at p=some old∧w0 s (ak A v) old∧z=.box (b.ev p (ak A v))
def GM(A:ai)(dst:Option Nat)(op:bS)(B:ai):Prop:=op.gG=5∧∀ (rest:List aH) (k:ai→cO),bl A dst op rest k=k B
theorem ZL{A:ai}{neg:Bool}{x:aO}{v:I}(h:bo A (.nilS neg x)=some v):jD (ak A x)=false:=by
 simp only[bo] at h;generalize ak A x=q at *;cases q <;>simp only[jD] <;>simp only at h <;>try (cases h;done)
 rename_i sz es;cases es with
 |nil=>simp at h
 |cons=>rfl
inductive fp (P:Program) (g:aH) (A:ai):ai→Prop where
 |skip:gy A g→fp P g A (A.aS g.dst .undef)
 |val {v:I} : pass A g→jh P A g.op v→fp P g A (A.aS g.dst v)
 |jd {d:Nat} {x:I} : pass A g→g.dst=some d→r9 A g.op x→A.o d=none→fp P g A ((A.aT d (.box x)).put d (.ptr d []))
 |bd {n:Nat} {z:ao} : pass A g→g.dst=none→sa A g.op n z→fp P g A (A.aT n z)
 |hU {B:ai} : pass A g→GM A g.dst g.op B→fp P g A B
theorem uQ{b' b:Bool}(h:b'≠b):b' = !b:=by cases b <;>cases b' <;>simp_all
section
variable {P:Program} {Y:Value→List I→List (Nat×ao)→cK→Prop} {K:ai→Prop}
theorem fp.CN{A:ai}{g:aH}{rest:List aH}(hp:pass A g)(h:aR P Y true K (bl A g.dst g.op rest (aB rest))):∃ B,fp P g A B∧aR P Y true K (aB rest B):=by
 have pure:aR P Y true K (cS (bo A g.op) fun v=>aB rest (A.aS g.dst v))→∃ B,fp P g A B∧aR P Y true K (aB rest B):=by
  intro h;cases hv:bo A g.op with
  |none=>rw[hv] at h;cases h
  |some v=>rw[hv] at h;exact ⟨_,.val hp (.pure hv),h⟩
 obtain ⟨dst,op,gd⟩:=g;cases op with
 |alloc z =>
  simp only[bl] at h;split at h
  case h_2=>cases h
  split at h
  case h_2=>cases h
  rename_i af _ ho;exact ⟨_,.jd hp rfl (.inl rfl) ho,h⟩
 |box x =>
  simp only[bl] at h;split at h
  case h_2=>cases h
  split at h
  case h_2=>cases h
  rename_i af _ ho;split at h
  case isFalse=>cases h
  rename_i hv;exact ⟨_,.jd hp rfl (.inr ⟨x,rfl,hv,rfl⟩) ho,h⟩
 |bd s x v =>
  simp only[bl] at h;split at h
  case h_2=>cases h
  split at h
  case h_2=>cases h
  rename_i n p hx;split at h
  case h_2=>cases h
  rename_i b hb;split at h
  case h_2=>cases h
  rename_i old hat;split at h
  case isFalse=>cases h
  rename_i hok;exact ⟨_,.bd hp rfl ⟨s,x,v,p,b,old,rfl,hx,hb,hat,hok,rfl⟩,h⟩
 |nilS neg x =>
  simp only[bl] at h;split at h
  ·cases h with | any hdr=>cases hdr
  ·exact pure h
 |dn e esz bytes z s x =>
  simp only[bl] at h;split at h
  ·rename_i n l hs';split at h
   case h_2=>cases h
   rename_i sz ys hx';split at h
   case h_3=>cases h
   case h_2 =>
    rename_i T xs hn;split at h
    case isFalse=>cases h
    rename_i hok;exact ⟨_,.hU hp ⟨rfl,fun rest k=>by simp only[bl,hs',hx',hn,if_pos hok]⟩,h⟩
   rename_i T sz' es hn;split at h
   case isFalse=>cases h
   rename_i hok;exact ⟨_,.hU hp ⟨rfl,fun rest k=>by simp only[bl,hs',hx',hn,if_pos hok]⟩,h⟩
  ·rename_i hno;have hg:∀ (rest:List aH) (k:ai→cO),bl A dst (.dn e esz bytes z s x) rest k=e6 A dst esz bytes z (ak A s) (eJ A esz (ak A s)) (eJ A esz (ak A x)) k:=fun rest k=>by
    simp only[bl]
   simp only[e6] at h hg;split at h
   case h_2=>cases h
   rename_i es ys hse hsx;simp only[hse,hsx] at hg;have grow:¬ aR P Y true K (fW A dst esz bytes z es ys (aB rest)):=fun h=>by
    simp only[fW] at h;split at h
    case h_2=>cases h
    split at h
    case h_2=>cases h
    split at h
    case isFalse=>cases h
    cases h with | any hdr=>cases hdr
   split at h
   ·rename_i hne;simp only[if_pos hne] at hg;exact ⟨_,.hU hp ⟨rfl,hg⟩,h⟩
   ·rename_i hne;simp only[if_neg hne] at hg;split at h
    ·exact absurd h grow
    ·exact absurd h grow
    ·rename_i n p sz lo l hsv;split at h
     case h_2=>cases h
     rename_i b hn;split at h
     case h_2=>cases h
     rename_i fs hat;split at h
     ·rename_i hroom;split at h
      case isFalse=>cases h
      rename_i hok;simp only[hsv,hn,hat,if_pos hroom,if_pos hok] at hg;exact ⟨_,.hU hp ⟨rfl,hg⟩,h⟩
     ·exact absurd h grow
    ·cases h
 |j5 f args =>
  simp only[bl] at h;cases h with | ext r hdr=>cases hdr
 |lD e esz bytes z s n =>
  exfalso
  simp only[bl] at h;split at h
  case h_2=>cases h
  simp only[uK] at h;split at h
  case h_2=>cases h
  split at h
  case h_2=>cases h
  split at h
  case h_2=>cases h
  split at h
  case h_2=>cases h
  split at h
  case isFalse=>cases h
  simp only[fW] at h;split at h
  case h_2=>cases h
  split at h
  case h_2=>cases h
  split at h
  case isFalse=>cases h
  cases h with | any hdr=>cases hdr
 |iD =>
  simp only[bl] at h;split at h
  case h_2=>cases h
  rename_i d;split at h
  case h_2=>cases h
  rename_i hf;exact ⟨_,.hU hp ⟨rfl,fun rest k=>by simp only[bl,hf]⟩,h⟩
 |kj e bytes z n =>
  simp only[bl] at h;split at h
  case h_2=>cases h
  rename_i d;split at h
  case h_2=>cases h
  rename_i hf;split at h
  case h_2=>cases h
  rename_i k m hn;split at h
  case isFalse=>cases h
  rename_i hc;exact ⟨_,.hU hp ⟨rfl,fun rest k=>by simp only[bl,hf,hn,if_pos hc]⟩,h⟩
 |eT ty m key v =>
  simp only[bl] at h;split at h
  case h_2=>cases h
  split at h
  case h_2=>cases h
  rename_i n hm;split at h
  case h_2=>cases h
  rename_i ks vs hn;split at h
  case h_2=>cases h
  rename_i ks' vs' aq;exact ⟨_,.hU hp ⟨rfl,fun rest k=>by simp only[bl,hm,hn,aq]⟩,h⟩
 |iC ty m key =>
  simp only[bl] at h;split at h
  case h_2=>cases h
  split at h
  case h_2=>cases h
  rename_i n hm;split at h
  case h_2=>cases h
  rename_i ks vs hn;split at h
  case h_2=>cases h
  rename_i ks' vs' aq;exact ⟨_,.hU hp ⟨rfl,fun rest k=>by simp only[bl,hm,hn,aq]⟩,h⟩
 |jz x =>
  simp only[bl] at h;split at h
  case h_2=>cases h
  rename_i d;split at h
  case h_2=>cases h
  rename_i hf;split at h
  case h_2=>cases h
  rename_i ks vs hx;exact ⟨_,.hU hp ⟨rfl,fun rest k=>by simp only[bl,hf,hx]⟩,h⟩
 |ic x =>
  simp only[bl] at h;split at h
  case h_2=>cases h
  rename_i n hx;split at h
  case h_2=>cases h
  rename_i ks vs left cur hn;split at h
  ·rename_i aq;exact ⟨_,.hU hp ⟨rfl,fun rest k=>by simp only[bl,hx,hn,if_pos aq]⟩,h⟩
  ·cases h with | any hdr=>cases hdr
 |jJ esz z x =>
  simp only[bl] at h;split at h
  case h_2=>cases h
  have hg:∀ (rest:List aH) (k:ai→cO),bl A none (.jJ esz z x) rest k=oU A esz z k (ak A x):=fun rest k=>rfl;simp only[oU] at h hg;split at h
  ·rename_i n p sz lo l hv;split at h
   case h_2=>cases h
   rename_i b hn;split at h
   case h_2=>cases h
   rename_i fs hat;split at h
   case isFalse=>cases h
   rename_i hok;simp only[hv,hn,hat,if_pos hok] at hg;exact ⟨_,.hU hp ⟨rfl,hg⟩,h⟩
  ·rename_i z0 hv;simp only[hv] at hg;exact ⟨_,.hU hp ⟨rfl,hg⟩,h⟩
  ·rename_i z0 hv;simp only[hv] at hg;exact ⟨_,.hU hp ⟨rfl,hg⟩,h⟩
  ·cases h
 |kQ esz x y =>
  have hg:∀ (rest:List aH) (k:ai→cO),bl A dst (.kQ esz x y) rest k=sC A dst esz k (ak A x) (eJ A esz (ak A y)):=fun rest k=>rfl;simp only[bl] at h;simp only[sC] at h hg;split at h
  ·rename_i n p sz lo l ys hv hsx;split at h
   case h_2=>cases h
   rename_i b hn;split at h
   case h_2=>cases h
   rename_i fs hat;split at h
   case isFalse=>cases h
   rename_i hok;simp only[hv,hsx,hn,hat,if_pos hok] at hg;exact ⟨_,.hU hp ⟨rfl,hg⟩,h⟩
  ·cases h
 |call f args =>
  simp only[bl] at h;generalize J:b8 true A (args.map (ak A))=a1 at h;generalize U:b8 false A (args.map (ak A))=a2 at h;cases h with
  |flat r hc hf hw=>exact ⟨_,.val hp (.flat J hc hf),hw⟩
  |lead r hc hw=>exact ⟨_,.val hp (.lead U hc),hw⟩
  |jL ns r hdr=>cases hdr
  |bP aL ρ os cargs post hdr=>cases hdr
 |fH x args =>
  simp only[bl] at h;split at h
  case h_3=>cases h
  case h_2=>cases h with | uh os cargs post hdr=>cases hdr
  rename_i f caps hx;generalize J:b8 true A (h4 f (args.map (ak A)) caps)=a1 at h;generalize U:b8 false A (h4 f (args.map (ak A)) caps)=a2 at h;cases h with
  |flat r hc hf hw=>exact ⟨_,.val hp (.uf hx J hc hf),hw⟩
  |lead r hc hw=>exact ⟨_,.val hp (.ug hx U hc),hw⟩
  |jL ns r hdr=>cases hdr
  |bP aL ρ os cargs post hdr=>cases hdr
 |_=>exact pure (by simpa only[bl] using h)
theorem fp.wX{A:ai}{g:aH}{rest:List aH}(h:aR P Y true K (aB (g::rest) A)):∃ B,fp P g A B∧aR P Y true K (aB rest B):=by
 simp only[aB] at h;split at h
 ·rename_i hg;exact fp.CN (by simp only[pass,hg]) h
 ·rename_i t b hg;split at h
  ·rename_i b' hb;split at h
   ·rename_i hbb;subst hbb;exact fp.CN (by simp only[pass,hg];exact hb) h
   ·rename_i hbb;refine ⟨_,.skip (by simp only[gy,hg];exact .inl (by rw[hb,uQ hbb])),h⟩
  ·rename_i hb;exact ⟨_,.skip (by simp only[gy,hg];exact .inr hb),h⟩
  ·cases h
theorem ny{A:ai}{g:aH}{rest:List aH}(hp:pass A g):aB (g::rest) A=bl A g.dst g.op rest (aB rest):=by
 simp only[aB];cases hg:g.guard with
 |none=>rfl
 |some tb =>
  obtain ⟨t,b⟩:=tb;simp only[pass,hg] at hp;simp only[hp,if_true]
theorem fp.xW{A B:ai}{g:aH}{rest:List aH}(h:fp P g A B)(hw:aR P Y true K (aB rest B)):aR P Y true K (aB (g::rest) A):=by
 cases h with
 |skip hn =>
  simp only[aB];cases hg:g.guard with
  |none=>simp only[gy,hg] at hn
  |some tb =>
   obtain ⟨t,b⟩:=tb;simp only[gy,hg] at hn;rcases hn with hn | hn
   ·simp only[hn];rw[if_neg (by cases b <;>simp)];exact hw
   ·simp only[hn];exact hw
 |val hp hv =>
  rw[ny hp];obtain ⟨dst,op,gd⟩:=g;cases hv with
  |pure hv =>
   have hv':bo A op=some _:=hv;cases op <;>try (simp only[bl,hv',cS] <;>first | exact hw | (simp only[bo] at hv';cases hv');done)
   all_goals first
    |(simp only[bo] at hv';cases hv';done)
    |(simp only[bl,ZL hv',Z2,if_false,hv',cS];exact hw)
  |flat J U ah=>simp only[bl,J];exact .flat _ U ah hw
  |lead J U=>simp only[bl,J];exact .lead _ U hw
  |uf aW J U ah=>simp only[bl,aW,J];exact .flat _ U ah hw
  |ug aW J U=>simp only[bl,aW,J];exact .lead _ U hw
 |jd hp af hm ho =>
  rw[ny hp];obtain ⟨dst,op,gd⟩:=g;simp only at af;subst af;rcases hm with hm | ⟨y,hm,hv,rfl⟩ <;>simp only at hm <;>subst hm
  ·simp only[bl,ho];exact hw
  ·simp only[bl,ho,hv,if_true];exact hw
 |bd hp af hm =>
  rw[ny hp];obtain ⟨dst,op,gd⟩:=g;simp only at af;subst af;obtain ⟨s,x,v,p,b,old,J,U,ah,ar,h5,rfl⟩:=hm;simp only at J;subst J;simp only[bl,U,ah,ar,if_pos h5];exact hw
 |hU hp hm =>
  rw[ny hp,hm.2];exact hw
theorem jh.cT{A A':ai}{op:bS}{v:I}(h:jh P A op v)(hu:ep A A')(ha:ee A A' op.da):jh P A' op v:=by
 cases h with
 |pure h=>exact .pure (Dg hu ha h)
 |flat J U ah=>exact .flat (by rw[lI ha];exact kT hu J) U ah
 |lead J U=>exact .lead (by rw[lI ha];exact kT hu J) U
 |uf aW J U ah=>simp only[bS.da] at ha;exact .uf (by rw[dc ha.l];exact aW) (by rw[lI ha.r];exact kT hu J) U ah
 |ug aW J U=>simp only[bS.da] at ha;exact .ug (by rw[dc ha.l];exact aW) (by rw[lI ha.r];exact kT hu J) U
theorem jh.jL{A A':ai}{op:bS}{v:I}(h:jh P A op v)(hc:op.gG=0)(ha:ee A A' op.da):jh P A' op v:=by
 cases h with
 |pure h=>exact .pure (by rw[xe hc ha];exact h)
 |_=>simp[bS.gG] at hc
theorem mT{A A':ai}{g:aH}(ha:ee A A' g.da)(h:pass A g):pass A' g:=by
 unfold pass at *;cases hg:g.guard with
 |none=>trivial
 |some tb=>simp only[hg] at h ⊢;rw[ha tb.1 (by simp[aH.da,hg])];exact h
theorem pB{A A':ai}{g:aH}(ha:ee A A' g.da)(h:gy A g):gy A' g:=by
 unfold gy at *;cases hg:g.guard with
 |none=>simp only[hg] at h
 |some tb=>simp only[hg] at h ⊢;rw[ha tb.1 (by simp[aH.da,hg])];exact h
theorem aH.jT{A A':ai}{g:aH}(ha:ee A A' g.da):ee A A' g.op.da:=fun k hk=>ha k (List.mem_append_left _ hk)
def kG(P:Program)(g:aH)(A:ai)(v:I):Prop:=(gy A g∧v=.undef)∨(pass A g∧jh P A g.op v)
theorem kG.step{A:ai}{g:aH}{v:I}(h:kG P g A v):fp P g A (A.aS g.dst v):=by
 rcases h with ⟨h,rfl⟩ | ⟨h,k⟩
 ·exact .skip h
 ·exact .val h k
theorem kG.cT{A A':ai}{g:aH}{v:I}(h:kG P g A v)(hu:ep A A')(ha:ee A A' g.da):kG P g A' v:=by
 rcases h with ⟨h,rfl⟩ | ⟨h,k⟩
 ·exact .inl ⟨pB ha h,rfl⟩
 ·exact .inr ⟨mT ha h,k.cT hu (aH.jT ha)⟩
theorem kG.jL{A A':ai}{g:aH}{v:I}(h:kG P g A v)(hc:g.op.gG=0)(ha:ee A A' g.da):kG P g A' v:=by
 rcases h with ⟨h,rfl⟩ | ⟨h,k⟩
 ·exact .inl ⟨pB ha h,rfl⟩
 ·exact .inr ⟨mT ha h,k.jL hc (aH.jT ha)⟩
theorem fp.xU{A B:ai}{g:aH}(h:fp P g A B)(hc:g.op.gG≤2):∃ v,kG P g A v∧B=A.aS g.dst v:=by
 cases h with
 |skip h=>exact ⟨_,.inl ⟨h,rfl⟩,rfl⟩
 |val h k=>exact ⟨_,.inr ⟨h,k⟩,rfl⟩
 |jd J U ah ar=>rcases ah with ah | ⟨y,ah,_⟩ <;>(rw[ah] at hc;simp[bS.gG] at hc)
 |bd J U ah=>obtain ⟨s,x,v,p,b,old,ar,_⟩:=ah;rw[ar] at hc;simp[bS.gG] at hc
 |hU J ah=>rw[ah.1] at hc;omega
theorem pL{A:ai}{a b:Option Nat}{v u:I}(h:∀ d,a=some d→b≠some d):(A.aS a v).aS b u=(A.aS b u).aS a v:=by
 cases a with
 |none=>rfl
 |some d=>cases b with
  |none=>rfl
  |some e =>
   have hne:d≠e:=fun he=>h d rfl (by rw[he]);simp only[ai.aS,ai.put,ai.mk.injEq,and_true]
   funext k
   by_cases J:k=e <;>by_cases U:k=d <;>simp_all
theorem il{A:ai}{d:Option Nat}{v:I} : (A.aS d v).o=A.o:=by cases d <;>rfl
theorem lY{A:ai}{d:Option Nat}{v:I}{l:List Nat}(h:∀ k,d=some k→k∉l):ee A (A.aS d v) l:=by
 cases d with
 |none=>exact fun _ _=>rfl
 |some e =>
  intro k hk;have:k≠e:=fun he=>h e rfl (he▸hk);simp[ai.aS,ai.put,this]
theorem ee.symm{A A':ai}{l:List Nat}(h:ee A A' l):ee A' A l:=fun k hk=>(h k hk).symm
theorem r9.same{A A':ai}{op:bS}{x:I}(h:r9 A op x)(ha:ee A A' op.da):r9 A' op x:=by
 rcases h with h | ⟨y,J,U,ah⟩
 ·exact .inl h
 ·subst J;have:=dc (x:=y) ha;exact .inr ⟨y,rfl,by rw[this];exact U,by rw[this];exact ah⟩
theorem sa.same{A A':ai}{op:bS}{n:Nat}{z:ao}(h:sa A op n z)(ho:A'.o=A.o)(ha:ee A A' op.da):sa A' op n z:=by
 obtain ⟨s,x,v,p,b,old,J,U,ah,ar,h5,h6⟩:=h;subst J;simp only[bS.da] at ha;have e1:=dc ha.l;have e2:=dc ha.r;exact ⟨s,x,v,p,b,old,rfl,by rw[e1];exact U,by rw[ho];exact ah,ar,by rw[e2];exact h5,by rw[e2];exact h6⟩
theorem Wm{g h:aH}(hi:mH g h=true):vf g.op.gG h.op.gG=true∧(∀ d,g.dst=some d→d∉h.da)∧(∀ d,g.dst=some d→h.dst≠some d)∧(∀ d,h.dst=some d→d∉g.da):=by
 simp only[mH,t8] at hi;obtain ⟨⟨J,U⟩,ah⟩:=hi;refine ⟨J,fun d af =>?_,fun d af =>?_,fun d af =>?_⟩
 ·rw[af] at U;simp at U;exact U.1
 ·rw[af] at U;simp at U;exact U.2
 ·rw[af] at ah;simpa using ah
theorem fp.rT{A B C:ai}{g h:aH}(hi:mH g h=true)(J:fp P g A B)(U:fp P h B C):∃ B',fp P h A B'∧fp P g B' C:=by
 obtain ⟨hc,i1,i2,i3⟩:=Wm hi;simp only[vf,Bool.or_eq_true,t8,decide_eq_true_eq,beq_iff_eq] at hc;have hg2:g.op.gG≤2:=by rcases hc with hc | hc <;>omega
 obtain ⟨v,hv,rfl⟩:=J.xU hg2;have ag:ee (A.aS g.dst v) A h.da:=(lY i1).symm;have cT:ep (A.aS g.dst v) A:=fun n x hx=>by rwa [il] at hx
 cases U with
 |skip hn =>
  exact ⟨_,.skip (pB ag hn),by
   rw[pL i2];exact (hv.cT (by intro n x hx;rwa [il]) (lY i3)).step⟩
 |val hp hu =>
  exact ⟨_,.val (mT ag hp) (hu.cT cT (aH.jT ag)),by
   rw[pL i2];exact (hv.cT (by intro n x hx;rwa [il]) (lY i3)).step⟩
 |jd hp af hm ho =>
  rename_i d x;rw[il] at ho;refine ⟨_,.jd (mT ag hp) af (hm.same (aH.jT ag)) ho,?_⟩;have e:((A.aS g.dst v).aT d (.box x)).put d (.ptr d [])=((A.aT d (.box x)).put d (.ptr d [])).aS g.dst v:=by
   cases hgd:g.dst with
   |none=>rfl
   |some e =>
    have hne:e≠d:=fun he=>i2 e hgd (by rw[af,he]);simp only[ai.aS,ai.put,ai.aT,ai.mk.injEq,and_true]
    funext k
    by_cases J:k=e <;>by_cases U:k=d <;>simp_all
  rw[e];refine (hv.cT (fun n y hy =>?_) (fun k hk =>?_)).step
  ·have:n≠d:=fun he=>by rw[he,ho] at hy;cases hy
   simp only[ai.put,ai.aT,this,if_false];exact hy
  ·have:k≠d:=fun he=>i3 d af (he▸hk);simp only[ai.put,ai.aT,this,if_false]
 |bd hp af hm =>
  rename_i n z;have hc0:g.op.gG=0:=by
   obtain ⟨s,x,v,p,b,old,ar,_⟩:=hm;rcases hc with hc | hc
   ·rw[ar] at hc;exact absurd hc.2 (by simp[bS.gG])
   ·exact hc.1
  refine ⟨_,.bd (mT ag hp) af (hm.same il.symm (aH.jT ag)),?_⟩;have e:(A.aS g.dst v).aT n z=(A.aT n z).aS g.dst v:=by cases g.dst <;>rfl
  rw[e];exact (kG.jL (A':=A.aT n z) hv hc0 (fun _ _=>rfl)).step
 |hU hp hm =>
  exfalso
  rw[hm.1] at hc;omega
theorem aR.rT{A:ai}{g h:aH}{rest:List aH}(hi:mH g h=true)(hw:aR P Y true K (aB (g::h::rest) A)):aR P Y true K (aB (h::g::rest) A):=by
 obtain ⟨B,J,U⟩:=fp.wX hw;obtain ⟨C,ah,ar⟩:=fp.wX U;obtain ⟨B',h5,h6⟩:=fp.rT hi J ah;exact h5.xW (h6.xW ar)
theorem aR.nA{g:aH} : ∀ {l:List aH} {r:List aH} {A:ai},(∀ j∈l,mH j g=true)→aR P Y true K (aB (l++g::r) A)→aR P Y true K (aB (g::(l++r)) A)
 | [],r,A,_,h=>h
 |j::l,r,A,hi,h=>by
  obtain ⟨B,J,U⟩:=fp.wX (g:=j) (rest:=l++g::r) h;have ah:=aR.nA (l:=l) (r:=r) (fun k hk=>hi k (by simp[hk])) U;exact aR.rT (hi j (by simp)) (J.xW ah)
end
def cw(o:Oper):List Nat:=(o.after.toList.filter fun e=>Region.binds .any e).map (·.on)
def lu(cl:List Nat):List Nat→Nat
 | []=>0
 |k::ks=>(2^k ||| cl.getD k 0) ||| lu cl ks
def sF(on:List (List Nat))(gs:List aH)(cl:List Nat):Bool :=
 (List.range gs.length).all fun i=>(on.getD i []).all (fun k=>decide (k<i))&&Nat.beq (cl.getD i 0) (lu cl (on.getD i [])) &&
  (List.range i).all fun j=>(cl.getD i 0).testBit j||mH (gs.getD j default) (gs.getD i default)
theorem rX{cl:List Nat}{j:Nat} : ∀ {l:List Nat},(lu cl l).testBit j=true→j∈l∨∃ k∈l,(cl.getD k 0).testBit j=true
 | [],h=>by simp[lu] at h
 |k::ks,h=>by
  simp only[lu,Nat.testBit_or,Bool.or_eq_true,Nat.testBit_two_pow,decide_eq_true_eq] at h;rcases h with (h | h) | h
  ·exact .inl (by simp[h])
  ·exact .inr ⟨k,by simp,h⟩
  ·rcases rX h with h | ⟨m,J,U⟩
   ·exact .inl (by simp[h])
   ·exact .inr ⟨m,by simp[J],U⟩
structure um (l:List Oper) (gs:List aH):Prop where
 iu:∀ i o,l[i]?=some o→∀ k∈cw o,k<i
 pg:∀ (S:Nat→Prop),(∀ i o,l[i]?=some o→S i→∀ k∈cw o,S k)→∀ i o g j,l[i]?=some o→gs[i]?=some g→(∀ k∈cw o,S k)→j<i→¬ S j→mH (gs.getD j default) g=true
theorem Mq{l:List Oper}{gs:List aH}{cl:List Nat}(hlen:gs.length=l.length)(h:sF (l.map cw) gs cl=true):um l gs:=by
 simp only[sF,zz6,zy6] at h;have fG:∀ i o,l[i]?=some o→∃ g,gs[i]?=some g∧(∀ k∈cw o,k<i)∧(∀ j,(cl.getD i 0).testBit j=true→j∈cw o∨∃ k∈cw o,(cl.getD k 0).testBit j=true)∧∀ j,j<i→(cl.getD i 0).testBit j=true∨mH (gs.getD j default) g=true:=by
  intro i o ho;have hi:i<l.length:=(Z6.1 ho).1;have J:=h i (by omega);have hon:(l.map cw).getD i []=cw o:=by simp[Z0,ho]
  have hgi:i<gs.length:=by omega
  have hg:gs[i]?=some gs[i]:=zz4 hgi;have hgd:gs.getD i default=gs[i]:=by simp[Z0,hg]
  rw[hon,hgd] at J;simp only[t8,zz6,decide_eq_true_eq,Bool.or_eq_true,zy6] at J;have hb:=Nat.eq_of_beq_eq_true J.1.2;exact ⟨_,hg,J.1.1,fun j hj=>rX (by rw[←hb];exact hj),J.2⟩
 refine ⟨fun i o ho=>(fG i o ho).choose_spec.2.1,?_⟩;intro S hS i o g j ho hg hon hj hnj;have key:∀ n i o,i≤n→l[i]?=some o→(∀ k∈cw o,S k)→∀ j,(cl.getD i 0).testBit j=true→S j:=by
  intro n
  induction n with
  |zero =>
   intro i o hi ho hon j hj;obtain ⟨g,_,J,U,_⟩:=fG i o ho;rcases U j hj with h | ⟨k,hk,_⟩
   ·exact hon j h
   ·have:=J k hk;omega
  |succ n ih =>
   intro i o hi ho hon j hj;obtain ⟨g,_,J,U,_⟩:=fG i o ho;rcases U j hj with h | ⟨k,hk,hjk⟩
   ·exact hon j h
   ·have hki:=J k hk;have hkl:k<l.length:=Nat.lt_trans hki (Z6.1 ho).1;obtain ⟨ok,hok⟩:∃ ok,l[k]?=some ok:=⟨l[k],zz4 hkl⟩
    exact ih k ok (by omega) hok (hS k ok hok (hon k hk)) j hjk
 obtain ⟨g',hg',_,_,ah⟩:=fG i o ho;rw[hg,v6] at hg';subst hg';rcases ah j hj with h | h
 ·exact absurd (key i i o (Z4 _) ho hon j h) hnj
 ·exact h
def iL(listed:Array Bool)(n:Nat):List Nat:=(List.range n).filter fun i => !listed.getD i true
def oe(gs:List aH)(listed:Array Bool)(n:Nat):List aH:=(iL listed n).map fun i=>gs.getD i default
theorem EA{i n:Nat}(h:i<n):List.range n=List.range i++i::(List.range (n-(i+1))).map (i+1 + ·):=by
 conv=>lhs;rw[show n=(i+1)+(n-(i+1)) by omega,List.range_add]
 rw[List.range_succ];simp
theorem YO{listed:Array Bool}{i n:Nat}(h:i<n)(ab:listed.size=n)(hu:listed.getD i true=false):∃ l1 l2,iL listed n=l1++i::l2∧iL (listed.setIfInBounds i true) n=l1++l2∧∀ j∈l1,j<i∧listed.getD j true=false:=by
 have same:∀ j,j≠i→(listed.setIfInBounds i true).getD j true=listed.getD j true:=fun j hj=>getD_set_ne true (Ne.symm hj);have hit:(listed.setIfInBounds i true).getD i true=true:=by simp[ab,h]
 refine ⟨(List.range i).filter fun j => !listed.getD j true,((List.range (n-(i+1))).map (i+1 + ·)).filter fun j => !listed.getD j true,?_,?_,?_⟩
 ·simp only[iL];rw[EA h,List.filter_append,zw4];simp only[hu,Bool.not_false,if_true]
 ·simp only[iL];rw[EA h,List.filter_append,zw4];simp only[hit,Bool.not_true,Z2,if_false]
  congr 1
  ·refine List.filter_congr fun j hj =>?_;rw[same j (by have:=zy6.1 hj;omega)]
  ·refine List.filter_congr fun j hj =>?_;obtain ⟨k,_,rfl⟩:=zy1.1 hj;rw[same _ (by omega)]
 ·intro j hj;simp only[zx5,zy6,Bool.not_eq_true'] at hj;exact hj
theorem EK{n:Nat} : iL (Array.replicate n false) n=List.range n:=by
 simp only[iL];refine List.filter_eq_self.2 fun i hi =>?_;have:=zy6.1 hi;simp[this]
theorem W2(gs:List aH):((List.range gs.length).map fun i=>gs.getD i default)=gs:=by
 apply List.ext_getElem
 ·simp
 ·intro i J U;simp[Z0,U]
section
variable {c:cV}
theorem iv{P:Program}{n:Nat}{aV:Array Oper} : ∀ {l:List Oper} {gs:List aH},fO P n aV l=some gs→gs.length=l.length∧∀ (i:Nat) (o:Oper),l[i]?=some o→∃ g,gs[i]?=some g∧lF P n aV o=some g
 | [],gs,h=>by simp only[fO,v6] at h;subst h;exact ⟨rfl,fun i o ho=>by simp at ho⟩
 |o::l,gs,h=>by
  simp only[fO] at h;split at h
  case h_2=>cases h
  rename_i g gs' hg hgs;simp only[v6] at h;subst h;obtain ⟨J,U⟩:=iv (l:=l) hgs;refine ⟨by simp[J],fun i o' ho =>?_⟩;cases i with
  |zero=>simp only[List.getElem?_cons_zero,v6] at ho;subst ho;exact ⟨g,rfl,hg⟩
  |succ i=>simpa using U i o' (by simpa using ho)
theorem Vn{K:ai→Prop}{aV:Array Oper}{Q:Exit→Act→World→Prop}{o:Oper}{g:aH}{rest:List aH}{A:ai}{a:Act}{w:World}{Kw:Act→World→Prop}(hg:lF c.P c.n aV o=some g)(hwp:aR c.P c.Y true K (aB (g::rest) A))(ab:b5 c A a w)
  (hK:∀ B a' w',aR c.P c.Y true K (aB rest B)→b5 c B a' w'→Kw a' w'):if Region.wanted o (yielded aV a.tmps) then o.wpIn c.bC 9 c.P a w Kw Q else (∀ f,o.about c.P w a.eval=some f→c.bC.fn f)∧Kw (a.put o.dst undef) w:=by
 obtain ⟨J,U,ah,ar⟩:=nB hg;have step:aR c.P c.Y true K (bl A g.dst g.op rest (aB rest))→o.wpIn c.bC 9 c.P a w Kw Q:=fun h =>
  sP J U.symm (by rw[U];exact ah) h ab (fun B a' w' hw hs'=>hK B a' w' hw hs')
 simp only[aB] at hwp;rcases ar with ⟨h5,h6⟩ | ⟨j,b,t,h5,h6,h7⟩
 ·rw[h6] at hwp;have hw:Region.wanted o (yielded aV a.tmps)=true:=by simp[Region.wanted,h5]
  rw[hw,if_pos rfl];exact step hwp
 ·rw[h7] at hwp;simp only at hwp;split at hwp
  ·rename_i b' hb';rw[sV ab h5 h6 hb'];split at hwp
   ·rename_i hbb;subst hbb;simp only[BEq.rfl,if_true];exact step hwp
   ·rename_i hbb;have:(b'==b)=false:=by simpa using hbb
    rw[this];simp only[Z2,if_false];exact ⟨fun f _=>lN c f,hK _ _ _ hwp (by rw[U];exact ab.mY ah)⟩
  ·rename_i hb';rw[sW ab h5 h6 hb'];simp only[Z2,if_false];exact ⟨fun f _=>lN c f,hK _ _ _ hwp (by rw[U];exact ab.mY ah)⟩
  ·cases hwp
theorem G6{K:ai→Prop}{aV:Array Oper}{gs:List aH}{Q:Exit→Act→World→Prop}(hQ:∀ B a w,K B→b5 c B a w→Q .normal a w)(hgs:fO c.P c.n aV aV.toList=some gs)(af:um aV.toList gs) :
  ∀ (fuel:Nat) (listed:Array Bool) (A:ai) (a:Act) (w:World),listed.size=aV.size→(∀ i o,aV.toList[i]?=some o→listed.getD i false=true→∀ k∈cw o,listed.getD k false=true)→(iL listed aV.size).length≤fuel →
   aR c.P c.Y true K (aB (oe gs listed aV.size) A)→b5 c A a w→wpAnyIn c.bC 9 c.P .any aV Q fuel listed a w:=by
 obtain ⟨hlen,hat⟩:=iv hgs;have onOf_mem:∀ (o:Oper) (e:Edge),e∈o.after→Region.binds .any e=true→e.on∈cw o:=fun o e he hb=>by
  simp only[cw,zy1,zx5];exact ⟨e,⟨by simpa using he,hb⟩,rfl⟩
 have of_onOf:∀ (o:Oper) (k:Nat),k∈cw o→∃ e∈o.after,Region.binds .any e=true∧e.on=k:=fun o k hk=>by
  simp only[cw,zy1,zx5] at hk;obtain ⟨e,⟨J,U⟩,ah⟩:=hk;exact ⟨e,by simpa using J,U,ah⟩
 have last:∀ (listed:Array Bool) (A:ai) (a:Act) (w:World),listed.size=aV.size→Region.ready .any aV listed=[]→aR c.P c.Y true K (aB (oe gs listed aV.size) A)→b5 c A a w→Q .normal a w:=by
  intro listed A a w hsz hr hwp ab;have hnone:iL listed aV.size=[]:=by
   have all:∀ n,∀ i,i<n→i<aV.size→listed.getD i true=true:=by
    intro n
    induction n with
    |zero=>intro i hi;omega
    |succ n ih =>
     intro i hi his;cases hb:listed.getD i true with
     |true=>rfl
     |false =>
      exfalso
      have ho:aV[i]?=some aV[i]:=zw0 his;have:i∈Region.ready .any aV listed:=mem_ready.2 ⟨hb,aV[i],ho,fun e he hbd=>by
       have hlt:=af.iu i aV[i] (by simp) e.on (onOf_mem _ e he hbd);have J:=ih e.on (by omega) (by omega);have U:e.on<listed.size:=by omega
       simpa[Array.getD_eq_getD_getElem?,U] using J⟩
      rw[hr] at this;cases this
   simp only[iL];refine List.filter_eq_nil_iff.2 fun i hi =>?_;have:=all (i+1) i (by omega) (zy6.1 hi);simp only[this,Bool.not_true,Z2,not_false_eq_true]
  simp only[oe,hnone,zx0,aB] at hwp;cases hwp with
  |done hk=>exact hQ A a w hk ab
 intro fuel
 induction fuel with
 |zero =>
  intro listed A a w hsz hcl hcnt hwp ab;have hnone:iL listed aV.size=[]:=List.length_eq_zero_iff.1 (by omega);have hr:Region.ready .any aV listed=[]:=by
   refine List.eq_nil_iff_forall_not_mem.2 fun i hi =>?_;obtain ⟨J,o,ho,_⟩:=mem_ready.1 hi;have:i∈iL listed aV.size:=by
    simp only[iL,zx5,zy6,J,Bool.not_false,and_true];exact (zz2.1 ho).1
   rw[hnone] at this;cases this
  exact ⟨hr,last listed A a w hsz hr hwp ab⟩
 |succ fuel ih =>
  intro listed A a w hsz hcl hcnt hwp ab;refine ⟨fun hr=>last listed A a w hsz hr hwp ab,fun i hi =>?_⟩;obtain ⟨hun,o,ho,hall⟩:=mem_ready.1 hi;have hin:i<aV.size:=(zz2.1 ho).1;obtain ⟨l1,l2,e1,e2,hl1⟩:=YO hin hsz hun;have hol:aV.toList[i]?=some o:=by simpa using ho
  obtain ⟨g,hgi,hcg⟩:=hat i o hol;have hon:∀ k∈cw o,listed.getD k false=true:=fun k hk=>by
   obtain ⟨e,J,U,ah⟩:=of_onOf o k hk;exact ah▸hall e J U
  have hgd:gs.getD i default=g:=by simp[Z0,hgi]
  have hwp':aR c.P c.Y true K (aB (g::oe gs (listed.setIfInBounds i true) aV.size) A):=by
   simp only[oe,e1,zz3,Z3,hgd] at hwp;simp only[oe,e2,zz3];refine aR.nA (fun j hj =>?_) hwp;obtain ⟨k,hk,rfl⟩:=zy1.1 hj;obtain ⟨hk1,hk2⟩:=hl1 k hk;refine af.pg (fun k=>listed.getD k false=true) hcl i o g k hol hgi hon hk1 ?_;have hks:k<listed.size:=by omega
   simp[Array.getD_eq_getD_getElem?,hks] at hk2 ⊢;exact hk2
  unfold wpOpIn;rw[ho];refine Vn hcg hwp' ab fun B a' w' hw hs'=>ih _ B a' w' (by simpa using hsz) ?_ ?_ hw hs'
  ·intro m om hom hm k hk;by_cases hmi:m=i
   ·subst hmi;rw[hol,v6] at hom;subst hom;exact getD_set_true (hon k hk)
   ·rw[getD_set_ne false (Ne.symm hmi)] at hm;exact getD_set_true (hcl m om hom hm k hk)
  ·have:(iL listed aV.size).length=(iL (listed.setIfInBounds i true) aV.size).length+1:=by
    rw[e1,e2];simp;omega
   omega
theorem YN{K:ai→Prop}{aV:Array Oper}{gs:List aH}{Q:Exit→Act→World→Prop}{id:Nat}{A:ai}{a:Act}{w:World}(hm:c.P.follows .mixedOrders=true)(hQ:∀ B a w,K B→b5 c B a w→Q .normal a w)(hgs:fO c.P c.n aV aV.toList=some gs)(af:um aV.toList gs)
  (hwp:aR c.P c.Y true K (aB gs A)) (ab:b5 c A a w):(Code.region id aV true).wpIn c.bC 9 c.P Q a w:=by
 refine wpIn_region_any hm (G6 hQ hgs af aV.size (Array.replicate aV.size false) A a _ (by simp) ?_ ?_ ?_ ?_)
 ·intro i o _ h
  exfalso
  simp only[Array.getD_eq_getD_getElem?,Array.getElem?_replicate] at h;split at h <;>simp at h
 ·rw[EK];simp
 ·have aq:=(iv hgs).1;simp only[zy2] at aq;simp only[oe,EK];rw[←aq,W2];exact hwp
 ·obtain ⟨D,E,ab⟩:=ab;exact ⟨D,E,ab.grow (w' := { w with drawn:=w.drawn+1 }) ⟨rfl,rfl,rfl,Z4 _,fun _ _=>rfl⟩ (fun _ _ h=>h) (fun _ _ h _=>h) (fun b o h=>ab.aQ b o h)⟩
end
inductive bu where
 |cu (on:Option (List (List Nat))) (gs:List aH)
 |seq (x y:bu)
 |cond (b:aO) (x y:bu)
 |block (id:Nat) (x:bu)
 |loop (x:bu)
 |exit (id:Nat)
 |ret
 |skip
 |scope (x:bu)
 |label
 |uN
 |mc (f:aO) (ps:List Nat) (x y:bu)
 deriving Inhabited
def eA(P:Program)(n:Nat):Code→Option bu
 | .region _ aV draw=>match fO P n aV aV.toList with
  |some gs=>if (!draw||P.follows .mixedOrders)=true then some (.cu (bif draw then some (aV.toList.map cw) else none) gs) else none
  |none=>some .uN
 | .seq x y=>match eA P n x,eA P n y with
  |some x,some y=>some (.seq x y)
  |_,_=>none
 | .cond b x y=>match bx P 0 b,eA P n x,eA P n y with
  |some b,some x,some y=>some (.cond b x y)
  |_,_,_=>none
 | .block id x=>match eA P n x with
  |some x=>some (.block id x)
  |none=>none
 | .loop x=>match eA P n x with
  |some x=>some (.loop x)
  |none=>none
 | .exit id=>some (.exit id)
 | .ret=>some .ret
 | .skip=>some .skip
 | .scope x=>match eA P n x with
  |some x=>some (.scope x)
  |none=>none
 | .label _=>some .label
 | .rangeFunc f ps x y=>match bx P 0 f,eA P n x,eA P n y with
  |some f,some x,some y=>if (ps.toList.all fun p=>p<n)=true then some (.mc f ps.toList x y) else none
  |_,_,_=>none
 |_=>none
def tc(c:cV)(Q:Exit→ai→Prop):Exit→Act→World→Prop:=fun e a w=>∃ A,Q e A∧b5 c A a w
def ae(c:cV)(x:bu)(Q:Exit→ai→Prop)(A:ai):Prop :=
 ∀ code,eA c.P c.n code=some x→∀ a w,b5 c A a w→code.wpIn c.bC 9 c.P (tc c Q) a w
def ez(k:ai→Prop)(Q:Exit→ai→Prop):Exit→ai→Prop
 | .normal,A=>k A
 |e,A=>Q e A
def jI(id:Nat)(Q:Exit→ai→Prop):Exit→ai→Prop
 | .exit id',A=>if id'=id then Q .normal A else Q (.exit id') A
 |e,A=>Q e A
section
variable {c:cV} {A:ai} {Q:Exit→ai→Prop}
def L7(d:Option (List (List Nat)))(gs:List aH)(cl:List Nat):Bool:=match d with
 |none=>true
 |some on=>sF on gs cl
theorem ae.cu{d:Option (List (List Nat))}{gs:List aH}{cl:List Nat}(af:L7 d gs cl=true)(h:∀ K:ai→Prop,(∀ B,Q .normal B→K B)→aR c.P c.Y d.isSome K (aB gs A)):ae c (.cu d gs) Q A:=by
 intro code hc a w ab;cases code <;>simp only[eA] at hc <;>try (first | (cases hc;done) | ((repeat' split at hc) <;>cases hc;done))
 rename_i id aV draw;split at hc
 ·rename_i gs' hgs;split at hc
  case isFalse=>cases hc
  rename_i hok;simp only[v6,bu.cu.injEq] at hc;obtain ⟨rfl,rfl⟩:=hc;cases draw with
  |false=>exact wpIn_region_list (sU (K:=Q .normal) (fun B a w hk ab=>⟨B,hk,ab⟩) aV.toList gs' A a w hgs (h _ fun _ hb=>hb) ab)
  |true =>
   simp only[Bool.not_true,Bool.false_or] at hok;exact YN (K:=Q .normal) hok (fun B a w hk ab=>⟨B,hk,ab⟩) hgs (Mq (iv hgs).1 af) (h _ fun _ hb=>hb) ab
 ·cases hc
theorem ae.seq{x y:bu}(h:ae c x (ez (fun B=>ae c y Q B) Q) A):ae c (.seq x y) Q A:=by
 intro code hc a w ab;cases code <;>simp only[eA] at hc <;>try (first | (cases hc;done) | ((repeat' split at hc) <;>cases hc;done))
 rename_i cx cy;split at hc
 ·rename_i x' y' hx hy;simp only[v6,bu.seq.injEq] at hc;obtain ⟨rfl,rfl⟩:=hc;refine wpIn_seq (wpIn_mono (h cx hx a w ab) ?_);rintro e a' w' ⟨B,hq,hs'⟩;cases e <;>simp only[ez,Exit.then] at * <;>first | exact hq cy hy a' w' hs' | exact ⟨B,hq,hs'⟩
 ·cases hc
theorem ae.cond{b:aO}{x y:bu}{t:Bool}(hb:ak A b=.bool t)(J:t=true→ae c x Q A)(U:t=false→ae c y Q A):ae c (.cond b x y) Q A:=by
 intro code hc a w ab;cases code <;>simp only[eA] at hc <;>try (first | (cases hc;done) | ((repeat' split at hc) <;>cases hc;done))
 rename_i cb cx cy;split at hc
 ·rename_i b' x' y' hb' hx hy;simp only[v6,bu.cond.injEq] at hc;obtain ⟨rfl,rfl,rfl⟩:=hc;obtain ⟨D,E,hs'⟩:=ab;have hv:=bX hs' hb';rw[hb] at hv;exact wpIn_cond_split (kv hv) (fun ht=>J ht cx hx a w ⟨D,E,hs'⟩) (fun ht=>U ht cy hy a w ⟨D,E,hs'⟩)
 ·cases hc
theorem ae.block{id:Nat}{x:bu}(h:ae c x (jI id Q) A):ae c (.block id x) Q A:=by
 intro code hc a w ab;cases code <;>simp only[eA] at hc <;>try (first | (cases hc;done) | ((repeat' split at hc) <;>cases hc;done))
 rename_i id' cx;split at hc
 ·rename_i x' hx;simp only[v6,bu.block.injEq] at hc;obtain ⟨rfl,rfl⟩:=hc;refine wpIn_block (wpIn_mono (h cx hx a w ab) ?_);rintro e a' w' ⟨B,hq,hs'⟩;cases e <;>simp only[jI,Exit.inBlock] at * <;>first
   |exact ⟨B,hq,hs'⟩
   |(split at hq
     ·rename_i he;rw[if_pos he];exact ⟨B,hq,hs'⟩
     ·rename_i he;rw[if_neg he];exact ⟨B,hq,hs'⟩)
 ·cases hc
theorem ae.exit{id:Nat}(h:Q (.exit id) A):ae c (.exit id) Q A:=by
 intro code hc a w ab;cases code <;>simp only[eA] at hc <;>try (first | (cases hc;done) | ((repeat' split at hc) <;>cases hc;done))
 simp only[v6,bu.exit.injEq] at hc;subst hc;exact wpIn_exit ⟨A,h,ab⟩
theorem ae.ret(h:Q .ret A):ae c .ret Q A:=by
 intro code hc a w ab;cases code <;>simp only[eA] at hc <;>try (first | (cases hc;done) | ((repeat' split at hc) <;>cases hc;done))
 exact wpIn_ret ⟨A,h,ab⟩
theorem ae.skip(h:Q .normal A):ae c .skip Q A:=by
 intro code hc a w ab;cases code <;>simp only[eA] at hc <;>try (first | (cases hc;done) | ((repeat' split at hc) <;>cases hc;done))
 exact wpIn_skip ⟨A,h,ab⟩
theorem A6{p:Nat→Prop}(h:∃ n,p n):∃ n,p n∧∀ m,p m→n≤m:=by
 obtain ⟨n,hn⟩:=h
 induction n using Nat.strongRecOn with
 |_ n ih =>
  by_cases hm:∃ m,m<n∧p m
  ·obtain ⟨m,J,U⟩:=hm;exact ih m J U
  ·exact ⟨n,hn,fun m hp=>Nat.le_of_not_lt fun hlt=>hm ⟨m,hlt,hp⟩⟩
open Classical in
noncomputable def least(p:Nat→Prop):Nat:=if h:∃ n,p n then (A6 h).choose else 0
theorem Ce{p:Nat→Prop}(h:∃ n,p n):p (least p)∧∀ m,p m→least p≤m:=by
 simp only[least,dif_pos h];exact (A6 h).choose_spec
theorem ZU{bC:Fence}{N:Nat}{P:Program}{code:Code}{QQ:Exit→Act→World→Prop}(bf:Nat→Act→World→Prop)(round:∀ n a w,bf n a w→code.wpIn bC N P (Exit.then (fun a' w'=>∃ m,m<n∧bf m a' w') QQ) a w) :
  ∀ n a w,bf n a w→(Code.loop code).wpIn bC N P QQ a w:=by
 intro n a w h;refine wpIn_loop (fun a w=>∃ n,bf n a w) (fun a w=>least fun n=>bf n a w) ⟨n,h⟩ ?_;intro a w hI;have hm:=(Ce hI).1;refine wpIn_mono (round _ a w hm) ?_;intro e a' w' hq;cases e <;>simp only[Exit.then] at hq ⊢ <;>try exact hq
 obtain ⟨m,J,U⟩:=hq;exact ⟨⟨m,U⟩,Nat.lt_of_le_of_lt ((Ce ⟨m,U⟩).2 m U) J⟩
def bm(A B:ai):Prop:=∀ (c:cV) (a:Act) (w:World),b5 c A a w→b5 c B a w
theorem bm.refl(A:ai):bm A A:=fun _ _ _ h=>h
theorem bm.trans{A B C:ai}(h:bm A B)(k:bm B C):bm A C:=fun c a w ab=>k c a w (h c a w ab)
theorem ae.sub{x:bu}{B:ai}(hsub:bm A B)(h:ae c x Q B):ae c x Q A:=fun code hc a w ab=>h code hc a w (hsub c a w ab)
theorem ae.mono{x:bu}{Q':Exit→ai→Prop}(h:ae c x Q A)(hq:∀ e B,Q e B→Q' e B):ae c x Q' A :=
 fun code hc a w ab=>wpIn_mono (h code hc a w ab) fun e a' w' ⟨B,J,U⟩=>⟨B,hq e B J,U⟩
theorem ae.loop{σ:Type}(S:σ→ai)(C:σ→Prop)(m:σ→Nat)(s0:σ){x:bu}(aW:C s0)(hsub:bm A (S s0))
  (round:∀ s,C s→ae c x (ez (fun B=>∃ s',C s'∧m s'<m s∧bm B (S s')) Q) (S s)):ae c (.loop x) Q A:=by
 intro code hc a w ab;cases code <;>simp only[eA] at hc <;>try (first | (cases hc;done) | ((repeat' split at hc) <;>cases hc;done))
 rename_i cx;split at hc
 ·rename_i x' hx;simp only[v6,bu.loop.injEq] at hc;subst hc;refine ZU (fun n a w=>∃ s,C s∧m s=n∧b5 c (S s) a w) ?_ (m s0) a w ⟨s0,aW,rfl,hsub c a w ab⟩;rintro n a w ⟨s,hC,rfl,ab⟩;refine wpIn_mono (round s hC cx hx a w ab) ?_;rintro e a' w' ⟨B,hq,hs'⟩;cases e <;>simp only[ez,Exit.then] at * <;>first
   |exact ⟨B,hq,hs'⟩
   |(obtain ⟨s',J,U,ah⟩:=hq;exact ⟨m s',U,s',J,rfl,ah c a' w' hs'⟩)
 ·cases hc
end
inductive bN where
 |tmp (t:Nat)
 |cell (a:Nat) (s:Option Nat)
def gQ(P:Program):List ResultVar→Option (List bN)
 | []=>some []
 | .tmp t::l=>(gQ P l).map (.tmp t :: ·)
 | .cell a t::l=>match fQ P t,gQ P l with
  |some s,some l=>some (.cell a s::l)
  |_,_=>none
def tM(A:ai):bN→Option I
 | .tmp t=>bj true A (A.t t)
 | .cell a s=>match cM A (A.t a) with
  |some x=>if cg s x then bj true A x else none
  |none=>none
def fg(A:ai):List bN→Option (List I)
 | []=>some []
 |r::rs=>match tM A r,fg A rs with
  |some x,some xs=>some (x::xs)
  |_,_=>none
def jU:List I→I
 | [x]=>x
 |xs=>.tuple xs
def oB(args:List I):ai:=⟨fun t=>args.getD t .undef,fun _=>none⟩
def kq(rs:List bN)(r:I):Exit→ai→Prop
 | .ret,A=>∃ xs,fg A rs=some xs∧jU xs=r
 | .normal,A=>∃ xs,fg A rs=some xs∧jU xs=r
 |_,_=>False
def oC(args:List I)(os:List (Nat×ao)):ai:=⟨fun t=>args.getD t .undef,aj os⟩
theorem xT{P:Program}{n:Nat}{w:World}{D:aP}{E:aY}{Y:Value→List I→List (Nat×ao)→cK→Prop}{args:List I}{os:List (Nat×ao)}{vs:List Value}(hD:∀ b o,D b o→b<w.heap.size)(ho:jF (fun _=>True) w D E (aj os))
  (hv:aI w D E args vs) (hn:vs.length≤n) (hos:∀ m,aw os m=true→n≤m∧1000000≤m) (hy:oJ ⟨P,w,D,n,cL E,E,Y,none,none⟩) :
  aU ⟨P,w,D,n,cL E,E,Y,none,none⟩ (oC args os) { tmps:=vs.toArray++Array.replicate (n-vs.toArray.size) undef,defers:=[] } w D E:=by
 refine ⟨by simp;omega,⟨[],rfl,.nil,fun _ h=>by simp at h⟩,fun t =>?_,eY.refl _ _,fun _ _ h _=>h,hD,fun m =>?_,ho.cQ,fun m e h=>.inr ⟨e,h,.refl e⟩,fun m hm =>?_,fun _ _ h=>h,hy,.refl _ _⟩
 ·have key:∀ (args:List I) (vs:List Value) (t:Nat),aI w D E args vs→aZ w D E (args.getD t .undef) (vs.getD t undef):=by
   intro args
   induction args with
   |nil=>intro vs t h;simp only[aI] at h;subst h;simp[aZ]
   |cons x xs ih =>
    intro vs t h;simp only[aI] at h;obtain ⟨v,rest,cs,rfl,J,U,ah⟩:=h;cases t with
    |zero=>simpa using ju J U
    |succ t=>simpa using ih rest t ah
  have:=key args vs t hv;have e:(vs.toArray++Array.replicate (n-vs.toArray.size) undef).getD t undef=vs.getD t undef:=by
   simp only[Array.getD_eq_getD_getElem?,Z0];rcases Nat.lt_or_ge t vs.length with h | h
   ·rw[Array.getElem?_append_left (by simpa using h)];simp
   ·rw[Array.getElem?_append_right (by simpa using h),zx2 h];simp only[Array.getElem?_replicate];split <;>rfl
  simp only[oC];rw[e];exact this
 ·have h:=ho.bP m;simp only[oC];cases hx:aj os m with
  |none=>rw[hx] at h;exact h
  |some x =>
   rw[hx] at h;cases x with
   |box x =>
    obtain ⟨b,cs,T,k1,_,k3⟩:=h;exact ⟨b,cs,T,k1,.inr ⟨m,_,k1,rfl⟩,k3⟩
   |bU T sz es =>
    obtain ⟨aJ,k1,k2,k3⟩:=h;refine ⟨aJ,k1,k2,?_⟩;cases aJ with
    |none=>exact k3
    |some bc =>
     obtain ⟨b,cap⟩:=bc;obtain ⟨cs,pre,rest,_,k4⟩:=k3;exact ⟨cs,pre,rest,.inr ⟨m,_,k1,rfl⟩,k4⟩
   |dK T xs =>
    obtain ⟨aJ,k1,k2,k3⟩:=h;refine ⟨aJ,k1,k2,?_⟩;cases aJ with
    |none=>exact k3
    |some bc =>
     obtain ⟨b,cap⟩:=bc;obtain ⟨cs,rest,_,k4⟩:=k3;exact ⟨cs,rest,.inr ⟨m,_,k1,rfl⟩,k4⟩
   |dJ x =>
    obtain ⟨b,k1,_,k3⟩:=h;exact ⟨b,k1,.inr ⟨m,_,k1,rfl⟩,k3⟩
   |bz ks vs =>
    obtain ⟨b,es,ck,k1,_,k3⟩:=h;exact ⟨b,es,ck,k1,.inr ⟨m,_,k1,rfl⟩,k3⟩
   |it ks vs left cur =>
    obtain ⟨r,b,es,ck,si,se,la,k1,_,k3⟩:=h;exact ⟨r,b,es,ck,si,se,la,k1,.inr ⟨m,_,k1,rfl⟩,k3⟩
 ·have h:=ho.bP m;refine hos m ?_;cases hx:aj os m with
  |none=>rw[hx] at h;exact absurd h hm
  |some x=>simp[aw,hx]
def rH(tmps:Array Value):ResultVar→Sem Value
 | .tmp t=>pure (tmps.getD t undef)
 | .cell a t=>do loadVar t (←asAddr (tmps.getD a undef))
theorem YY(fn:Func)(tmps:Array Value):results fn tmps=(do
  let vs ←fn.results.mapM (rH tmps)
  pure (if h:vs.size=1 then vs[0] else .tuple vs)):=by
 unfold results;rfl
def ru(A:ai):bN→Option I
 | .tmp t=>some (A.t t)
 | .cell a s=>match cM A (A.t a) with
  |some x=>if cg s x then some x else none
  |none=>none
def l9(A A0:ai)(os:List (Nat×ao)):List bN→List I→Prop
 | [],[]=>True
 |r::rs,y::ys=>(∃ x,ru A r=some x∧((y=x∧x.bT=true∧x.only (aw os)=true)∨bj true A0 x=some y))∧l9 A A0 os rs ys
 |_,_=>False
def ai.ky(A:ai)(os:List (Nat×ao)):ai:=⟨A.t,fun n=>if aw os n then none else A.o n⟩
def iX(rs:List bN)(post:cK)(A:ai):Prop :=
 ∃ (os:List (Nat×ao)) (xs:List I),(∀ n x,aj os n=some x→A.o n=some x∧x.only (aw os)=true∧x.eg=true)∧l9 A (A.ky os) os rs xs∧post (jU xs) os
def og(rs:List bN)(post:cK):Exit→ai→Prop
 | .ret,A=>iX rs post A
 | .normal,A=>iX rs post A
 |_,_=>False
theorem xt{c:cV}{A:ai}{a:Act}{w:World}{D:aP}{E:aY}(ab:aU c A a w D E){A0:ai}(hu:ep A0 A){os:List (Nat×ao)}{D':aP}{E':aY}(hw:h2 true A0 D E D')(aA:∀ n,aw os n=true→E' n=E n)(hE':∀ n,aw os n=false→E' n=none) :
  ∀ (rs:List ResultVar) (ls:List bN) (xs:List I),gQ c.P rs=some ls→l9 A A0 os ls xs→∃ vs:List Value,(rs.mapM (rH a.tmps)).run c.P w=.ok vs w∧aI w D' E' xs vs
 | [],ls,xs,hc,hr=>by
  simp only[gQ,v6] at hc;subst hc;cases xs with
  |nil=>exact ⟨[],by simp,by simp[aI]⟩
  |cons x xs=>simp[l9] at hr
 |r::rs,ls,xs,hc,hr=>by
  have aq:dW w D E' w D' E':=⟨hw.c9,fun _ _ _ _ h=>h,fun _ _ _ h=>h,fun _ aJ l h=>⟨aJ,l,h,Z4 _,fun _=>rfl⟩,fun _ _ h=>h,fun _ _ h=>h,fun _ _ _ _ h=>h⟩
  have fin1:∀ {x y:I} {v:Value},aZ w D E x v→((y=x∧x.bT=true∧x.only (aw os)=true)∨bj true A0 x=some y)→∃ cs,bD y v cs∧al w D' E' y cs:=by
   intro x y v hv hf;rcases hf with ⟨rfl,J,U⟩ | hf
   ·have ah:=aZ.later aq (aZ.db aA U hv);cases y <;>simp only[aZ] at ah <;>first | (simp[I.bT] at J;done) | exact ah
   ·have J:aI w D E [x] [v]:=lh [x] [v] (.cons hv .nil) (by
     intro z hz;simp only[zy4] at hz;subst hz;cases z <;>simp_all[bj,I.bT])
    have U:=lL (E':=E') ab hu hw [x] [y] [v] J (by simp[b8,hf]);simp only[aI] at U;obtain ⟨v',rest,cs,e,k1,k2,_⟩:=U;simp only[zw2] at e;obtain ⟨rfl,_⟩:=e;exact ⟨cs,k1,k2⟩
  cases r with
  |tmp t =>
   simp only[gQ,t7] at hc;obtain ⟨ls',hl',rfl⟩:=hc;cases xs with
   |nil=>simp[l9] at hr
   |cons y ys =>
    simp only[l9] at hr;obtain ⟨⟨x,J,U⟩,ah⟩:=hr;simp only[ru,v6] at J;subst J;obtain ⟨vs,k1,k2⟩:=xt ab hu hw aA hE' rs ls' ys hl' ah;obtain ⟨cs,k3,k4⟩:=fin1 (ab.dR t) U;refine ⟨a.tmps.getD t undef::vs,?_,?_⟩
    ·simp only[List.mapM_cons,Sem.run_bind,rH,Sem.run_pure,Result.andThen_ok,k1]
    ·simp only[aI];exact ⟨_,vs,cs,rfl,k3,k4,k2⟩
  |cell ad t =>
   simp only[gQ] at hc;split at hc
   ·rename_i s ls' hk hl';simp only[v6] at hc;subst hc;cases xs with
    |nil=>simp[l9] at hr
    |cons y ys =>
     simp only[l9] at hr;obtain ⟨⟨x,J,U⟩,ah⟩:=hr;obtain ⟨vs,k1,k2⟩:=xt ab hu hw aA hE' rs ls' ys hl' ah;simp only[ru] at J;split at J
     ·rename_i z hz;split at J
      ·rename_i hok;simp only[v6] at J;subst J;obtain ⟨b,off,cs,q1,q2,q3⟩:=ab.yK (ab.dR ad) hz;obtain ⟨v,q4,q5⟩:=Fb hk hok q2 q3;obtain ⟨cs',k3,k4⟩:=fin1 q5 U;refine ⟨v::vs,?_,?_⟩
       ·have e:(rH a.tmps (.cell ad t)).run c.P w=.ok v w:=by
         simp only[rH,Sem.run_bind,q1,asAddr,Sem.run_pure,Result.andThen_ok,q4]
        simp only[List.mapM_cons,Sem.run_bind,Sem.run_pure,Result.andThen_ok,k1,e]
       ·simp only[aI];exact ⟨_,vs,cs',rfl,k3,k4,k2⟩
      ·cases J
     ·cases J
   ·cases hc
theorem aU.AI{c:cV}{A:ai}{a:Act}{w:World}{D:aP}{E:aY}(h:aU c A a w D E)(hb:c.fq=none){B:Nat}{ds:List Deferred}(af:a.defers = { target:=.collected B,args := #[] } :: ds) :
  w.heap[B]?=some (.deferred (some []))∧aU c A { a with defers:=ds } (w.putObj B (.deferred none)) D E:=by
 have hdf:=h.eB;rw[hb] at hdf;obtain ⟨Bs,J,U,ah⟩:=hdf;rw[af] at J;cases Bs with
 |nil=>cases J
 |cons B' Bs =>
  simp only[Z3,zw2,Deferred.mk.injEq,Target.collected.injEq,and_true] at J;obtain ⟨rfl,rfl⟩:=J;have hB:=ah B (by simp);have hlt:B<w.heap.size:=(zz2.1 hB.2).1;have aq:dW w D E (w.putObj B (.deferred none)) D E :=
   ⟨fun _ _ h=>h,fun b o v _ hv=>vc hB.2 rfl hv,fun _ _ _ h=>h,fun _ aJ l h=>⟨aJ,l,h,Z4 _,fun _=>rfl⟩,fun _ _ h=>h,fun _ _ h=>h,fun b es ck _ hm=>(World.putObj_heap_other (fun e=>by rw[e,hB.2] at hm;cases hm)).trans hm⟩
  have hne:∀ {b:Nat} {cs:Array Value} {T:TypeId},w.heap[b]?=some (.cells cs T (0,0))→(w.putObj B (.deferred none)).heap[b]?=w.heap[b]?:=fun {b cs T} hb =>
   World.putObj_heap_other (fun e=>by rw[e,hB.2] at hb;cases hb)
  refine ⟨hB.2,h.sz,by rw[hb];refine ⟨Bs,rfl,(List.nodup_cons.1 U).2,fun B2 hB2=>⟨(ah B2 (by simp[hB2])).1,?_⟩⟩;rw[World.putObj_heap_other (fun e=>(List.nodup_cons.1 U).1 (by rw[←e];exact hB2))];exact (ah B2 (by simp[hB2])).2,fun t=>aZ.later aq (h.dR t),h.dO.trans ⟨rfl,rfl,rfl,by simp,fun k hk =>?_⟩,h.c9,fun b o af=>by have:=h.aQ b o af;simpa using this,fun n =>?_,h.cQ,h.dS,h.eP,h.cT,h.eW,h.kz aq⟩
  ·exact World.putObj_heap_other (fun e=>hk (e▸.inl hB.1))
  ·refine (h.bP n).later aq rfl fun e b he hb=>⟨?_,fun _ h=>h⟩
   have hob:=h.bP n;unfold c6 at hob;split at hob
   ·rw[hob] at he;cases he
   ·obtain ⟨b',cs,T,k1,_,k3,_⟩:=hob;rw[k1,v6] at he;subst he;simp only[bM.aJ,v6] at hb;subst hb;exact hne k3
   ·obtain ⟨aJ,k1,_,k3⟩:=hob;rw[k1,v6] at he;subst he;split at k3
    ·simp[bM.aJ] at hb
    ·obtain ⟨cs,pre,rest,_,k5,_⟩:=k3;simp only[bM.aJ,v6] at hb;subst hb;exact hne k5
   ·obtain ⟨b',k1,_,k3,k4,_⟩:=hob;rw[k1,v6] at he;subst he;simp only[bM.aJ,v6] at hb;subst hb;exact World.putObj_heap_other (fun e=>by rw[e,hB.2] at k3;cases k3;cases k4)
   ·obtain ⟨b',es,ck,k1,_,k3,_⟩:=hob;rw[k1,v6] at he;subst he;cases hb;exact World.putObj_heap_other (fun e=>by rw[e,hB.2] at k3;cases k3)
   ·obtain ⟨r,b',es,ck,si,se,la,k1,_,k3,_⟩:=hob;rw[k1,v6] at he;subst he;cases hb;exact World.putObj_heap_other (fun e=>by rw[e,hB.2] at k3;cases k3)
   ·obtain ⟨aJ,k1,_,k3⟩:=hob;rw[k1,v6] at he;subst he;split at k3
    ·simp[bM.aJ] at hb
    ·obtain ⟨cs,m,_,k5,_⟩:=k3;simp only[bM.aJ,v6] at hb;subst hb;exact hne k5
def lA(w:World)(D:aP)(E:aY)(post:cK)(v:Value)(w':World):Prop :=
 ∃ D' E' r os',post r os'∧aZ w' D' E' r v∧jF (fun b=>w.heap.size≤b∨cL E b) w' D' E' (aj os') ∧
  eY (fun b=>w.heap.size≤b∨cL E b) w w'∧(∀ b o,D b o→D' b o)∧(∀ b o,D' b o→b<w'.heap.size)∧(∀ b o,D' b o→b<w.heap.size→¬ cL E b→D b o) ∧
  (∀ n e,E n=some e→aw os' n=true→∃ e',E' n=some e'∧e.le e')∧gN w D w'
theorem aU.wz{P:Program}{n:Nat}{w:World}{D:aP}{E:aY}{Y:Value→List I→List (Nat×ao)→cK→Prop}{lf:Option Nat}{fq:Option (List Deferred)}{A:ai}{a:Act}{w':World}{D':aP}{E':aY}
  (ab:aU ⟨P,w,D,n,cL E,E,Y,lf,fq⟩ A a w' D' E') {os:List (Nat×ao)} (J:∀ n x,aj os n=some x→A.o n=some x∧x.only (aw os)=true∧x.eg=true) :
  ∃ D2 E2,h2 true (A.ky os) D' E' D2∧(∀ n,aw os n=true→E2 n=E' n)∧(∀ n,aw os n=false→E2 n=none)∧jF (fun b=>w.heap.size≤b∨cL E b) w' D2 E2 (aj os) ∧
   eY (fun b=>w.heap.size≤b∨cL E b) w w'∧(∀ b o,D b o→D2 b o)∧(∀ b o,D2 b o→b<w'.heap.size)∧(∀ b o,D2 b o→b<w.heap.size→¬ cL E b→D b o) ∧
   (∀ n e,E n=some e→aw os n=true→∃ e',E2 n=some e'∧e.le e')∧gN w D w':=by
 obtain ⟨c,hc⟩:∃ c:cV,c=⟨P,w,D,n,cL E,E,Y,lf,fq⟩:=⟨_,rfl⟩
 rw[←hc] at ab;have hM:c.eZ=fun b=>w.heap.size≤b∨cL E b:=by rw[hc];rfl
 obtain ⟨E2,hE2⟩:∃ E2:aY,E2=fun n=>if aw os n then E' n else none:=⟨_,rfl⟩
 obtain ⟨D2,hD2⟩:∃ D2:aP,D2=fun b o=>b<w'.heap.size∧(D' b o∨(¬ cL E2 b∧c.eZ b)):=⟨_,rfl⟩
 have e2:∀ n,aw os n=true→E2 n=E' n:=fun n hn=>by rw[hE2];simp only[hn,if_true]
 have cut:∀ n e,E2 n=some e→aw os n=true∧E' n=some e:=fun n e he=>by
  rw[hE2] at he;simp only at he;split at he
  ·exact ⟨by assumption,he⟩
  ·cases he
 have up2:∀ b o,D' b o→D2 b o:=fun b o af=>by
  rw[hD2];exact ⟨ab.aQ b o af,.inl af⟩
 have down:∀ b o,D2 b o→cL E2 b→D' b o:=fun b o af hb=>by
  rw[hD2] at af;rcases af.2 with h | h
  ·exact h
  ·exact absurd hb h.1
 have hu:ep (A.ky os) A:=fun n x hx=>by
  simp only[ai.ky] at hx;split at hx
  ·cases hx
  ·exact hx
 have notOwn:∀ n e b,(A.ky os).o n≠none→E' n=some e→e.aJ=some b→¬ cL E2 b:=fun n e b hn he hb ho=>by
  obtain ⟨m,e',k1,k3⟩:=ho;obtain ⟨k1,k2⟩:=cut m e' k1;have:=ab.cQ n m e _ b he k2 hb k3;subst this;simp[ai.ky,k1] at hn
 have hw:h2 true (A.ky os) D' E' D2:=by
  refine ⟨up2,fun n T sz es b cap hn aA o _ =>?_,fun _ n x b aX hn aA o _ =>?_,fun _ n ks vs b hn aA =>?_⟩
  ·rw[hD2];refine ⟨ab.fX aA rfl,.inr ⟨notOwn n _ b (by rw[hn];simp) aA rfl,?_⟩⟩;obtain ⟨aJ,k1,k2,k3⟩:=ab.bU (hu n _ hn);rw[aA] at k1;simp only[v6,bM.rw.injEq,and_true] at k1;subst k1;obtain ⟨_,_,_,k4,_⟩:=k3;exact k4
  ·rw[hD2];refine ⟨ab.fX aA rfl,.inr ⟨notOwn n _ b (by rw[hn];simp) aA rfl,?_⟩⟩;obtain ⟨b',cs,T,k1,k2,_⟩:=ab.box (hu n _ hn);rw[k1] at aA;simp only[v6,bM.aL.injEq] at aA;obtain ⟨rfl,_⟩:=aA;exact k2
  ·rw[hD2];refine ⟨ab.fX aA rfl,.inr ⟨notOwn n _ b (by rw[hn];simp) aA rfl,?_⟩⟩;obtain ⟨b',es,ck,k1,k2,_⟩:=ab.map (hu n _ hn);rw[k1] at aA;cases aA;exact k2
 have hst:gN w D w':=by
  have:=ab.fC;rw[hc] at this;exact this
 refine ⟨D2,E2,hw,e2,fun n hn=>by rw[hE2];simp[hn],⟨fun m =>?_,fun m m' e e' b g1 g2 g3 g4 =>?_⟩,?_,fun b o af=>up2 b o (ab.cT b o (by rw[hc];exact af)),fun b o af=>by rw[hD2] at af;exact af.1,fun b o af hlt hno =>?_,fun m e hm hin =>?_,hst⟩
 ·cases hx:aj os m with
  |none=>simp only[c6];rw[hE2];simp[aw,hx]
  |some x =>
   have hm:aw os m=true:=by simp[aw,hx]
   obtain ⟨k1,k2,k3⟩:=J m x hx;have ho:=ab.bP m;rw[k1] at ho;have hl2:dW w' D' E2 w' D2 E2:=⟨up2,fun _ _ _ _ h=>h,fun _ _ _ h=>h,fun _ aJ l h=>⟨aJ,l,h,Z4 _,fun _=>rfl⟩,fun _ _ h=>h,fun _ _ h=>h,fun _ _ _ _ h=>h⟩
   have nD:∀ e b,E' m=some e→e.aJ=some b→∀ o,D2 b o→D' b o:=fun e b he hb o af=>down b o af ⟨m,e,(e2 m hm).trans he,hb⟩;cases x with
   |bU T sz es =>
    obtain ⟨aJ,q1,q2,q3⟩:=ho;refine ⟨aJ,(e2 m hm).trans q1,q2,?_⟩;cases aJ with
    |none=>exact q3
    |some bc =>
     obtain ⟨b,cap⟩:=bc;obtain ⟨cs,pre,rest,g1,g2,g3,g4,g5,g6,g7,g8⟩:=q3;exact ⟨cs,pre,rest,by rw[←hM];exact g1,g2,g3,aN.later hl2 _ _ (aN.db e2 _ _ (by simpa[ao.only] using k2) g4),g5,g6,g7,fun o af=>g8 o (nD _ b q1 rfl o af)⟩
   |box y =>
    obtain ⟨b',cs,T,q1,q2,q3,q4,q5⟩:=ho;exact ⟨b',cs,T,(e2 m hm).trans q1,by rw[←hM];exact q2,q3,al.later hl2 _ _ (al.db e2 _ _ (by simpa[ao.only] using k2) q4),fun o af=>q5 o (nD _ b' q1 rfl o af)⟩
   |dJ o =>
    obtain ⟨b',q1,q2,q3,q4,q5⟩:=ho;exact ⟨b',(e2 m hm).trans q1,by rw[←hM];exact q2,q3,q4,fun o af=>q5 o (nD _ b' q1 rfl o af)⟩
   |bz ks vs =>
    obtain ⟨b',es,ck,q1,q2,q3,q4,q5,q6,q7⟩:=ho;simp only[ao.only,t8] at k2;exact ⟨b',es,ck,(e2 m hm).trans q1,by rw[←hM];exact q2,q3,q4,aI.later hl2 _ _ (aI.db e2 _ _ k2.1 q5),aI.later hl2 _ _ (aI.db e2 _ _ k2.2 q6),fun o af=>q7 o (nD _ b' q1 rfl o af)⟩
   |it ks vs left cur=>cases k3
   |dK T xs =>
    obtain ⟨aJ,q1,q2,q3⟩:=ho;refine ⟨aJ,(e2 m hm).trans q1,q2,?_⟩;cases aJ with
    |none=>exact q3
    |some bc =>
     obtain ⟨b,cap⟩:=bc;obtain ⟨cs,r,g1,g2,g3,g4,g5,g6,g7⟩:=q3;exact ⟨cs,r,by rw[←hM];exact g1,g2,g3,g4,g5,g6,fun o af=>g7 o (nD _ b q1 rfl o af)⟩
 ·exact ab.cQ m m' e e' b (cut m e g1).2 (cut m' e' g2).2 g3 g4
 ·rw[←hM];have:=ab.dO;rw[hc] at this ⊢;exact this
 ·rw[hD2] at af;have hnm:¬ c.eZ b:=by
    rw[hM];rintro (h | h);· omega
    ·exact hno h
  rcases af.2 with h | h
  ·have:=ab.c9 b o h hnm;rw[hc] at this;exact this
  ·exact absurd h.2 hnm
 ·rw[e2 m hin];have ho:A.o m≠none:=by
   cases hx:aj os m with
   |none=>simp[aw,hx] at hin
   |some x=>rw[(J m x hx).1];simp
  rcases ab.dS m e (by rw[hc];exact hm) with h | h
  ·have hob:=ab.bP m;cases hx:A.o m with
   |none=>exact absurd hx ho
   |some x=>rw[hx] at hob;exact absurd h (tp hob)
  ·exact h
theorem aU.ta{P:Program}{n:Nat}{w:World}{D:aP}{E:aY}{Y:Value→List I→List (Nat×ao)→cK→Prop}{fq:Option (List Deferred)}{rs:List bN}{post:cK}{fn:Func}{A:ai}{a:Act}{w':World}{D':aP}{E':aY}
  (ab:aU ⟨P,w,D,n,cL E,E,Y,none,fq⟩ A a w' D' E') (hrs:gQ P fn.results.toList=some rs) (h:iX rs post A):∃ v,(results fn a.tmps).run P w'=.ok v w'∧lA w D E post v w':=by
 obtain ⟨os,xs,J,U,ah⟩:=h;obtain ⟨D2,E2,hw,e2,e2n,q1,q2,q3,q4,q5,q6⟩:=ab.wz J;have hu:ep (A.ky os) A:=fun n x hx=>by
  simp only[ai.ky] at hx;split at hx
  ·cases hx
  ·exact hx
 obtain ⟨vs,k1,k2⟩:=xt ab hu (os:=os) (E':=E2) hw e2 e2n fn.results.toList rs xs hrs U;have hres:(results fn a.tmps).run P w'=.ok (if h:vs.toArray.size=1 then vs.toArray[0] else .tuple vs.toArray) w':=by
  rw[YY,Sem.run_bind,Array.mapM_eq_mapM_toList,Sem.run_map,k1];rfl
 refine ⟨_,hres,D2,E2,jU xs,os,ah,?_,q1,q2,q3,q4,q5,q6⟩
 match xs,vs,k2 with
 | [x],vs,k2 =>
  simp only[aI] at k2;obtain ⟨v,rest,cs,rfl,q1,q2,rfl⟩:=k2;simpa[jU] using ju q1 q2
 | [],vs,k2 =>
  simp only[aI] at k2;subst k2;simp[jU,aZ,aI]
 |x::y::xs,vs,k2 =>
  have aq:vs.length≠1:=by
   simp only[aI] at k2;obtain ⟨v,rest,cs,rfl,_,_,v2,rest2,cs2,rfl,_⟩:=k2;simp
  simp only[jU,aZ];exact ⟨vs,by simp[aq],k2⟩
theorem Cf{P:Program}{n:Nat}{w:World}{D:aP}{E:aY}{Y:Value→List I→List (Nat×ao)→cK→Prop}{rs:List bN}{post:cK}{fn:Func}{A:ai}{D':aP}{E':aY}(hrs:gQ P fn.results.toList=some rs)(h:iX rs post A) :
  ∀ (ds:List Deferred) (a:Act) (w':World),a.defers=ds→aU ⟨P,w,D,n,cL E,E,Y,none,none⟩ A a w' D' E'→LeavesInM Fence.wide 9 P fn a.tmps (fun e w'=>∃ v,e=.returned v∧lA w D E post v w') ds .returning w'
 | [],a,w',_,ab=>by
  obtain ⟨v,J,U⟩:=ab.ta hrs h;exact ⟨v,J,v,rfl,U⟩
 |d::ds,a,w',af,ab=>by
  obtain ⟨Bs,J,_⟩:=ab.eB;rw[af] at J;cases Bs with
  |nil=>cases J
  |cons B Bs =>
   simp only[Z3,zw2] at J;obtain ⟨rfl,rfl⟩:=J;obtain ⟨k1,k2⟩:=ab.AI rfl af;exact ⟨by simp,.inl ⟨B,_,rfl,run_takeDeferred k1,Cf hrs h _ { a with defers:=Bs.map _ } _ rfl k2⟩⟩
theorem rL{w:World}{D:aP}{E:aY} : ∀ {args:List I} {vs:List Value},aI w D E args vs→vs.length=args.length
 | [],vs,h=>by simp only[aI] at h;subst h;rfl
 |x::xs,vs,h=>by
  simp only[aI] at h;obtain ⟨v,rest,cs,rfl,_,_,ah⟩:=h;simp[rL ah]
def kC(P:Program)(f:FuncId)(Y:Value→List I→List (Nat×ao)→cK→Prop)(args:List I)(os:List (Nat×ao))(post:cK):Prop :=
 e8 P f=true∧∀ (w:World) (D:aP) (E:aY) (vs:List Value),(∀ n,oJ ⟨P,w,D,n,cL E,E,Y,none,none⟩)→(∀ b o,D b o→b<w.heap.size)→jF (fun _=>True) w D E (aj os)→aI w D E args vs →
  Calls P f vs.toArray w fun e w'=>∃ v,e=.returned v∧lA w D E post v w'
theorem kC.tq{P:Program}{f:FuncId}{fn:Func}{body:Code}{x:bu}{rs:List bN}{Y:Value→List I→List (Nat×ao)→cK→Prop}{args:List I}{os:List (Nat×ao)}{post:cK}(hf:P.funcs[f]?=some fn)(hb:fn.body=some body)(hcall:e8 P f=true)(hc:eA P fn.ntmps body=some x)
  (hrs:gQ P fn.results.toList=some rs) (hn:args.length≤fn.ntmps) (hos:∀ m,aw os m=true→fn.ntmps≤m∧1000000≤m) (h:∀ (w:World) (D:aP) (E:aY),ae ⟨P,w,D,fn.ntmps,cL E,E,Y,none,none⟩ x (og rs post) (oC args os)):kC P f Y args os post:=by
 refine ⟨hcall,fun w D E vs hy hD ho hv =>?_⟩;have hlen:=rL hv;have hsim:=xT (P:=P) (n:=fn.ntmps) (Y:=Y) hD ho hv (by omega) hos (hy fn.ntmps);refine (callsIn_wide (n:=9)).1 (callsIn_of_wp_marks hf hb trivial ?_);refine wpIn_mono (h w D E body hc _ w ⟨D,E,hsim⟩) ?_;rintro e a w' ⟨A,hq,D',E',ab⟩;cases e <;>simp only[og] at hq <;>first
  |exact Cf hrs hq a.defers a w' rfl ab
  |cases hq
theorem pX{P:Program}{w:World}{D:aP}{E:aY}{n:Nat}{fq:Option (List Deferred)}(aq:gM P w (cL E)):oJ ⟨P,w,D,n,cL E,E,dx,none,fq⟩:=⟨aq,fun _ _ _ _ h=>h.elim⟩
theorem cU.CM{P:Program}{f:FuncId}{args:List I}{os:List (Nat×ao)}{post:cK}(h:kC P f dx args os post):cU P f args os post :=
 ⟨h.1,fun w D E vs aq hD ho hv=>(h.2 w D E vs (fun _=>pX aq) hD ho hv).mono fun e w' ⟨v,he,D',E',r,os',k⟩=>⟨v,D',E',r,os',he,k⟩⟩
theorem a8.XZ{P:Program}{f:FuncId}{args:List I}{r:I}(h:cU P f args [] (fun r' os'=>r'=r∧os'=[])):a8 P f args r:=by
 refine ⟨h.1,fun w D vs aq hD hv =>?_⟩;have bH:jF (fun _=>True) w D dk (aj []):=⟨fun n=>rfl,fun n m e e' b h=>by simp[dk] at h⟩
 refine (h.2 w D dk vs (aq.nR fun b ⟨n,e,J,_⟩=>by simp[dk] at J) hD bH hv).mono fun e w' hq =>?_;obtain ⟨v,D',E',r',os',he,⟨J,U⟩,k1,k2,k3,k4,k5,k6,_⟩:=hq;subst J U;refine ⟨v,D',he,?_,?_,k5,fun b o af hlt=>k6 b o af hlt fun ⟨n,e,h,_⟩=>by simp[dk] at h⟩
 ·have:E'=dk:=by funext n;exact k2.bP n
  rw[←this];exact k1
 ·exact k3.Hu fun k hk hm=>by
   rcases hm with hm | ⟨n,e,h,_⟩
   ·omega
   ·simp[dk] at h
theorem Zd(A:ai):A.ky []=A:=rfl
theorem EV{A:ai} : ∀ {rs:List bN} {xs:List I},fg A rs=some xs→l9 A (A.ky []) [] rs xs
 | [],xs,h=>by simp only[fg,v6] at h;subst h;trivial
 |r::rs,xs,h=>by
  simp only[fg] at h;split at h
  ·rename_i x xs' J U;simp only[v6] at h;subst h;refine ⟨?_,EV U⟩;rw[Zd];cases r with
   |tmp t=>exact ⟨_,rfl,.inr J⟩
   |cell a s =>
    simp only[tM,ru] at J ⊢;split at J
    ·rename_i y hy;split at J
     ·rename_i hok;exact ⟨y,by simp[hok],.inr J⟩
     ·cases J
    ·cases J
  ·cases h
theorem YZ{rs:List bN}{r:I}{e:Exit}{A:ai}(h:kq rs r e A):og rs (fun r' os'=>r'=r∧os'=[]) e A:=by
 cases e <;>simp only[kq] at h <;>first
  |exact h.elim
  |(obtain ⟨xs,J,U⟩:=h
    exact ⟨[],xs,fun n x hx=>by simp[aj] at hx,EV J,U,rfl⟩)
theorem a8.tq{P:Program}{f:FuncId}{fn:Func}{body:Code}{x:bu}{rs:List bN}{args:List I}{r:I}(hf:P.funcs[f]?=some fn)(hb:fn.body=some body)(hcall:e8 P f=true)(hc:eA P fn.ntmps body=some x)
  (hrs:gQ P fn.results.toList=some rs) (hn:args.length≤fn.ntmps) (h:∀ (w:World) (D:aP) (E:aY),ae ⟨P,w,D,fn.ntmps,cL E,E,dx,none,none⟩ x (kq rs r) (oB args)):a8 P f args r:=by
 refine a8.XZ (cU.CM (kC.tq hf hb hcall hc hrs hn (fun m hm=>by simp[aw,aj] at hm) fun w D E =>?_));exact (h w D E).mono fun e B hq=>YZ hq
end Go.Abs
namespace Go.Abs
open Go Go.RowKit
def b6(ts:List (Nat×I)):List (Nat×I)→Prop
 | []=>True
 |(k,v)::r=>bY ts k=v∧b6 ts r
def cD(os:List (Nat×ao)):List (Nat×ao)→Prop
 | []=>True
 |(k,v)::r=>aj os k=some v∧cD os r
def cm(p:Nat→Bool):List (Nat×I)→Prop
 | []=>True
 |(_,v)::r=>v.only p=true∧cm p r
theorem uc{ts:List (Nat×I)} : ∀ {ts':List (Nat×I)},b6 ts ts'→∀ k,bY ts' k=.dw∨bY ts' k=bY ts k
 | [],_,k=>.inl rfl
 |(j,v)::r,h,k=>by
  simp only[b6] at h;simp only[bY];split
  ·rename_i hk;subst hk;exact .inr h.1.symm
  ·exact uc h.2 k
theorem Ft{os:List (Nat×ao)} : ∀ {os':List (Nat×ao)},cD os os'→∀ k,aj os' k=none∨aj os' k=aj os k
 | [],_,k=>.inl rfl
 |(j,v)::r,h,k=>by
  simp only[cD] at h;simp only[aj];split
  ·rename_i hk;subst hk;exact .inr h.1.symm
  ·exact Ft h.2 k
theorem w6{p:Nat→Bool} : ∀ {ts:List (Nat×I)},cm p ts→∀ k,(bY ts k).only p=true
 | [],_,k=>by simp[bY,I.only]
 |(j,v)::r,h,k=>by
  simp only[cm] at h;simp only[bY];split
  ·exact h.1
  ·exact w6 h.2 k
theorem CT{p:Nat→Bool} : ∀ {os:List (Nat×ao)},cn p os→∀ k x,aj os k=some x→x.only p=true
 | [],_,k,x,hx=>by simp[aj] at hx
 |(j,v)::r,h,k,x,hx=>by
  simp only[cn] at h;simp only[aj] at hx;split at hx
  ·simp only[v6] at hx;subst hx;exact h.1
  ·exact CT h.2 k x hx
theorem bm.cI{ts ts':List (Nat×I)}{os os':List (Nat×ao)}(J:b6 ts ts')(U:cD os os')(ah:cm (aw os') ts')(ar:cn (aw os') os'):bm (av ts os) (av ts' os'):=by
 rintro c a w ⟨D,E,ab⟩;have hp:∀ n,aw os' n=true→(if aw os' n then E n else none)=E n:=fun n hn=>by simp[hn]
 refine ⟨D,fun n=>if aw os' n then E n else none,ab.sz,ab.eB,fun t =>?_,ab.dO,ab.c9,ab.aQ,fun n =>?_,fun n m e e' b J U ah ar =>?_,fun n e hn =>?_,ab.eP,ab.cT,ab.eW,ab.fC⟩
 ·have:=uc J t;rcases this with h | h
  ·simp only[av];rw[h];simp[aZ]
  ·refine aZ.db (p:=aw os') hp (w6 ah t) ?_;have:=ab.dR t;simp only[av] at *;rw[h];exact this
 ·have ho:=ab.bP n;simp only[av] at *;rcases Ft U n with h | h
  ·rw[h];simp[c6,aw,h]
  ·rw[h];by_cases hin:aj os n=none
   ·rw[hin];simp[c6,aw,h,hin]
   ·have aA:(if aw os' n then E n else none)=E n:=hp n (by simp[aw,h];cases bH:aj os n <;>simp_all);cases hx:aj os n with
    |none=>exact absurd hx hin
    |some x =>
     have hon:=CT ar n x (h.trans hx);rw[hx] at ho;cases x with
     |box x =>
      obtain ⟨b,cs,T,k1,k2,k3,k4,k5⟩:=ho;exact ⟨b,cs,T,aA.trans k1,k2,k3,al.db hp _ _ (by simpa[ao.only] using hon) k4,k5⟩
     |bU T sz es =>
      obtain ⟨aJ,k1,k2,k3⟩:=ho;refine ⟨aJ,aA.trans k1,k2,?_⟩;cases aJ with
      |none=>exact k3
      |some bc =>
       obtain ⟨b,cap⟩:=bc;obtain ⟨cs,pre,rest,q1,q2,q3,q4,q5⟩:=k3;exact ⟨cs,pre,rest,q1,q2,q3,aN.db hp _ _ (by simpa[ao.only] using hon) q4,q5⟩
     |dK T xs =>
      obtain ⟨aJ,k1,k2,k3⟩:=ho;exact ⟨aJ,aA.trans k1,k2,k3⟩
     |dJ x =>
      obtain ⟨b,k1,k2⟩:=ho;exact ⟨b,aA.trans k1,k2⟩
     |bz ks vs =>
      obtain ⟨b,es,ck,k1,k2,k3,k4,k5,k6,k7⟩:=ho;simp only[ao.only,t8] at hon;exact ⟨b,es,ck,aA.trans k1,k2,k3,k4,aI.db hp _ _ hon.1 k5,aI.db hp _ _ hon.2 k6,k7⟩
     |it ks vs left cur =>
      obtain ⟨r,b,es,ck,si,se,la,k1,k2,k3,k4,k5,k6,k7⟩:=ho;simp only[ao.only,t8] at hon;exact ⟨r,b,es,ck,si,se,la,aA.trans k1,k2,k3,k4,aI.db hp _ _ hon.1 k5,aI.db hp _ _ hon.2 k6,k7⟩
 ·refine ab.cQ n m e e' b ?_ ?_ ah ar
  ·split at J
   ·exact J
   ·cases J
  ·split at U
   ·exact U
   ·cases U
 ·by_cases hi:aw os' n=true
  ·simp only[hi,if_true];exact ab.dS n e hn
  ·simp only[hi];exact .inl rfl
def bJ:Nat→List I→List (Nat×I)
 |_,[]=>[]
 |k,a::as=>(k,a)::bJ (k+1) as
theorem Cr:∀ (as:List I) (k t:Nat),bY (bJ k as) t=if t<k then .dw else (as[t-k]?).getD .dw
 | [],k,t=>by simp[bJ,bY]
 |a::as,k,t=>by
  simp only[bJ,bY,Cr as (k+1) t];by_cases h:t=k
  ·subst h;simp
  ·rw[if_neg h];by_cases U:t<k
   ·rw[if_pos (by omega),if_pos U]
   ·rw[if_neg (by omega),if_neg U,show t-k=(t-(k+1))+1 from by omega];simp
theorem ua(args:List I)(os:List (Nat×ao)):bm (oC args os) (av (bJ 0 args) os):=by
 rintro c a w ⟨D,E,ab⟩;refine ⟨D,E,ab.sz,ab.eB,fun t =>?_,ab.dO,ab.c9,ab.aQ,ab.bP,ab.cQ,ab.dS,ab.eP,ab.cT,ab.eW,ab.fC⟩;have:=ab.dR t;simp only[av,Cr,oC,Nat.not_lt_zero,if_false,Nat.sub_zero] at *;cases h:args[t]? with
 |none=>simp[aZ]
 |some x=>simpa[Z0,h] using this
theorem ZE(args:List I):bm (oB args) (av (bJ 0 args) []):=ua args []
theorem th(ts:List (Nat×I))(os:List (Nat×ao))(d:Nat)(v:I):(av ts os).put d v=av ((d,v)::ts) os:=rfl
theorem CD(ts:List (Nat×I))(os:List (Nat×ao))(d:Nat)(v:I):(av ts os).aS (some d) v=av ((d,v)::ts) os:=rfl
theorem Xa(A:ai)(v:I):A.aS none v=A:=rfl
theorem qW(ts:List (Nat×I))(os:List (Nat×ao))(d:Nat)(x:ao):(av ts os).aT d x=av ts ((d,x)::os):=rfl
theorem Xb(ts:List (Nat×I))(os:List (Nat×ao))(k:Nat):(av ts os).t k=bY ts k:=rfl
theorem W9(ts:List (Nat×I))(os:List (Nat×ao))(k:Nat):(av ts os).o k=aj os k:=rfl
theorem bZ(j:Nat)(v:I)(r:List (Nat×I))(k:Nat):bY ((j,v)::r) k=if k=j then v else bY r k:=rfl
theorem cY(j:Nat)(v:ao)(r:List (Nat×ao))(k:Nat):aj ((j,v)::r) k=if k=j then some v else aj r k:=rfl
theorem qS(k:Nat):aj [] k=none:=rfl
theorem MB(A:ai)(k:Nat):ak A (.t k)=A.t k:=rfl
theorem MA(A:ai)(x:I):ak A (.c x)=x:=rfl
noncomputable def dh(d:Option Nat)(rest:List aH)(A:ai)(v:I):cO:=aB rest (A.aS d v)
theorem WC(d:Option Nat)(rest:List aH)(A:ai)(v:I):dh d rest A v=aB rest (A.aS d v):=rfl
theorem HP(v:I)(k:I→cO):cS (some v) k=k v:=rfl
theorem G9(A:ai):aB [] A=.done A:=rfl
noncomputable def bK(A:ai)(d:Option Nat)(op:bS)(rest:List aH):cO:=bl A d op rest (aB rest)
noncomputable def gT(x:I)(b:Bool)(d:Option Nat)(op:bS)(rest:List aH)(A:ai):cO :=
 match x with
 | .bool b'=>if b'=b then bK A d op rest else aB rest (A.aS d .undef)
 | .undef=>aB rest (A.aS d .undef)
 |_=>.fail
theorem aR.guard{P:Program}{Y:Value→List I→List (Nat×ao)→cK→Prop}{dr:Bool}{K:ai→Prop}{x b:Bool}{d:Option Nat}{op:bS}{rest:List aH}{A:ai}(J:x=b→aR P Y dr K (bK A d op rest))(U:x = !b→aR P Y dr K (aB rest (A.aS d .undef))):aR P Y dr K (gT (.bool x) b d op rest A):=by
 unfold gT;by_cases h:x=b
 ·simp only[if_pos h];exact J h
 ·simp only[if_neg h];exact U (by cases x <;>cases b <;>simp_all)
def I.dP:I→Option (List I)
 | .agg fs=>some fs
 |_=>none
def oM(p:List Nat):Option I→Option I
 |some f=>f.at p
 |none=>none
def mB(i:Nat)(p:List Nat):Option (List I)→Option I
 |some fs=>oM p fs[i]?
 |none=>none
theorem yG(c:I):c.at []=some c:=by cases c <;>rfl
theorem Ho(c:I)(i:Nat)(p:List Nat):c.at (i::p)=mB i p c.dP:=by
 cases c <;>first | rfl | (rename_i fs;simp only[I.at,mB,I.dP,oM])
def xJ(fs:List I)(i:Nat)(p:List Nat)(v:I):Option I→I
 |some f=>.agg (fs.set i (f.ev p v))
 |none=>.agg fs
def tS(c:I)(i:Nat)(p:List Nat)(v:I):Option (List I)→I
 |some fs=>xJ fs i p v fs[i]?
 |none=>c
theorem ot(c v:I):c.ev [] v=v:=by cases c <;>rfl
theorem Zf(c:I)(i:Nat)(p:List Nat)(v:I):c.ev (i::p) v=tS c i p v c.dP:=by
 cases c <;>first | rfl | (rename_i fs;simp only[I.ev,tS,I.dP];cases fs[i]? <;>rfl)
def ft(p:List Nat):Option ao→Option I
 |some (.box c)=>c.at p
 |_=>none
def gR(A:ai):I→Option I
 | .ref x=>some x
 | .ptr n p=>ft p (A.o n)
 |_=>none
theorem lG(A:ai)(x:I):cM A x=gR A x:=by
 cases x <;>first | rfl | (rename_i n p;simp only[cM,gR];cases A.o n with | none=>rfl | some y=>cases y <;>rfl)
def nY(s:Option Nat)(x:I):Option I:=if cg s x=true then some x else none
def nZ(s:Option Nat):Option I→Option I
 |some x=>nY s x
 |none=>none
open Classical in
noncomputable def du(fs:List I)(f off:Nat)(y:I):Option I:=if f<fs.length∧I.sizes (fs.take f)=off then some y else none
noncomputable def qn(n:Nat)(p:List Nat)(f off:Nat):Option (List I)→Option I
 |some fs=>du fs f off (.ptr n (p++[f]))
 |none=>none
noncomputable def o5(fs:List I)(f off:Nat):Option I→Option I
 |some v=>du fs f off (.ref v)
 |none=>none
noncomputable def qo(f off:Nat):Option (List I)→Option I
 |some fs=>o5 fs f off fs[f]?
 |none=>none
def fI:Option I→Option (List I)
 |some x=>x.dP
 |none=>none
noncomputable def jb(A:ai)(f off:Nat):I→Option I
 | .ref c=>qo f off c.dP
 | .ptr n p=>qn n p f off (fI (ft p (A.o n)))
 |_=>none
theorem Yq(A:ai)(f off:Nat)(x:aO):bo A (.fa f off x)=jb A f off (ak A x):=by
 simp only[bo];generalize ak A x=y;cases y with
 |ref c =>
  cases c <;>simp only[jb,I.dP,qo]
  rename_i fs;cases h:fs[f]? with
  |none=>simp[o5]
  |some v =>
   have aq:f<fs.length:=(Z6.1 h).1;simp only[o5,du,aq,true_and]

 |ptr n p =>
  simp only[jb,lG,gR];cases ft p (A.o n) with
  |none=>simp[fI,qn]
  |some c =>
   cases c <;>simp only[fI,I.dP,qn]
   simp only[du]

 |_=>simp only[jb]
noncomputable def ke(f off:Nat)(s:Option Nat):Option (List I)→Option I
 |some fs=>match fs[f]? with
  |some v=>(du fs f off v).bind (nY s)
  |none=>none
 |none=>none
theorem Yr(A:ai)(f off:Nat)(s:Option Nat)(x:aO):bo A (.fl f off s x)=ke f off s (ak A x).dP:=by
 simp only[bo];generalize ak A x=y;cases y <;>simp only[ke,I.dP]
 rename_i fs;cases h:fs[f]? with
 |none=>rfl
 |some v =>
  have aq:f<fs.length:=(Z6.1 h).1;simp only[du,aq,true_and];by_cases J:I.sizes (fs.take f)=off <;>by_cases U:cg s v=true <;>simp[J,U,nY]
open Classical in
noncomputable def lQ(k:Int)(n:Nat)(y:Option I):Option I:=if 0≤k∧k<n then y else none
noncomputable def lP(n esz:Nat)(fs:List I)(y:Option I):Option I:=if ja n esz fs=true then y else none
noncomputable def sX(n esz:Nat)(k:Int):Option (List I)→Option I
 |some fs=>lP n esz fs ((fs[k.toNat]?).map .ref)
 |none=>none
noncomputable def qE(n esz m:Nat)(p:List Nat)(k:Int):Option (List I)→Option I
 |some fs=>lP n esz fs (some (.ptr m (p++[k.toNat])))
 |none=>none
noncomputable def nM(A:ai)(n esz:Nat)(k:Int):I→Option I
 | .ref c=>lQ k n (sX n esz k c.dP)
 | .ptr m p=>lQ k n (qE n esz m p k (fI (ft p (A.o m))))
 |_=>none
noncomputable def qD(A:ai)(n esz:Nat)(x:I):I→Option I
 | .int _ k=>nM A n esz k x
 |_=>none
theorem Ys(A:ai)(n esz:Nat)(x i:aO):bo A (.ia n esz x i)=qD A n esz (ak A x) (ak A i):=by
 simp only[bo];generalize ak A x=y;generalize ak A i=z;cases z <;>simp only[qD]
 rename_i kk k;cases y with
 |ref c =>
  simp only[nM,lQ];split
  ·cases c <;>simp only[I.dP,sX,lP]
  ·rfl
 |ptr m p =>
  simp only[nM,lQ,lG,gR];split
  ·cases ft p (A.o m) with
   |none=>simp[fI,qE]
   |some c=>cases c <;>simp only[fI,I.dP,qE,lP]
  ·rfl
 |_=>simp only[nM];split <;>rfl
open Classical in
noncomputable def mK(m:Nat)(p:List Nat)(sz lo l esz:Nat)(k:Int):Option (List I)→Option I
 |some _=>if sz=esz∧0≤k∧k<l then some (.ptr m (p++[lo+k.toNat])) else none
 |none=>none
open Classical in
noncomputable def js(A:ai)(esz:Nat)(k:Int):I→Option I
 | .slice sz es=>if sz=esz∧0≤k∧k<es.length then (es[k.toNat]?).map .ref else none
 | .own m l=>match A.o m with
  |some (.bU _ sz es)=>if l=es.length∧sz=esz∧0≤k∧k<es.length then (es[k.toNat]?).map .ref else none
  |_=>none
 | .view m p sz lo l=>mK m p sz lo l esz k (fI (ft p (A.o m)))
 |_=>none
noncomputable def qG(A:ai)(esz:Nat)(x:I):I→Option I
 | .int _ k=>js A esz k x
 |_=>none
theorem Yt(A:ai)(esz:Nat)(x i:aO):bo A (.is esz x i)=qG A esz (ak A x) (ak A i):=by
 simp only[bo];generalize ak A x=y;generalize ak A i=z;cases z <;>simp only[qG]
 cases y <;>simp only[js]
 ·split <;>simp_all
 ·rename_i m p sz lo l;simp only[lG,gR];cases ft p (A.o m) with
  |none=>rfl
  |some c=>cases c <;>simp only[fI,I.dP,mK]
noncomputable def s7(n esz:Nat)(s:Option Nat)(k:Int):Option (List I)→Option I
 |some fs=>lQ k n (lP n esz fs (nZ s fs[k.toNat]?))
 |none=>none
noncomputable def qJ(n esz:Nat)(s:Option Nat)(x:I):I→Option I
 | .int _ k=>s7 n esz s k x.dP
 |_=>none
theorem Yu(A:ai)(n esz:Nat)(s:Option Nat)(x i:aO):bo A (.ix n esz s x i)=qJ n esz s (ak A x) (ak A i):=by
 simp only[bo];generalize ak A x=y;generalize ak A i=z;cases z <;>simp only[qJ]
 rename_i kk k;cases y <;>simp only[I.dP,s7]
 case agg fs =>
  simp only[lQ,lP];split
  ·split
   ·cases fs[k.toNat]? <;>rfl
   ·rfl
  ·rfl
 all_goals (split <;>rfl)
def jt(A:ai):I→Option I
 | .slice _ es=>some (.int .i64 es.length)
 | .nils _=>some (.int .i64 0)
 | .c0 _=>some (.int .i64 0)
 | .own m l=>match A.o m with | some (.bU _ _ es)=>if l=es.length then some (.int .i64 es.length) else none | _=>none
 | .view _ _ _ _ k=>some (.int .i64 k)
 |_=>none
theorem Yw(A:ai)(x:aO):bo A (.len x)=jt A (ak A x):=by
 simp only[bo];generalize ak A x=y;cases y <;>rfl
open Classical in
noncomputable def rY(n esz:Nat)(fs:List I)(y:I):Option I:=if ja n esz fs=true∧n≤maxLen∧n≠0 then some y else none
noncomputable def rZ(n esz m:Nat)(p:List Nat):Option (List I)→Option I
 |some fs=>rY n esz fs (.view m p esz 0 n)
 |none=>none
noncomputable def FE(n esz:Nat):Option (List I)→Option I
 |some fs=>rY n esz fs (.slice esz fs)
 |none=>none
noncomputable def oD(A:ai)(n esz:Nat):I→Option I
 | .ptr m p=>rZ n esz m p (fI (ft p (A.o m)))
 | .ref c=>FE n esz c.dP
 |_=>none
theorem Yx(A:ai)(n esz:Nat)(x:aO):bo A (.va n esz x)=oD A n esz (ak A x):=by
 simp only[bo];generalize ak A x=y;cases y with
 |ptr m p =>
  simp only[oD,lG,gR];cases ft p (A.o m) with
  |none=>simp[fI,rZ]
  |some c=>cases c <;>simp only[fI,I.dP,rZ,rY] <;>(split <;>simp_all)
 |ref c=>cases c <;>simp only[oD,I.dP,FE,rY] <;>(split <;>simp_all)
 |_=>simp only[oD]
theorem Yv(A:ai)(s:Option Nat)(x:aO):bo A (.ld s x)=nZ s (gR A (ak A x)):=by
 simp only[bo,lG];cases gR A (ak A x) <;>simp only[nZ,nY]
noncomputable def rn(A:ai)(d:Option Nat)(a b:aO)(rest:List aH):I→cO
 | .bool t=>aB rest (A.aS d (if t then ak A a else ak A b))
 |_=>.fail
noncomputable def rW(op:UnOp)(x:I):Option I:=match op,x with
  | .not,.bool b=>some (.bool !b)
  | .neg,.int k n=>some (.int k (k.wrap (0-n)))
  | .xor,.int k n=>some (.int k (oV k n))
  |_,_=>none
def vA(i:Nat):I→Option I
 | .tuple fs=>fs[i]?
 |_=>none
def vg(k:IntKind):I→Option I
 | .int _ n=>some (.int k (k.wrap n))
 |_=>none
noncomputable def uI(A:ai)(d:Nat)(z:I)(rest:List aH):Option ao→cO
 |none=>aB rest ((A.aT d (.box z)).put d (.ptr d []))
 |some _=>.fail
noncomputable def sy(A:ai)(d:Nat)(z:I)(rest:List aH)(v:Bool):cO:=if v=true then aB rest ((A.aT d (.box z)).put d (.ptr d [])) else .fail
noncomputable def sx(A:ai)(d:Nat)(z:I)(rest:List aH):Option ao→cO
 |none=>sy A d z rest z.bT
 |some _=>.fail
open Classical in
noncomputable def de(A:ai)(s:Option Nat)(n:Nat)(p:List Nat)(b v:I)(rest:List aH):Option I→cO
 |some old=>if w0 s v old then aB rest (A.aT n (.box (b.ev p v))) else .fail
 |none=>.fail
noncomputable def tX(A:ai)(s:Option Nat)(n:Nat)(p:List Nat)(v:I)(rest:List aH):Option ao→cO
 |some (.box b)=>de A s n p b v rest (b.at p)
 |_=>.fail
noncomputable def c8(A:ai)(s:Option Nat)(v:I)(rest:List aH):I→cO
 | .ptr n p=>tX A s n p v rest (A.o n)
 |_=>.fail
noncomputable def qe(A:ai)(d:Option Nat)(args:List I)(rest:List aH):I→cO
 | .func f caps=>.call (kS f) (h4 f args caps) (b8 true A (h4 f args caps)) (b8 false A (h4 f args caps)) d rest A
 | .raw v=>.kN v args d rest A
 |_=>.fail
section
variable (d:Option Nat) (rest:List aH) (A:ai)
theorem GV(op:bS):aB (⟨d,op,none⟩::rest) A=bK A d op rest:=rfl
theorem GW(op:bS)(t:Nat)(b:Bool):aB (⟨d,op,some (t,b)⟩::rest) A=gT (A.t t) b d op rest A:=rfl
theorem VJ(op:bS):gT (.bool true) true d op rest A=bK A d op rest:=by simp[gT]
theorem VG(op:bS):gT (.bool false) false d op rest A=bK A d op rest:=by simp[gT]
theorem VI(op:bS):gT (.bool true) false d op rest A=aB rest (A.aS d .undef):=by simp[gT]
theorem VH(op:bS):gT (.bool false) true d op rest A=aB rest (A.aS d .undef):=by simp[gT]
theorem VK(op:bS)(b:Bool):gT .undef b d op rest A=aB rest (A.aS d .undef):=rfl
theorem XO(x:aO):bK A d (.mv x) rest=aB rest (A.aS d (ak A x)):=rfl
theorem XS(c a b:aO):bK A d (.pick c a b) rest=rn A d a b rest (ak A c):=by
 simp only[bK,bl,bo];cases ak A c <;>simp only[cS,rn]
theorem Xp(op:BinOp)(x y:aO):bK A d (.bin op x y) rest=cS (cH op (ak A x) (ak A y)) (dh d rest A):=rfl
theorem Xy(ty:cJ)(neg:Bool)(x y:aO):bK A d (.eqv ty neg x y) rest=cS ((ca ty (ak A x) (ak A y)).map fun b=>.bool (if neg then !b else b)) (dh d rest A):=rfl
theorem XX(op:UnOp)(x:aO):bK A d (.un op x) rest=cS (rW op (ak A x)) (dh d rest A):=rfl
theorem Xw(k:IntKind)(x:aO):bK A d (.conv k x) rest=cS (vg k (ak A x)) (dh d rest A):=by
 simp only[bK,bl,bo];cases ak A x <;>rfl
theorem XF(s:Option Nat)(x:aO):bK A d (.ld s x) rest=cS (nZ s (gR A (ak A x))) (dh d rest A):=by rw[←Yv];rfl
theorem XA(f off:Nat)(x:aO):bK A d (.fa f off x) rest=cS (jb A f off (ak A x)) (dh d rest A):=by rw[←Yq];rfl
theorem XB(f off:Nat)(s:Option Nat)(x:aO):bK A d (.fl f off s x) rest=cS (ke f off s (ak A x).dP) (dh d rest A):=by rw[←Yr];rfl
theorem XC(n esz:Nat)(x i:aO):bK A d (.ia n esz x i) rest=cS (qD A n esz (ak A x) (ak A i)) (dh d rest A):=by rw[←Ys];rfl
theorem XD(esz:Nat)(x i:aO):bK A d (.is esz x i) rest=cS (qG A esz (ak A x) (ak A i)) (dh d rest A):=by rw[←Yt];rfl
theorem XE(n esz:Nat)(s:Option Nat)(x i:aO):bK A d (.ix n esz s x i) rest=cS (qJ n esz s (ak A x) (ak A i)) (dh d rest A):=by rw[←Yu];rfl
theorem XG(x:aO):bK A d (.len x) rest=cS (jt A (ak A x)) (dh d rest A):=by rw[←Yw];rfl
theorem XY(n esz:Nat)(x:aO):bK A d (.va n esz x) rest=cS (oD A n esz (ak A x)) (dh d rest A):=by rw[←Yx];rfl
theorem Xq(zs:List I)(ps:List (Nat×aO)):bK A d (.bld zs ps) rest=cS ((dQ zs (ps.map fun p=>(p.1,ak A p.2))).map .agg) (dh d rest A):=rfl
theorem Xz(x:aO)(i:Nat):bK A d (.ext x i) rest=cS (vA i (ak A x)) (dh d rest A):=by
 simp only[bK,bl,bo];cases ak A x <;>rfl
theorem XK(f:FuncId)(caps:List aO):bK A d (.mk f caps) rest=cS (if ((caps.map (ak A)).all fun y=>y.bT)=true then some (.func f (caps.map (ak A))) else none) (dh d rest A):=rfl
theorem Xn(d:Nat)(z:I):bK A (some d) (.alloc z) rest=uI A d z rest (A.o d):=by
 simp only[bK,bl];cases A.o d <;>rfl
theorem Xr(d:Nat)(x:aO):bK A (some d) (.box x) rest=sx A d (ak A x) rest (A.o d):=by
 simp only[bK,bl];cases A.o d <;>simp only[sx,sy]
theorem XW(s:Option Nat)(x v:aO):bK A none (.bd s x v) rest=c8 A s (ak A v) rest (ak A x):=by
 simp only[bK,bl];cases ak A x <;>simp only[c8]
 rename_i n p;cases A.o n with
 |none=>rfl
 |some y =>
  cases y <;>simp only[tX]
  rename_i b;cases b.at p <;>simp only[de]
theorem Xt(f:FuncId)(args:List aO):bK A d (.call f args) rest=.call f (args.map (ak A)) (b8 true A (args.map (ak A))) (b8 false A (args.map (ak A))) d rest A:=rfl
theorem Xu(x:aO)(args:List aO):bK A d (.fH x args) rest=qe A d (args.map (ak A)) rest (ak A x):=by
 simp only[bK,bl];cases ak A x <;>rfl
end
end Go.Abs
namespace Go.Abs
open Go Go.RowKit
mutual
/-- Closed,and as a result is told: no nil slice but as the empty one. -/
def I.done:I→Bool
 | .agg fs=>I.gw fs
 | .slice _ es=>I.cq es
 | .ref x=>x.bA
 | .func f caps=>decide (f<1000000)&&I.gw caps
 | .iface _ v=>v.bA
 | .dj ks vs=>I.cq ks&&I.cq vs
 | .bool _ | .int _ _ | .bQ _ | .nilp | .dB | .dX | .any | .raw _=>true
 |_=>false
def I.gw:List I→Bool
 | []=>true
 |x::xs=>x.done&&I.gw xs
end
mutual
theorem vj:∀ x:I,x.done=true→x.bA=true
 | .agg fs,h=>by simp only[I.done,I.bA] at *;exact sE fs h
 | .slice _ es,h=>by simpa only[I.done,I.bA] using h
 | .ref x,h=>by simpa only[I.done,I.bA] using h
 | .func _ caps,h=>by simp only[I.done,I.bA,t8] at *;exact sE caps h.2
 | .iface _ v,h=>by simpa only[I.done,I.bA] using h
 | .bool _,_ | .int _ _,_ | .bQ _,_ | .nilp,_ | .dB,_ | .dX,_ | .any,_ | .raw _,_=>by simp[I.bA]
 | .dj _ _,h=>by simpa only[I.done,I.bA] using h
 | .nils _,h | .c0 _,h | .ptr _ _,h | .own _ _,h | .view _ _ _ _ _,h | .mref _,h | .dq _,h | .undef,h | .dw,h | .tuple _,h=>by simp[I.done] at h
theorem sE:∀ xs:List I,I.gw xs=true→I.cq xs=true
 | [],_=>rfl
 |x::xs,h=>by
  simp only[I.gw,I.cq,t8] at *;exact ⟨vj x h.1,sE xs h.2⟩
end
mutual
theorem Bf(aL:Bool)(A:ai):∀ x:I,x.done=true→bj aL A x=some x
 | .agg fs,h=>by simp only[I.done,bj] at *;rw[qt aL A fs h];rfl
 | .slice _ es,h=>by simp only[I.done] at h;simp[bj,h]
 | .ref x,h=>by simp only[I.done] at h;simp[bj,h]
 | .func _ caps,h=>by simp only[I.done,bj,t8,decide_eq_true_eq] at *;rw[if_pos h.1,qt aL A caps h.2];rfl
 | .iface _ v,h=>by simp only[I.done] at h;simp[bj,h]
 | .bool _,_ | .int _ _,_ | .bQ _,_ | .nilp,_ | .dB,_ | .dX,_ | .any,_ | .raw _,_=>by simp[bj]
 | .dj _ _,h=>by simp only[I.done] at h;simp[bj,h]
 | .nils _,h | .c0 _,h | .ptr _ _,h | .own _ _,h | .view _ _ _ _ _,h | .mref _,h | .dq _,h | .undef,h | .dw,h | .tuple _,h=>by simp[I.done] at h
theorem qt(aL:Bool)(A:ai):∀ xs:List I,I.gw xs=true→b8 aL A xs=some xs
 | [],_=>by simp[b8]
 |x::xs,h=>by
  simp only[I.gw,t8] at h;simp only[b8,Bf aL A x h.1,qt aL A xs h.2]
end
theorem Mn{x:I}(h:x.done=true):x.bT=true:=by cases x <;>simp_all[I.done,I.bT]
class Enc (α:Type) where
 enc:α→I
 sz:Nat
 aX:cR
 gU:Bool
 done:∀ x,(enc x).done=true
 size:∀ x,(enc x).size=sz
 iO:∀ x,(enc x).aX=aX
 agg:∀ x,(enc x).isAgg=gU
open Enc (enc)
instance:Enc Int where
 enc n:=.int .i64 n
 sz:=1
 aX:=.one
 gU:=false
 done _:=rfl
 size _:=by simp[I.size]
 iO _:=by simp[I.aX]
 agg _:=rfl
instance:Enc Bool where
 enc b:=.bool b
 sz:=1
 aX:=.one
 gU:=false
 done _:=rfl
 size _:=by simp[I.size]
 iO _:=by simp[I.aX]
 agg _:=rfl
theorem iy{α:Type}[Enc α](l:List α):I.cq (l.map enc)=true:=by
 induction l with
 |nil=>rfl
 |cons x l ih=>simp only[Z3,I.cq,vj _ (Enc.done x),ih,Bool.and_self]
theorem Mo{α:Type}[Enc α](l:List α):I.gw (l.map enc)=true:=by
 induction l with
 |nil=>rfl
 |cons x l ih=>simp only[Z3,I.gw,Enc.done x,ih,Bool.and_self]
theorem Zj{α:Type}[Enc α](l:List α):I.sizes (l.map enc)=l.length*Enc.sz α:=by
 rw[I.im (sz:=Enc.sz α) _ (by simp only[zy1];rintro x ⟨y,_,rfl⟩;exact Enc.size y)];simp
theorem xM{α:Type}[Enc α](l:List α):I.c7 (l.map enc)=List.replicate l.length (Enc.aX α):=by
 induction l with
 |nil=>rfl
 |cons x l ih=>simp only[Z3,I.c7,Enc.iO x,ih,zx7,List.replicate_succ]
instance {α:Type} [Enc α]:Enc (List α) where
 enc l:=.slice (Enc.sz α) (l.map enc)
 sz:=1
 aX:=.one
 gU:=false
 done l:=by simp only[I.done];exact iy l
 size _:=by simp[I.size]
 iO _:=by simp[I.aX]
 agg _:=rfl
structure xY (n:Nat) (α:Type) where
 l:List α
 h:l.length=n
instance {n:Nat} {α:Type} [Enc α]:Enc (xY n α) where
 enc x:=.agg (x.l.map enc)
 sz:=n*Enc.sz α
 aX:=.eI (List.replicate n (Enc.aX α))
 gU:=true
 done x:=by simp only[I.done];exact Mo x.l
 size x:=by simp only[I.size,Zj,x.h]
 iO x:=by simp only[I.aX,xM,x.h]
 agg _:=rfl
section
variable {α:Type} [Enc α]
theorem lH(aL:Bool)(A:ai)(x:α):bj aL A (enc x)=some (enc x):=Bf aL A _ (Enc.done x)
theorem ka(x:α):(enc x).bA=true:=vj _ (Enc.done x)
theorem b7(p:Nat→Bool)(x:α):(enc x).only p=true:=jS p _ (ka x)
theorem ef(x:α):(enc x).bT=true:=Mn (Enc.done x)
theorem kc(x:α):cg none (enc x) = !(Enc.gU α):=by simp[cg,Enc.agg]
theorem fb(n:Nat)(x:α):cg (some n) (enc x)=(Enc.gU α&&Enc.sz α==n):=by simp[cg,Enc.agg,Enc.size]
theorem jK(x:α):(enc x).size=Enc.sz α:=Enc.size x
theorem eH(x:α):(enc x).aX=Enc.aX α:=Enc.iO x
theorem eC(n:Int):(enc n:I)=.int .i64 n:=rfl
theorem Ms(n:Bool):(enc n:I)=.bool n:=rfl
theorem hE(l:List α):(enc l:I)=.slice (Enc.sz α) (l.map enc):=rfl
theorem jq:Enc.sz (List α)=1:=rfl
theorem kb:Enc.gU (List α)=false:=rfl
theorem nE:Enc.aX (List α)=.one:=rfl
theorem G4(l:List α):∀ x∈l.map (enc (α:=α)),x.size=Enc.sz α:=by
 simp only[zy1];rintro x ⟨y,_,rfl⟩;exact Enc.size y
end
theorem ly(n:Int)(J:-9223372036854775808≤n)(U:n≤9223372036854775807):IntKind.i64.wrap n=n:=IntWalk.i64_in n ⟨J,U⟩
theorem a8.mk{P:Program}{f:FuncId}{fn:Func}{x:bu}{rs:List bN}{args:List I}{r:I}(hf:P.funcs[f]?=some fn)(hcall:e8 P f=true)(hc:(fn.body.bind (eA P fn.ntmps))=some x)
  (hrs:gQ P fn.results.toList=some rs) (hn:args.length≤fn.ntmps) (h:∀ (w:World) (D:aP) (E:aY),ae ⟨P,w,D,fn.ntmps,cL E,E,dx,none,none⟩ x (kq rs r) (av (bJ 0 args) [])):a8 P f args r:=by
 obtain ⟨body,hb,hc'⟩:=zx9.1 hc;exact a8.tq hf hb hcall hc' hrs hn (fun w D E=>(h w D E).sub (ZE args))
end Go.Abs
namespace Go.Abs.C
open Go Go.Abs
abbrev o(a:Nat)(x:bS):aH:=⟨some a,x,none⟩
abbrev bL(a:Nat)(x:bS)(k:Nat):aH:=⟨some a,x,some (k,true)⟩
abbrev on(a:Nat)(x:bS)(k:Nat):aH:=⟨some a,x,some (k,false)⟩
abbrev p(x:bS):aH:=⟨none,x,none⟩
abbrev bf(n:Int):aO:=.c (.int .i64 n)
abbrev T:aO:=.c (.bool true)
abbrev bC:aO:=.c (.bool false)
abbrev m(a b:Nat):aH:=⟨some a,.mv (.t b),none⟩
abbrev cW(a b k:Nat):aH:=⟨some a,.mv (.t b),some (k,true)⟩
abbrev kl(a b k:Nat):aH:=⟨some a,.mv (.t b),some (k,false)⟩
abbrev bW(a:Nat)(n:Int):aH:=⟨some a,.mv (.c (.int .i64 n)),none⟩
abbrev l(a b:Nat):aH:=⟨some a,.ld none (.t b),none⟩
abbrev di(a b k:Nat):aH:=⟨some a,.ld none (.t b),some (k,true)⟩
abbrev fx(a b k:Nat):aH:=⟨some a,.ld none (.t b),some (k,false)⟩
abbrev L(a s b:Nat):aH:=⟨some a,.ld (some s) (.t b),none⟩
abbrev f(a b c d:Nat):aH:=⟨some a,.fa b c (.t d),none⟩
abbrev dA(a b c d k:Nat):aH:=⟨some a,.fa b c (.t d),some (k,true)⟩
abbrev fn(a b c d k:Nat):aH:=⟨some a,.fa b c (.t d),some (k,false)⟩
abbrev ad(a b:Nat)(n:Int):aH:=⟨some a,.bin .add (.t b) (.c (.int .i64 n)),none⟩
abbrev lt(a b c:Nat):aH:=⟨some a,.bin .lss (.t b) (.t c),none⟩
abbrev and(a b c:Nat):aH:=⟨some a,.pick (.t b) (.t c) (.c (.bool false)),none⟩
abbrev or(a b c:Nat):aH:=⟨some a,.pick (.t b) (.c (.bool true)) (.t c),none⟩
abbrev no(a b:Nat):aH:=⟨some a,.un .not (.t b),none⟩
abbrev b(a c:Nat):aH:=⟨some a,.box (.t c),none⟩
abbrev s(x y:bu):bu:=.seq x y
abbrev r(g:List aH):bu:=.cu none g
abbrev cB(P:Program)(f:Func)(c:bu):Prop:=f.body.bind (eA P f.ntmps)=some c
abbrev cA(P:Program)(f:Func)(r:List bN):Prop:=gQ P f.results.toList=some r
abbrev cz(P:Program)(n:FuncId):Prop:=e8 P n=true
theorem e{α:Type}{a b:α}(h:a=b):a=b:=h
end Go.Abs.C
