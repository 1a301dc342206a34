/-
  A part of the proof that the law MarchLooks returns true for every input; three tables of Go's library start as the text lays them (the card ties them); conditions: none beyond the statement's own. (part 2 of 7)
-/
import Derived.Maps.RangeRun
import Derived.Laws.MakeOwn
import Derived.Orders
import Derived.OrdersIn
import Derived.Test.YthbdbocionnfgaaGreatDoorNda
set_option linter.unusedSimpArgs false
set_option linter.unusedVariables false
set_option maxHeartbeats 16000000
set_option maxRecDepth 100000
namespace Go.Abs
open Go Go.RowKit
theorem Bb{w:World}{D:aP}{E:a8} : ∀ (l:List cH) (xs ys:List I) (cs ds:List Value),l.all wk=true→hU l xs ys=some true→aN w D E xs cs→aN w D E ys ds→xs=ys∧cs=ds∧∀ v∈cs,∃ k n,v=.int k n
 | [],xs,ys,cs,ds,_,h,hx,hy=>by
  simp only[hU] at h;split at h
  ·simp only[aN] at hx hy;subst hx hy;exact ⟨rfl,rfl,fun v hv=>by simp at hv⟩
  ·cases h
 |t::ts,xs,ys,cs,ds,ha,h,hx,hy=>by
  simp only[List.all_cons,t8] at ha;simp only[hU] at h;split at h
  case h_2=>cases h
  rename_i f fs g gs;unfold jb at h;split at h
  case h_2=>cases h
  rename_i a b J U;simp only[v6,t8] at h;obtain ⟨rfl,rfl⟩:=h;simp only[aN] at hx hy;obtain ⟨c1,c2,rfl,p1,p2⟩:=hx;obtain ⟨d1,d2,rfl,q1,q2⟩:=hy;obtain ⟨rfl,rfl,k3⟩:=Bb ts fs gs c2 d2 ha.2 U p2 q2;cases t with
  |i k =>
   simp only[b7] at J;split at J
   case h_2=>cases J
   rename_i k1 a k2 b;split at J
   case isFalse=>cases J
   rename_i hk;simp only[v6,beq_iff_eq] at J;subst J;obtain ⟨rfl,rfl⟩:=hk;simp only[al] at p1 q1;obtain ⟨rfl,_⟩:=p1;obtain ⟨rfl,_⟩:=q1;refine ⟨rfl,rfl,fun v hv =>?_⟩;rcases zx7.1 hv with hv | hv
   ·simp at hv;exact ⟨_,_,hv⟩
   ·exact k3 v hv
  |b | s | bg _ | qe _ _=>simp[wk] at ha
theorem FG:∀ (cs:List Value) (n:Nat),(∀ v∈cs,∃ k m,v=.int k m)→((cs.zip cs).all fun (x,y)=>Instr.sameBits n x y)=true
 | [],_,_=>rfl
 |v::cs,n,h=>by
  obtain ⟨k,m,rfl⟩:=h v (by simp);simp only[List.zip_cons_cons,List.all_cons,t8];exact ⟨by cases n <;>simp[Instr.sameBits],FG cs n fun v hv=>h v (by simp[hv])⟩
theorem Xq{P:Program}{t:TypeId}{ty:cH}{w:World}{D:aP}{E:a8}{x y:I}{u v:Value}(hk:jT P t=some ty)(h:b7 ty x y=some true)(hx:bd w D E x u)(hy:bd w D E y v):x=y∧u=v∧Instr.sameBits 10000 u v=true:=by
 unfold jT at hk;split at hk
 ·rename_i k hu;simp only[v6] at hk;subst hk;simp only[b7] at h;split at h
  case h_2=>cases h
  split at h
  case isFalse=>cases h
  rename_i hk;simp only[v6,beq_iff_eq] at h;subst h;obtain ⟨rfl,rfl⟩:=hk;rw[(eT hx).1,(eT hy).1];exact ⟨rfl,rfl,by simp[Instr.sameBits]⟩
 ·rename_i fs hu;split at hk
  case h_2=>cases hk
  rename_i l ao;split at hk
  case isFalse=>cases hk
  rename_i hc;simp only[v6] at hk;subst hk;simp only[b7] at h;split at h
  case h_2=>cases h
  rename_i xs ys;obtain ⟨cs,rfl,hc1⟩:=jm hx;obtain ⟨ds,rfl,hd1⟩:=jm hy;obtain ⟨rfl,rfl,ah⟩:=Bb l xs ys cs ds hc.1 h hc1 hd1;refine ⟨rfl,rfl,?_⟩;simp only[Instr.sameBits,beq_self_eq_true,Bool.true_and];exact FG cs _ ah
 ·cases hk
section
variable {P:Program} {w:World} {D:aP} {E:a8}
theorem vi{t:TypeId}{ty:cH}{em:Bool}{x y:I}{v:Value}{r:Bool}(hk:jT P t=some ty)(hx:bd w D E x v)(h:b7 ty x y=some r)(n:Nat):(Instr.checkKey em (n+2) t v).run P w=.ok () w:=by
 unfold jT at hk;split at hk
 ·rename_i k hu;simp only[v6] at hk;subst hk;simp only[b7] at h;split at h
  case h_2=>cases h
  rename_i k1 a k2 b;split at h
  case isFalse=>cases h
  rename_i hq;rw[(eT hx).1,hq.1];exact MapKept.run_checkKey hu (by simp[MapKept.IsKey]) em (n+1)
 ·rename_i fs hu;split at hk
  case h_2=>cases hk
  rename_i l ao;split at hk
  case isFalse=>cases hk
  rename_i hc;simp only[v6] at hk;subst hk;simp only[b7] at h;split at h
  case h_2=>cases h
  rename_i xs ys;obtain ⟨cs,rfl,hc1⟩:=jm hx;obtain ⟨d,af⟩:∃ d,d=11:=⟨_,rfl⟩
  rw[show (12:Nat)=d+1 from by omega] at ao;simp only[gG,hu] at ao;split at ao
  case isFalse=>cases ao
  rename_i hc2;simp only[t7,cH.bg.injEq] at ao;obtain ⟨l',ao,rfl⟩:=ao;rw[show n+2=(n+1)+1 from rfl,Instr.checkKey];simp only[Sem.run_bind,run_underlying hu,Result.andThen_ok];rw[←Array.forIn_toList];have key:∀ (L:List Field) (l:List cH) (xs ys:List I) (r:Bool) (c1 c2:List Value),
    (L.mapM fun f=>match gG P d f.type with
     |some ty=>if ty.size=P.cellsOf f.type then some ty else none
     | none => none) = some l → (∀ f ∈ L, f.name ≠ "_" ∧ qJ (P.underlying f.type) = true) → pG P c1.length L = true → aN w D E xs c2 → hU l xs ys = some r → c1 ++ c2 = cs →
    Sem.run P (forIn L PUnit.unit (fun (f : Field) (_ : PUnit) => (if f.name ≠ "_" then (do
     let x ←part f.type cs.toArray f.offset
     Instr.checkKey em (n+1) f.type x
     pure (ForInStep.yield PUnit.unit)) else pure (ForInStep.yield PUnit.unit):Sem (ForInStep PUnit)))) w=.ok PUnit.unit w:=by
   intro L
   induction L with
   |nil=>intros;simp
   |cons f L ih =>
    intro l xs ys r c1 c2 hm hn ho hx h htot;simp only[List.mapM_cons,Option.bind_eq_bind,Option.pure_def,zw6,v6] at hm;obtain ⟨ty,hty,tys,htys,rfl⟩:=hm;split at hty
    case h_2=>cases hty
    rename_i ty' hd';split at hty
    case isFalse=>cases hty
    rename_i hsz;simp only[v6] at hty;subst hty;simp only[hU] at h;split at h
    case h_2=>cases h
    rename_i x xs y ys;unfold jb at h;split at h
    case h_2=>cases h
    rename_i ra rb J U;simp only[aN] at hx;obtain ⟨e1,e2,rfl,k1,k2⟩:=hx;obtain ⟨s,q1,q2,q3⟩:=vr hd' hsz J;obtain ⟨u,p1,p2⟩:=ou (P:=P) (w:=w) (c1:=c1) (c3:=e2) q1 q2 k1;simp only[pG,t8,beq_iff_eq] at ho;have hsx:=oX ty' x y ra J;have hle:e1.length=P.cellsOf f.type:=by rw[al.length _ _ k1,hsx.1,hsz]
    have ih':=ih tys xs ys rb (c1++e1) e2 htys (fun g hg=>hn g (by simp[hg])) (by simp only[zz7,hle];exact ho.2) k2 U (by rw[←htot];simp);rw[zy2,htot,←ho.1] at p1;obtain ⟨hnm,hint⟩:=hn f (by simp);have hck:(Instr.checkKey em (n+1) f.type u).run P w=.ok () w:=by
     cases hu:P.underlying f.type with
     |none=>simp[hu,qJ] at hint
     |some dd =>
      cases dd <;>simp[hu,qJ] at hint
      rename_i q;have hti:ty'=.i q:=by
       rw[show d=10+1 from by omega] at hd';unfold gG at hd';simp only[hu,v6] at hd';exact hd'.symm
      subst hti;simp only[b7] at J;split at J
      case h_2=>cases J
      split at J
      case isFalse=>cases J
      rename_i hq;rw[(eT p2).1,hq.1];exact MapKept.run_checkKey hu (by simp[MapKept.IsKey]) em n
    simp only[List.forIn_cons,Sem.run_bind,hnm,ne_eq,not_false_eq_true,if_true,p1,Result.andThen_ok,hck,Sem.run_pure];exact ih'
  rw[key fs.toList l' xs ys r [] cs ao (fun f hf=>⟨by simpa using zx0.1 hc2.2.1 f hf,Array.all_eq_true_iff_forall_mem.1 hc.2 f (Array.mem_toList_iff.1 hf)⟩) hc2.2.2 hc1 h rfl];simp
 ·cases hk
theorem xL{x:I}{xs:List I}{vs:List Value}(h:aJ w D E (x::xs) vs):∃ v rest,vs=v::rest∧bd w D E x v∧aJ w D E xs rest:=by
 simp only[aJ] at h;obtain ⟨v,rest,cs,rfl,J,U,ah⟩:=h;exact ⟨v,rest,rfl,jC J U,ah⟩
def oJ(r:Option Nat)(es:List MapEntry)(i:Nat)(q:Option (Nat×Value)):Prop :=
 (r=none∧q=none)∨∃ j e,r=some (i+j)∧es[j]?=some e∧q=some (i+j,e.val)
theorem oJ.step{r:Option Nat}{es:List MapEntry}{e:MapEntry}{i:Nat}{q:Option (Nat×Value)}(h:oJ r es (i+1) q):oJ r (e::es) i q:=by
 rcases h with h | ⟨j,e',J,U,ah⟩
 ·exact .inl h
 ·exact .inr ⟨j+1,e',by rw[J];congr 1;omega,by simpa using U,by rw[ah];congr 2;omega⟩
theorem Bw{q:IntKind}{k:I}{v:Value}(hv:bd w D E k v):∀ (ks:List I) (es:List MapEntry) (i:Nat) (r:Option Nat),aJ w D E ks (es.map (·.key))→eD (.i q) k ks i=some r →
  ∃ x,Instr.findNow (.int q) v es i=some x∧oJ r es i x
 | [],es,i,r,hk,h=>by
  simp only[eD,v6] at h;simp only[aJ,List.map_eq_nil_iff] at hk;subst h hk;exact ⟨none,rfl,.inl ⟨rfl,rfl⟩⟩
 |x::ks,es,i,r,hk,h=>by
  obtain ⟨u,rest,e1,hu,hr⟩:=xL hk;cases es with
  |nil=>cases e1
  |cons e es =>
   simp only[zz3,zw8] at e1;obtain ⟨rfl,rfl⟩:=e1;simp only[eD] at h;have same:∀ b,b7 (.i q) k x=some b→Instr.sameNow (.int q) v e.key=some b:=fun b hb=>by
    simp only[b7] at hb;split at hb
    case h_2=>cases hb
    split at hb
    case isFalse=>cases hb
    rename_i hq;simp only[v6] at hb;subst hb;rw[(eT hv).1,(eT hu).1];simp[Instr.sameNow,hq.1,hq.2]
   split at h
   ·rename_i hb;simp only[v6] at h;subst h;exact ⟨some (i,e.val),by simp[Instr.findNow,same _ hb],.inr ⟨0,e,rfl,rfl,rfl⟩⟩
   ·rename_i hb;obtain ⟨y,J,U⟩:=Bw hv ks es (i+1) r hr h;exact ⟨y,by simp[Instr.findNow,same _ hb,J],U.step⟩
   ·cases h
theorem Bu{t:TypeId}{ty:cH}(hty:gG P 12 t=some ty){k:I}{v:Value}(hv:bd w D E k v):∀ (ks:List I) (es:List MapEntry) (i:Nat) (r:Option Nat),aJ w D E ks (es.map (·.key))→eD ty k ks i=some r →
  ∃ x,(Instr.findAsking t v es i).run P w=.ok x w∧oJ r es i x
 | [],es,i,r,hk,h=>by
  simp only[eD,v6] at h;simp only[aJ,List.map_eq_nil_iff] at hk;subst h hk;exact ⟨none,rfl,.inl ⟨rfl,rfl⟩⟩
 |x::ks,es,i,r,hk,h=>by
  obtain ⟨u,rest,e1,hu,hr⟩:=xL hk;cases es with
  |nil=>cases e1
  |cons e es =>
   simp only[zz3,zw8] at e1;obtain ⟨rfl,rfl⟩:=e1;simp only[eD] at h;have same:∀ b,b7 ty k x=some b→(Op.equal t v e.key).run P w=.ok b w:=fun b hb=>sM 12 t ty hty k x v e.key b hv hu hb _ (by simp[Op.maxDepth]);split at h
   ·rename_i hb;simp only[v6] at h;subst h;exact ⟨some (i,e.val),by simp[Instr.findAsking,same _ hb],.inr ⟨0,e,rfl,rfl,rfl⟩⟩
   ·rename_i hb;obtain ⟨y,J,U⟩:=Bu hty hv ks es (i+1) r hr h;exact ⟨y,by simp[Instr.findAsking,same _ hb,J],U.step⟩
   ·cases h
theorem o8{t:TypeId}{ty:cH}(hk:jT P t=some ty){k:I}{v:Value}(hv:bd w D E k v){ks:List I}{es:List MapEntry}{r:Option Nat}(hks:aJ w D E ks (es.map (·.key)))(h:eD ty k ks 0=some r) :
  ∃ x,(Instr.findKey t v es).run P w=.ok x w∧oJ r es 0 x:=by
 have hk0:=hk;unfold jT at hk;split at hk
 ·rename_i q hu;simp only[v6] at hk;subst hk;obtain ⟨x,J,U⟩:=Bw hv ks es 0 r hks h;exact ⟨x,by simp[Instr.findKey,run_underlying hu,J],U⟩
 ·rename_i fs hu;split at hk
  case h_2=>cases hk
  rename_i l ao;split at hk
  case isFalse=>cases hk
  simp only[v6] at hk;subst hk;cases es with
  |nil =>
   cases ks with
   |nil =>
    simp only[eD,v6] at h;subst h;exact ⟨none,by simp[Instr.findKey,run_underlying hu,Instr.findNow],.inl ⟨rfl,rfl⟩⟩
   |cons x xs=>simp[aJ] at hks
  |cons e es =>
   obtain ⟨x,J,U⟩:=Bu ao hv ks (e::es) 0 r hks h;exact ⟨x,by simp[Instr.findKey,run_underlying hu,Instr.findNow,Instr.sameNow,J],U⟩
 ·cases hk
theorem mq:∀ {xs:List I} {vs:List Value} {j:Nat} {v:Value},aJ w D E xs vs→vs[j]?=some v→∃ x,xs[j]?=some x∧bd w D E x v
 | [],vs,j,v,h,hj=>by simp only[aJ] at h;subst h;simp at hj
 |x::xs,vs,j,v,h,hj=>by
  obtain ⟨u,rest,rfl,J,U⟩:=xL h;cases j with
  |zero=>simp only[List.getElem?_cons_zero,v6] at hj;subst hj;exact ⟨x,rfl,J⟩
  |succ j=>exact mq (xs:=xs) U (by simpa using hj)
end
section
variable {c:cV} {A:ai} {o:Oper} {x:I}
theorem XN{a:Act}{w:World}{D:aP}{E:a8}(ab:aV c A a w D E){m:I}{v:Value}{ks vs:List I}(hv:bd w D E m v)(hm:gb A m=some (ks,vs)) :
  (v=.map none∧ks=[]∧vs=[])∨∃ b es clock,v=.map (some b)∧w.heap[b]?=some (.map es clock)∧aJ w D E ks (es.toList.map (·.key))∧aJ w D E vs (es.toList.map (·.val)):=by
 unfold gb at hm;split at hm
 ·simp only[v6,Prod.mk.injEq] at hm;obtain ⟨rfl,rfl⟩:=hm;obtain ⟨cs,q1,q2⟩:=hv;simp only[al] at q2;obtain ⟨b,es,ck,q3,q4,q5,q6⟩:=q2;exact .inr ⟨b,es,ck,by simpa[bE,I.isAgg,q3] using q1.symm,q4.1,q5,q6⟩
 ·rename_i n;split at hm
  case h_2=>cases hm
  rename_i ks' vs' hn;simp only[v6,Prod.mk.injEq] at hm;obtain ⟨rfl,rfl⟩:=hm;obtain ⟨cs,q1,q2⟩:=hv;simp only[al] at q2;obtain ⟨b,q3,q4⟩:=q2;obtain ⟨b',es,ck,k1,k2,k3,k4,k5,k6,k7⟩:=ab.map hn;rw[k1] at q3;cases q3;exact .inr ⟨_,es,ck,by simpa[bE,I.isAgg,q4] using q1.symm,k3,k5,k6⟩
 ·simp only[v6,Prod.mk.injEq] at hm;obtain ⟨rfl,rfl⟩:=hm;obtain ⟨cs,q1,q2⟩:=hv;simp only[al] at q2;exact .inl ⟨by simpa[bE,I.isAgg,q2.1] using q1.symm,rfl,rfl⟩
 ·cases hm
theorem oG{w:World}{D:aP}{E:a8}{y:I}{v:Value}(hv:y.bS=true)(h:bd w D E y v):∃ cs,bE y v cs∧al w D E y cs:=by
 cases y <;>simp[I.bS] at hv <;>exact h
theorem pU{w:World}{D:aP}{E:a8} : ∀ {xs:List I} {vs:List Value} {j:Nat} {x:I},aJ w D E xs vs→xs[j]?=some x→x.bS=true
 | [],_,j,x,_,h=>by simp at h
 |y::ys,vs,j,x,hr,h=>by
  simp only[aJ] at hr;obtain ⟨v,rest,cs,rfl,J,U,ah⟩:=hr;cases j with
  |zero =>
   simp only[List.getElem?_cons_zero,v6] at h;subst h;cases y <;>simp only[al] at U <;>rfl
  |succ j=>exact pU (xs:=ys) ah (by simpa using h)
theorem aaF{x:I}{cs r:List Value}(h:mC x cs=some r):x.bS=true:=by
 cases x <;>first | rfl | (cases cs <;>simp[mC] at h)
theorem aaG{P:Program}{t:TypeId}{z:I}(hz:gm P t=some z)(hp:uo P t z=true):∃ zv,(∀ w,(zeroValue t).run P w=.ok zv w)∧z.bS=true∧∀ w D E,bd w D E z zv:=by
 have hz0:=hz;obtain ⟨i,zv,hi,hzz,hzr⟩:=lE hz;have hv:z.bS=true:=by
  unfold gm at hz;split at hz
  ·split at hz
   ·rename_i hk;simp only[v6] at hz;subst hz;exact aaF hk
   ·cases hz
  ·cases hz
 refine ⟨zv,fun w=>by simp[zeroValue,typeInfo,hi,hzz],hv,fun w D E =>?_⟩;have J:=hzr w D E;simp only[uo,hi,Option.bind_some,hzz] at hp;refine jC (cs:=zv.cells.toList) ?_ J;cases zv <;>simp only[bE] at hp ⊢ <;>first
  |(rw[if_pos hp];simp[Value.cells])
  |(have hp':z.isAgg=false:=by simpa using hp
    rw[hp'];simp[Value.cells])
theorem WW{t kt et:TypeId}{m k:Operand}{m' k':aO}{ok:Bool}{ty:cH}{z v:I}{ks vs:List I}{there:Bool}(ho:o.op=.lookup t m k ok)(hu:c.P.underlying t=some (.map kt et))(hk:jT c.P kt=some ty)(hz:gm c.P et=some z)(hzp:uo c.P et z=true)
  (hm:br c.P 0 m=some m') (hk':br c.P 0 k=some k') (hmm:gb A (ak A m')=some (ks,vs)) (ao:fi ty z (ak A k') ks vs=some (v,there)):dG c A o (if ok then .tuple [v,.bool there] else v) :=
 .same fun a w D E ab=>by
  have J:=bX ab hm;have U:=bX ab hk';obtain ⟨zv,hzrun,hzv,hzrv⟩:=aaG hz hzp;unfold fi at ao;split at ao
  case isFalse=>cases ao
  rename_i hkk;obtain ⟨rk,hrk⟩:=zy8.1 hkk;have hchk:=fun em=>vi (P:=c.P) (w:=w) (em:=em) hk U hrk 9998;have bj:∀ u there,v.bS=true→bd w D E v u→bd w D E (if ok then .tuple [v,.bool there] else v) (if ok then Value.tuple #[u,.bool there] else u):=fun u there hval hu'=>by
   cases ok
   ·exact hu'
   ·obtain ⟨cs,q1,q2⟩:=oG hval hu';simp only[if_true,bd,aJ];exact ⟨[u,.bool there],rfl,u,[.bool there],cs,rfl,q1,q2,.bool there,[],[.bool there],rfl,by simp[bE,I.isAgg],by simp[al],rfl⟩
  have main:∀ (es:Array MapEntry),aJ w D E ks (es.toList.map (·.key))→aJ w D E vs (es.toList.map (·.val))→∃ u,v.bS=true∧bd w D E v u ∧
    ((∃ i,(Instr.findKey kt (a.eval k) es.toList).run c.P w=.ok (some (i,u)) w∧there=true)∨((Instr.findKey kt (a.eval k) es.toList).run c.P w=.ok none w∧u=zv∧there=false)):=fun es hks hvs=>by
   split at ao
   ·rename_i i hfi;simp only[t7,Prod.mk.injEq] at ao;obtain ⟨v',hv',rfl,rfl⟩:=ao;obtain ⟨q,q1,q2⟩:=o8 hk U hks hfi;rcases q2 with ⟨e,_⟩ | ⟨j,e,e1,e2,rfl⟩
    ·cases e
    ·simp only[zz1,v6] at e1;subst e1;obtain ⟨x,k1,k2⟩:=mq (j:=i) (v:=e.val) hvs (by simp only[zy9,e2,zz9]);rw[hv',v6] at k1;subst k1;exact ⟨e.val,pU hvs hv',k2,.inl ⟨_,q1,rfl⟩⟩
   ·rename_i hfi;simp only[v6,Prod.mk.injEq] at ao;obtain ⟨rfl,rfl⟩:=ao;obtain ⟨q,q1,q2⟩:=o8 hk U hks hfi;rcases q2 with ⟨_,rfl⟩ | ⟨j,e,e1,_⟩
    ·exact ⟨zv,hzv,hzrv w D E,.inr ⟨q1,rfl,rfl⟩⟩
    ·cases e1
   ·cases ao
  rcases XN ab J hmm with ⟨e1,rfl,rfl⟩ | ⟨b,es,ck,e1,e2,e3,e4⟩
  ·obtain ⟨u,hval,hu',hrun⟩:=main #[] (by simp[aJ]) (by simp[aJ]);refine ⟨_,?_,bj u there hval hu'⟩;rcases hrun with ⟨i,q1,rfl⟩ | ⟨q1,rfl,rfl⟩ <;>
    simp only[execOp,ho,Instr.lookup,e1,Sem.run_bind,run_underlying hu,Result.andThen_ok,Sem.run_pure,hchk,q1,hzrun]
  ·obtain ⟨u,hval,hu',hrun⟩:=main es e3 e4;refine ⟨_,?_,bj u there hval hu'⟩;rcases hrun with ⟨i,q1,rfl⟩ | ⟨q1,rfl,rfl⟩ <;>
    simp only[execOp,ho,Instr.lookup,e1,Sem.run_bind,run_underlying hu,Result.andThen_ok,MapKept.run_getObj_map e2,Sem.run_pure,hchk,q1,hzrun]
theorem B9{y:Operand}{y':aO}(ho:o.op=.nilCheck y)(hy:br c.P 0 y=some y')(h:(∃ n p,ak A y'=.ptr n p)∨∃ z,ak A y'=.ref z):dG c A o (ak A y') :=
 .same fun a w D E ab=>by
  have J:=bX ab hy;rcases h with ⟨n,p,h⟩ | ⟨z,h⟩
  ·rw[h] at J ⊢;obtain ⟨b,aX,off,_,_,e⟩:=lr J;exact ⟨a.eval y,by simp only[execOp,ho,e,Sem.run_pure],J⟩
  ·rw[h] at J ⊢;obtain ⟨b,off,cs,e,_⟩:=pT J;exact ⟨a.eval y,by simp only[execOp,ho,e,Sem.run_pure],J⟩
theorem Cl{w:World}{D:aP}{E:a8}{x:I}{v:Value}{b:Bool}(h:iF x=some b)(hv:bd w D E x v):∃ ad,v=.pointer ad∧ad.isNone=b:=by
 cases x <;>simp only[iF,v6] at h <;>try (cases h;done)
 case nilp =>
  subst h;obtain ⟨cs,q1,q2⟩:=hv;simp only[al] at q2;exact ⟨none,by simpa[bE,I.isAgg,q2] using q1.symm,rfl⟩
 case ptr n p =>
  subst h;obtain ⟨b,aX,off,_,_,e⟩:=lr hv;exact ⟨_,e,rfl⟩
 case ref z =>
  subst h;obtain ⟨b,off,cs,e,_⟩:=pT hv;exact ⟨_,e,rfl⟩
theorem WZ{x y:Operand}{x' y':aO}{tys:Array TypeId}{v:I}(ho:o.op=.call { callee:=.builtin .max,args := #[x,y],argTypes:=tys })(hx:br c.P 0 x=some x')(hy:br c.P 0 y=some y')(h:rf (ak A x') (ak A y')=some v):dG c A o v :=
 .same fun a w D E ab=>by
  have J:=bX ab hx;have U:=bX ab hy;unfold rf at h;split at h
  case h_2=>cases h
  rename_i k n k2 m e1 e2;split at h
  case isFalse=>cases h
  rename_i hk;subst hk;simp only[v6] at h;subst h;rw[e1] at J;rw[e2] at U;obtain ⟨v1,r1⟩:=eT J;obtain ⟨v2,oa⟩:=eT U;refine ⟨.int k (if m>n then m else n),by simp[execOp,ho,resolve,invoke,builtin,Builtin.max_,Builtin.max2,v1,v2],jU ?_⟩;split
  ·exact oa
  ·exact r1
theorem W5{neg:Bool}{t yt e:TypeId}{y z:Operand}{y' z':aO}{b1 b2:Bool}(ho:o.op=.binOp (if neg then .neq else .eql) t y z yt)(hu:c.P.underlying t=some (.pointer e))(hy:br c.P 0 y=some y')(hz:br c.P 0 z=some z')
  (J:iF (ak A y')=some b1) (U:iF (ak A z')=some b2) (h:b1=true∨b2=true):dG c A o (.bool (if neg then !(b1&&b2) else (b1&&b2))) :=
 .same fun a w D E ab=>by
  obtain ⟨p,e1,k1⟩:=Cl J (bX ab hy);obtain ⟨q,e2,k2⟩:=Cl U (bX ab hz);have he:∀ d,(Op.equalIn (d+1) t (.pointer p) (.pointer q)).run c.P w=.ok (b1&&b2) w:=fun d=>by
   subst k1 k2;cases p <;>cases q <;>simp at h <;>simp[Op.equalIn,run_underlying hu]
  refine ⟨.bool (if neg then !(b1&&b2) else (b1&&b2)),?_,nT _⟩;cases neg <;>simp only[execOp,ho,e1,e2,if_true,zz2,if_false,Sem.run_bind,eqGuard] <;>simp[binOp,Op.equal,Op.maxDepth,he]
end
section
variable {c:cV} {A:ai} {o:Oper} {x:I}
theorem MR{t:TypeId}{d:Nat}(ho:o.op=.makeMap t none)(af:o.dst=some d)(hn:d<c.n)(hf:A.o d=none):h2 c A o ((A.aT d (.bt [] [])).put d (.mref d)):=by
 intro a w D E ab;have J:=ab.X3 (.inl hn) hf;have U:=J.put (x:=.mref d) (v:=.map (some w.heap.size)) hn ⟨_,by simp[bE,I.isAgg];rfl,by
  simp only[al,if_true];exact ⟨w.heap.size,rfl,rfl⟩⟩
 exact ⟨w.alloc (.map #[] 0),.inl ⟨.map (some w.heap.size),by simp[execOp,ho,Instr.makeMap],D,_,by rw[af];exact U⟩⟩
theorem xK{w:World}{D:aP}{E:a8} : ∀ {xs ys:List I} {us vs:List Value},aJ w D E xs us→aJ w D E ys vs→aJ w D E (xs++ys) (us++vs)
 | [],ys,us,vs,h,k=>by simp only[aJ] at h;subst h;simpa using k
 |x::xs,ys,us,vs,h,k=>by
  simp only[aJ,zz5] at *;obtain ⟨v,rest,cs,rfl,J,U,ah⟩:=h;exact ⟨v,rest++vs,cs,rfl,J,U,xK ah k⟩
theorem FF{w:World}{D:aP}{E:a8} : ∀ {xs:List I} {us:List Value} {i:Nat} {y:I} {v:Value} {cs:List Value},aJ w D E xs us→bE y v cs→al w D E y cs→aJ w D E (xs.set i y) (us.set i v)
 | [],us,i,y,v,cs,h,_,_=>by simp only[aJ] at h;subst h;simp[aJ]
 |x::xs,us,i,y,v,cs,h,k1,k2=>by
  simp only[aJ] at h;obtain ⟨u,rest,ds,rfl,J,U,ah⟩:=h;cases i with
  |zero=>simp only[List.set_cons_zero,aJ];exact ⟨v,rest,cs,rfl,k1,k2,ah⟩
  |succ i=>simp only[List.set_cons_succ,aJ];exact ⟨u,_,ds,rfl,J,U,FF ah k1 k2⟩
theorem FE{w:World}{D:aP}{E:a8}{y:I}{v:Value}{cs:List Value}(J:bE y v cs)(U:al w D E y cs):aJ w D E [y] [v]:=by
 simp only[aJ];exact ⟨v,[],cs,rfl,J,U,rfl⟩
theorem Bv{ty:cH}{k:I} : ∀ {ks:List I} {i j:Nat},eD ty k ks i=some (some j)→∃ x,ks[j-i]?=some x∧i≤j∧b7 ty k x=some true
 | [],i,j,h=>by simp[eD] at h
 |x::xs,i,j,h=>by
  simp only[eD] at h;split at h
  ·rename_i hb;simp only[v6] at h;subst h;exact ⟨x,by simp,zz4 _,hb⟩
  ·obtain ⟨y,J,U,ah⟩:=Bv h;refine ⟨y,?_,by omega,ah⟩;rw[show j-i=(j-(i+1))+1 from by omega];simpa using J
  ·cases h
theorem A2{t kt et:TypeId}{m k v:Operand}{m' k' v':aO}{ty:cH}{n:Nat}{ks vs ks' vs':List I}(ho:o.op=.mapUpdate t m k v∨o.op=.insert t m k v)(hu:c.P.underlying t=some (.map kt et))(hk:jT c.P kt=some ty)
  (hm:br c.P 0 m=some m') (hk':br c.P 0 k=some k') (hv':br c.P et v=some v') (hmm:ak A m'=.mref n) (hn:A.o n=some (.bt ks vs)) (ao:fq ty (ak A k') (ak A v') ks vs=some (ks',vs')) (af:o.dst=none) :
  h2 c A o (A.aT n (.bt ks' vs')):=by
 intro a w D E ab;have J:=bX ab hm;have U:=bX ab hk';have ah:=bX ab hv';rw[hmm] at J;unfold fq at ao;split at ao
 case isFalse=>cases ao
 rename_i hc;obtain ⟨hkk,hkv,hvv⟩:=hc;obtain ⟨rk,hrk⟩:=zy8.1 hkk;have hchk:=fun em=>vi (P:=c.P) (w:=w) (em:=em) hk U hrk 9998;obtain ⟨kcs,kp1,kp2⟩:=oG hkv U;obtain ⟨vcs,vp1,vp2⟩:=oG hvv ah;obtain ⟨b,es,ck,k1,k2,k3,k4,k5,k6,k7⟩:=ab.map hn;have hmv:a.eval m=.map (some b):=by
  obtain ⟨cs,q1,q2⟩:=J;simp only[al] at q2;obtain ⟨b',q3,q4⟩:=q2;rw[k1] at q3;cases q3;simpa[bE,I.isAgg,q4] using q1.symm
 -- the new entries
 have step:∀ (es':Array MapEntry) (ck':Nat),(Instr.mapUpdate t (.map (some b)) (a.eval k) (a.eval v)).run c.P w=.ok () (w.putObj b (.map es' ck'))→oB es' ck'→aJ w D E ks' (es'.toList.map (·.key))→aJ w D E vs' (es'.toList.map (·.val)) →
   ∃ w',((∃ u,(execOp a.eval o).run c.P w=.ok (.value u) w'∧b6 c (A.aT n (.bt ks' vs')) (a.put o.dst u) w')∨((execOp a.eval o).run c.P w=.ok .skip w'∧b6 c (A.aT n (.bt ks' vs')) (a.put o.dst undef) w')):=fun es' ck' hrun hst hks hvs=>by
  refine ⟨w.putObj b (.map es' ck'),.inr ⟨?_,?_⟩⟩
  ·rcases ho with ho | ho <;>simp only[execOp,ho,hmv,Sem.run_bind,hrun,Result.andThen_ok,Sem.run_pure]
  ·rw[af];have:=ab.xS (o':=.map es' ck') (x:=.bt ks' vs') k1 rfl rfl k3 rfl (fun q=>by simp) k2 (fun hl' bM hno=>⟨b,es',ck',k1,k2,bM,hst,aJ.later hl' _ _ hks,aJ.later hl' _ _ hvs,hno⟩);exact ⟨D,E,this⟩
 split at ao
 ·rename_i i hfi;simp only[v6,Prod.mk.injEq] at ao;obtain ⟨rfl,rfl⟩:=ao;obtain ⟨q,q1,q2⟩:=o8 hk U k5 hfi;rcases q2 with ⟨e,_⟩ | ⟨j,e,e1,e2,rfl⟩
  ·cases e
  simp only[zz1,v6] at e1;subst e1;obtain ⟨y,y1,_,y2⟩:=Bv hfi;simp only[Nat.sub_zero] at y1;obtain ⟨y',y3,y4⟩:=mq (j:=i) (v:=e.key) k5 (by simp only[zy9,e2,zz9]);rw[y1,v6] at y3;subst y3;obtain ⟨_,kk2,kk3⟩:=Xq hk y2 U y4;have hes:es[i]?=some e:=by rw[←zx8];exact e2
  have hlen:i<es.size:=(zy1.1 hes).1;refine step (es.modify i fun e => { e with key:=a.eval k,val:=a.eval v }) ck ?_ ?_ ?_ ?_
  ·have hsb:Instr.sameBits 10000 (((es[i]?).map (·.key)).getD (a.eval k)) (a.eval k)=true:=by
    rw[hes];simp only[zz9,Option.getD_some];rw[←kk2];rw[←kk2] at kk3;exact kk3
   simp only[Instr.mapUpdate,Sem.run_bind,run_underlying hu,Result.andThen_ok,MapKept.run_getObj_map k3,hchk,q1,zz1,Instr.keyThatStays,hsb,if_true,Sem.run_pure,MapKept.run_setObj_map _ k3];rfl
  all_goals
   have em:(es.modify i fun e => { e with key:=a.eval k,val:=a.eval v }).toList=es.toList.set i { e with key:=a.eval k,val:=a.eval v } :=by
    rw[Array.toList_modify];apply List.ext_getElem?;intro j;rw[List.getElem?_modify,List.getElem?_set];by_cases hij:i=j
    ·subst hij;have hge:es[i]'hlen=e:=(zy1.1 hes).2;simp[hlen,hge]
    ·simp[hij]
  ·refine ⟨fun x hx =>?_,?_⟩
   ·rw[em] at hx;rcases List.mem_or_eq_of_mem_set hx with hx | rfl
    ·exact k4.1 x hx
    ·exact k4.1 e (List.mem_of_getElem? e2)
   ·rw[em];have:(es.toList.set i { e with key:=a.eval k,val:=a.eval v }).map (·.born)=es.toList.map (·.born):=by
     rw[List.map_set];apply List.ext_getElem?;intro j;rw[List.getElem?_set];split
     ·rename_i hij;subst hij;simp[e2];exact hlen
     ·rfl
    rw[this];exact k4.2
  ·rw[em,List.map_set];have:(es.toList.map (·.key)).set i (a.eval k)=es.toList.map (·.key):=by
    apply List.ext_getElem?;intro j;rw[List.getElem?_set];split
    ·rename_i hij;subst hij;simp[e2,kk2];exact hlen
    ·rfl
   simp only[this];exact k5
  ·rw[em,List.map_set];exact FF k6 vp1 vp2
 ·rename_i hfi;simp only[v6,Prod.mk.injEq] at ao;obtain ⟨rfl,rfl⟩:=ao;obtain ⟨q,q1,q2⟩:=o8 hk U k5 hfi;rcases q2 with ⟨_,rfl⟩ | ⟨j,e,e1,_⟩
  case inr=>cases e1
  refine step (es.push { key:=a.eval k,val:=a.eval v,born:=ck }) (ck+1) ?_ ⟨fun x hx =>?_,?_⟩ ?_ ?_
  ·simp only[Instr.mapUpdate,Sem.run_bind,run_underlying hu,Result.andThen_ok,MapKept.run_getObj_map k3,hchk,q1,MapKept.run_setObj_map _ k3];rfl
  ·simp only[Array.toList_push,zx7,zx5] at hx;rcases hx with hx | rfl
   ·have:=k4.1 x hx;omega
   ·simp
  ·simp only[Array.toList_push,zy5,zz3,zx4];refine List.nodup_append.2 ⟨k4.2,by simp,fun x hx y hy =>?_⟩;simp only[zx5] at hy;subst hy;obtain ⟨e,he,rfl⟩:=zx1.1 hx;exact Nat.ne_of_lt (k4.1 e he)
  ·simp only[Array.toList_push,zy5,zz3,zx4];exact xK k5 (FE kp1 kp2)
  ·simp only[Array.toList_push,zy5,zz3,zx4];exact xK k6 (FE vp1 vp2)
 ·cases ao
theorem tm{α β:Type}(f:α→β):∀ (l:List α) (i:Nat),(l.eraseIdx i).map f=(l.map f).eraseIdx i
 | [],_=>rfl
 |x::xs,0=>rfl
 |x::xs,i+1=>by simp only[List.eraseIdx_cons_succ,zz3,tm f xs i]
theorem xM{w:World}{D:aP}{E:a8} : ∀ {xs:List I} {us:List Value} (i:Nat),aJ w D E xs us→aJ w D E (xs.eraseIdx i) (us.eraseIdx i)
 | [],us,i,h=>by simp only[aJ] at h;subst h;simp[aJ]
 |x::xs,us,i,h=>by
  simp only[aJ] at h;obtain ⟨v,rest,cs,rfl,J,U,ah⟩:=h;cases i with
  |zero=>exact ah
  |succ i=>simp only[List.eraseIdx_cons_succ,aJ];exact ⟨v,_,cs,rfl,J,U,xM i ah⟩
theorem MQ{t kt et t':TypeId}{m k:Operand}{m' k':aO}{ty:cH}{n:Nat}{ks vs ks' vs':List I}(ho:o.op=.call { callee:=.builtin .delete,args := #[m,k],argTypes := #[t,t'] })(hu:c.P.underlying t=some (.map kt et))(hk:jT c.P kt=some ty)
  (hm:br c.P 0 m=some m') (hk':br c.P 0 k=some k') (hmm:ak A m'=.mref n) (hn:A.o n=some (.bt ks vs)) (ao:lW ty (ak A k') ks vs=some (ks',vs')) (af:o.dst=none) :
  h2 c A o (A.aT n (.bt ks' vs')):=by
 intro a w D E ab;have J:=bX ab hm;have U:=bX ab hk';rw[hmm] at J;unfold lW at ao;split at ao
 case isFalse=>cases ao
 rename_i hkk;obtain ⟨rk,hrk⟩:=zy8.1 hkk;have hchk:=fun em=>vi (P:=c.P) (w:=w) (em:=em) hk U hrk 9998;obtain ⟨b,es,ck,k1,k2,k3,k4,k5,k6,k7⟩:=ab.map hn;have hmv:a.eval m=.map (some b):=by
  obtain ⟨cs,q1,q2⟩:=J;simp only[al] at q2;obtain ⟨b',q3,q4⟩:=q2;rw[k1] at q3;cases q3;simpa[bE,I.isAgg,q4] using q1.symm
 have step:∀ (es':Array MapEntry),(Builtin.delete_ #[t,t'] o.type #[.map (some b),a.eval k]).run c.P w=.ok (.tuple #[]) (w.putObj b (.map es' ck))→oB es' ck→aJ w D E ks' (es'.toList.map (·.key))→aJ w D E vs' (es'.toList.map (·.val)) →
   ∃ w',((∃ u,(execOp a.eval o).run c.P w=.ok (.value u) w'∧b6 c (A.aT n (.bt ks' vs')) (a.put o.dst u) w')∨((execOp a.eval o).run c.P w=.ok .skip w'∧b6 c (A.aT n (.bt ks' vs')) (a.put o.dst undef) w')):=fun es' hrun hst hks hvs=>by
  refine ⟨w.putObj b (.map es' ck),.inl ⟨.tuple #[],?_,?_⟩⟩
  ·simp[execOp,ho,resolve,invoke,builtin,hmv,hrun]
  ·rw[af];have:=ab.xS (o':=.map es' ck) (x:=.bt ks' vs') k1 rfl rfl k3 rfl (fun q=>by simp) k2 (fun hl' bM hno=>⟨b,es',ck,k1,k2,bM,hst,aJ.later hl' _ _ hks,aJ.later hl' _ _ hvs,hno⟩);exact ⟨D,E,this⟩
 split at ao
 ·rename_i i hfi;simp only[v6,Prod.mk.injEq] at ao;obtain ⟨rfl,rfl⟩:=ao;obtain ⟨q,q1,q2⟩:=o8 hk U k5 hfi;rcases q2 with ⟨e,_⟩ | ⟨j,e,e1,e2,rfl⟩
  ·cases e
  simp only[zz1,v6] at e1;subst e1;have hes:es[i]?=some e:=by rw[←zx8];exact e2
  have hlen:i<es.size:=(zy1.1 hes).1;have em:(es.eraseIdxIfInBounds i).toList=es.toList.eraseIdx i:=by
   simp[Array.eraseIdxIfInBounds,hlen]
  refine step (es.eraseIdxIfInBounds i) ?_ ⟨fun x hx =>?_,?_⟩ ?_ ?_
  ·simp[Builtin.delete_,run_underlying hu,MapKept.run_getObj_map k3,hchk,q1,MapKept.run_setObj_map _ k3];rfl
  ·rw[em] at hx;exact k4.1 x (List.mem_of_mem_eraseIdx hx)
  ·rw[em,tm];exact k4.2.sublist (List.eraseIdx_sublist _ _)
  ·rw[em,tm];exact xM i k5
  ·rw[em,tm];exact xM i k6
 ·rename_i hfi;simp only[v6,Prod.mk.injEq] at ao;obtain ⟨rfl,rfl⟩:=ao;obtain ⟨q,q1,q2⟩:=o8 hk U k5 hfi;rcases q2 with ⟨_,rfl⟩ | ⟨j,e,e1,_⟩
  case inr=>cases e1
  refine step es ?_ k4 k5 k6;simp[Builtin.delete_,run_underlying hu,MapKept.run_getObj_map k3,hchk,q1,MapKept.run_setObj_map _ k3];rfl
 ·cases ao
theorem MT{t kt et:TypeId}{y:Operand}{y':aO}{ks vs:List I}{d:Nat}(ho:o.op=.range t y)(hu:c.P.underlying t=some (.map kt et))(hy:br c.P 0 y=some y')(h:ak A y'=.df ks vs)(af:o.dst=some d)(hn:d<c.n)(hf:A.o d=none) :
  h2 c A o ((A.aT d (.it ks vs (List.range ks.length) none)).put d (.dj d)):=by
 intro a w D E ab;have J:=bX ab hy;rw[h] at J;obtain ⟨cs,q1,q2⟩:=J;simp only[al] at q2;obtain ⟨b,es,ck,q3,q4,q5,q6⟩:=q2;have hv:a.eval y=.map (some b):=by simpa[bE,I.isAgg,q3] using q1.symm
 have U:=ab.X2 (.inl hn) hf q4 q5 q6;have ah:=U.put (x:=.dj d) (v:=.pointer (some ⟨w.heap.size,0,none⟩)) hn ⟨_,by simp[bE,I.isAgg];rfl,by
  simp only[al,if_true];exact ⟨w.heap.size,rfl,rfl⟩⟩
 refine ⟨w.alloc (.mapIter (some b) ck #[] ck),.inl ⟨.pointer (some ⟨w.heap.size,0,none⟩),?_,D,_,by rw[af];exact ah⟩⟩;simp only[execOp,ho,hv,Sem.run_bind,run_range_map w t kt et b es ck hu q4.1,Result.andThen_ok,Sem.run_pure]
theorem CA{es:Array MapEntry}{bo:Array Nat}{i:Nat} : i∈nP es bo↔∃ e,es[i]?=some e∧bo.contains e.born=false:=by
 unfold nP;simp only[zw3,zw5];constructor
 ·rintro ⟨J,U⟩;rw[zw7 J] at U ⊢;exact ⟨_,rfl,by simpa using U⟩
 ·rintro ⟨e,J,U⟩;exact ⟨(zy1.1 J).1,by rw[J];simpa using U⟩
theorem aak{es:Array MapEntry}{ck:Nat}(hst:oB es ck){i j:Nat}{e f:MapEntry}(hi:es[i]?=some e)(hj:es[j]?=some f)(h:e.born=f.born):i=j:=by
 have hn:=hst.2;rw[←zx8] at hi hj;have J:(es.toList.map (·.born))[i]?=some e.born:=by rw[zy9,hi];rfl
 have U:(es.toList.map (·.born))[j]?=some e.born:=by rw[zy9,hj,h];rfl
 have hil:i<(es.toList.map (·.born)).length:=(zz6.1 J).1;have hjl:j<(es.toList.map (·.born)).length:=(zz6.1 U).1;exact (List.getElem?_inj hil hn).1 (J.trans U.symm)
theorem XC{es:Array MapEntry}{bo:Array Nat}{ck i:Nat}{e:MapEntry}(hst:oB es ck)(hi:es[i]?=some e):nP es (bo.push e.born)=(nP es bo).filter (· != i):=by
 unfold nP;rw[List.filter_filter];refine List.filter_congr fun j hj =>?_;have hjl:j<es.size:=by simpa using hj
 rw[zw7 hjl];simp only[Array.contains_push];by_cases hij:j=i
 ·subst hij;rw[zw7 hjl,v6] at hi;simp[hi]
 ·have:(es[j].born==e.born)=false:=by
   simp only[beq_eq_false_iff_ne,ne_eq];exact fun h=>hij (aak hst (zw7 hjl) hi h)
  have U:(j != i)=true:=by simpa using hij
  simp[this,U]
theorem X4{y:Operand}{y':aO}{ks vs:List I}{left:List Nat}{cur:Option Nat}{n:Nat}(ho:o.op=.next y false)(hy:br c.P 0 y=some y')(h:ak A y'=.dj n)(hn:A.o n=some (.it ks vs left cur))(hdn:∀ k,o.dst=some k→k<c.n){a:Act}{w:World}{D:aP}{E:a8}(ab:aV c A a w D E) :
  ∃ w' v,(execOp a.eval o).run c.P w=.ok (.value v) w'∧((left=[]∧b6 c (A.aS o.dst (.tuple [.bool false])) (a.put o.dst v) w') ∨
   ∃ i k x,i∈left∧ks[i]?=some k∧vs[i]?=some x∧b6 c ((A.aT n (.it ks vs (left.filter (· != i)) (some i))).aS o.dst (.tuple [.bool true,k,x])) (a.put o.dst v) w'):=by
 have J:=bX ab hy;rw[h] at J;obtain ⟨cs,q1,q2⟩:=J;simp only[al] at q2;obtain ⟨r,q3,q4⟩:=q2;have hv:a.eval y=.pointer (some ⟨r,0,none⟩):=by simpa[bE,I.isAgg,q4] using q1.symm
 have hob:=ab.bP n;rw[hn] at hob;obtain ⟨r',b,es,ck,since,bo,last,k1,k2,k3,k4,k5,k6,k7,k8,k9,k9',k10⟩:=hob;rw[k1] at q3;cases q3;rcases run_next_at (P:=c.P) w o.type r b since last bo es ck k3 k4.1 k7 k8.1 with ⟨aY,hrun⟩ | ⟨e,he,w1,hal,hrun⟩
 ·refine ⟨w,.tuple #[.bool false],by simp only[execOp,ho,hv,Sem.run_bind,hrun,Result.andThen_ok,Sem.run_pure],.inl ⟨?_,D,E,ab.aS hdn ?_⟩⟩
  ·rw[k9];refine List.eq_nil_iff_forall_not_mem.2 fun i hi =>?_;obtain ⟨e,J,U⟩:=CA.1 hi;have hm:e∈leftOf es bo:=by
    unfold leftOf;simp only[Array.mem_filter];exact ⟨Array.mem_of_getElem? J,by simpa using U⟩
   rw[Array.eq_empty_of_size_eq_zero aY] at hm;simp at hm
  ·simp only[bd,aJ];exact ⟨[.bool false],rfl,.bool false,[],[.bool false],rfl,by simp[bE,I.isAgg],by simp[al],rfl⟩
 ·have hmem:e∈es.toList∧bo.contains e.born=false:=by
   unfold leftOf at he;simp only[Array.toList_filter,zw3] at he;exact ⟨he.1,by simpa using he.2⟩
  obtain ⟨i,hi⟩:=List.getElem?_of_mem hmem.1;have hie:es[i]?=some e:=by rw[←zx8];exact hi
  obtain ⟨k,hk1,hk2⟩:=mq (j:=i) (v:=e.key) k5 (by simp only[zy9,hi,zz9]);obtain ⟨x,hx1,hx2⟩:=mq (j:=i) (v:=e.val) k6 (by simp only[zy9,hi,zz9]);have hsw:aV c A a w1 D E:=by
   rcases hal with rfl | rfl
   ·exact ab
   ·exact ab.grow (w':=w.drew) (D':=D) ⟨rfl,rfl,rfl,zz4 _,fun _ _=>rfl⟩ (fun _ _ h=>h) (fun _ _ h _=>h) (fun b o af=>ab.aR b o af)
  have hw1:w1.heap=w.heap:=by rcases hal with rfl | rfl <;>rfl
  have k3':w1.heap[r]?=some (.mapIter (some b) since bo last):=by rw[hw1];exact k3
  have hset:=hsw.xS (x:=.it ks vs (left.filter (· != i)) (some i)) (o':=.mapIter (some b) since (bo.push e.born) ck) k1 rfl rfl k3' rfl (fun q=>by simp) k2
   (fun ao bM hno=>by
    have hm:nU w1 D b es ck:=⟨by rw[hw1];exact k4.1,k4.2.1,k4.2.2⟩
    have hob:=hsw.bP n;rw[hn] at hob;refine ⟨r,b,es,ck,since,bo.push e.born,ck,k1,k2,bM,hm.later ao,aJ.later ao _ _ ?_,aJ.later ao _ _ ?_,k7,?_,?_,fun j hj =>?_,hno⟩
    ·obtain ⟨oa,b2,es2,ck2,si2,se2,la2,g1,g2,g3,g4,g5,g6,_⟩:=hob;rw[k1] at g1;cases g1;rw[k3'] at g3;cases g3;have:=g4.1;rw[hw1,k4.1] at this;cases this;exact g5
    ·obtain ⟨oa,b2,es2,ck2,si2,se2,la2,g1,g2,g3,g4,g5,g6,_⟩:=hob;rw[k1] at g1;cases g1;rw[k3'] at g3;cases g3;have:=g4.1;rw[hw1,k4.1] at this;cases this;exact g6
    ·exact ⟨k8.2,k8.2⟩
    ·rw[k9,XC k4.2.2 hie]
    ·cases hj;exact ⟨e,hie,by simp,rfl⟩)
  have hset':aV c (A.aT n (.it ks vs (left.filter (· != i)) (some i))) a (ChangeMaps.setBlock w1 r (.mapIter (some b) since (bo.push e.born) ck)) D E:=hset;refine ⟨_,.tuple #[.bool true,e.key,e.val],by simp only[execOp,ho,hv,Sem.run_bind,hrun,Result.andThen_ok,Sem.run_pure],.inr ⟨i,k,x,?_,hk1,hx1,D,E,hset'.aS hdn ?_⟩⟩
  ·rw[k9];exact CA.2 ⟨e,hie,hmem.2⟩
  ·have hob2:=hset'.bP n;simp only[ai.aT,if_true] at hob2;obtain ⟨oa,b2,es2,ck2,si2,se2,la2,g1,g2,g3,g4,g5,g6,_⟩:=hob2;rw[k1] at g1;cases g1;have hr2:(ChangeMaps.setBlock w1 r (.mapIter (some b) since (bo.push e.born) ck)).heap[r]?=some (.mapIter (some b) since (bo.push e.born) ck):=World.putObj_heap_same (w:=w1) (fD k3');rw[hr2] at g3;cases g3;have hb2:(ChangeMaps.setBlock w1 r (.mapIter (some b) since (bo.push e.born) ck)).heap[b]?=some (.map es ck):=by
    have:b≠r:=fun e=>by rw[e] at k4;rw[k4.1] at k3;cases k3
    refine (World.putObj_heap_other (w:=w1) this).trans ?_;rw[hw1];exact k4.1
   have:=g4.1;rw[hb2] at this;cases this;obtain ⟨kk,a1,a2⟩:=mq (j:=i) (v:=e.key) g5 (by simp only[zy9,hi,zz9]);rw[hk1] at a1;cases a1;obtain ⟨xx,b1,b2⟩:=mq (j:=i) (v:=e.val) g6 (by simp only[zy9,hi,zz9]);rw[hx1] at b1;cases b1;obtain ⟨c1,c2,c3⟩:=oG (pU k5 hk1) a2;obtain ⟨d1,d2,d3⟩:=oG (pU k6 hx1) b2;simp only[bd,aJ];exact ⟨[.bool true,e.key,e.val],rfl,.bool true,_,[.bool true],rfl,by simp[bE,I.isAgg],by simp[al],e.key,_,c1,rfl,c2,c3,e.val,[],d1,rfl,d2,d3,rfl⟩
theorem WI{y:Operand}{y':aO}{ks vs:List I}{left:List Nat}{i n:Nat}{k x:I}(ho:o.op=.entry y)(hy:br c.P 0 y=some y')(h:ak A y'=.dj n)(hn:A.o n=some (.it ks vs left (some i)))(hk:ks[i]?=some k)(hx:vs[i]?=some x):dG c A o (.tuple [k,x]) :=
 .same fun a w D E ab=>by
  have J:=bX ab hy;rw[h] at J;obtain ⟨cs,q1,q2⟩:=J;simp only[al] at q2;obtain ⟨r,q3,q4⟩:=q2;have hv:a.eval y=.pointer (some ⟨r,0,none⟩):=by simpa[bE,I.isAgg,q4] using q1.symm
  have hob:=ab.bP n;rw[hn] at hob;obtain ⟨r',b,es,ck,since,bo,last,k1,k2,k3,k4,k5,k6,k7,k8,k9,k9',k10⟩:=hob;rw[k1] at q3;cases q3;obtain ⟨e,e1,e2,rfl⟩:=k9' i rfl;have hi:es.toList[i]?=some e:=by rw[zx8];exact e1
  obtain ⟨kk,a1,a2⟩:=mq (j:=i) (v:=e.key) k5 (by simp only[zy9,hi,zz9]);rw[hk] at a1;cases a1;obtain ⟨xx,b1,b2⟩:=mq (j:=i) (v:=e.val) k6 (by simp only[zy9,hi,zz9]);rw[hx] at b1;cases b1;obtain ⟨c1,c2,c3⟩:=oG (pU k5 hk) a2;obtain ⟨d1,d2,d3⟩:=oG (pU k6 hx) b2;have hf:es.find? (·.born==e.born)=some e:=by rw[←Array.find?_toList];exact find_born e es.toList k4.2.2.2 (List.mem_of_getElem? hi)
  refine ⟨.tuple #[e.key,e.val],?_,?_⟩
  ·have hr:(Instr.entry (.pointer (some ⟨r,0,none⟩))).run c.P w=.ok (.tuple #[e.key,e.val]) w:=by
    simp only[Instr.entry,getObj,Sem.run_bind,Sem.run,k3,k4.1,Result.andThen,e2,bne_self_eq_false,zz2,if_false,hf];rfl
   simp only[execOp,ho,hv,Sem.run_bind,hr,Result.andThen_ok,Sem.run_pure]
  ·simp only[bd,aJ];exact ⟨[e.key,e.val],rfl,e.key,_,c1,rfl,c2,c3,e.val,[],d1,rfl,d2,d3,rfl⟩
theorem E0{w:World}{D:aP}{E:a8}{z:I}{v:Value}(h:al w D E z [v]):∀ n:Nat,aN w D E (List.replicate n z) (List.replicate n v)
 |0=>by simp[aN]
 |n+1=>by simp only[List.replicate_succ,aN];exact ⟨[v],_,rfl,h,E0 h n⟩
theorem MS{t e:TypeId}{l l':Operand}{n':aO}{z:I}{n d:Nat}{k:IntKind}(ho:o.op=.makeSlice t l l')(hll:l'=l)(hu:c.P.underlying t=some (.slice e))(ao:br c.P 0 l=some n')(h:ak A n'=.int k n)(hz:gm c.P e=some z)(hz1:z.size=1)
  (hc1:c.P.cellsOf e=1) (hby:n*c.P.bytesOf e≤281474976710656) (hmax:n≤maxLen) (af:o.dst=some d) (hn:d<c.n) (hf:A.o d=none):h2 c A o ((A.aT d (.box (.agg (List.replicate n z)))).put d (.view d [] 1 0 n)):=by
 subst hll;intro a w D E ab;have J:=bX ab ao;rw[h] at J;obtain ⟨e1,_⟩:=eT J;obtain ⟨i,zv,hi,hzz,hzr⟩:=lE hz;have hzc:=al.length _ _ (hzr w D E);rw[hz1] at hzc;obtain ⟨u,hu1⟩:∃ u,zv.cells = #[u]:=by
  have:zv.cells.size=1:=by simpa using hzc
  obtain ⟨u,hu⟩:=Array.size_eq_one_iff.1 this;exact ⟨u,hu⟩
 have hsz:i.size=1:=by have:=hc1;simp only[Program.cellsOf,hi,zz9,Option.getD_some] at this;exact this
 have hbytes:(i.bytes:Int)*(n:Int)≤281474976710656:=by
  have:c.P.bytesOf e=i.bytes:=by simp[Program.bytesOf,hi]
  rw[this] at hby;have U:((i.bytes*n:Nat):Int)≤281474976710656:=by rw[Nat.mul_comm] at hby;omega
  rwa [Int.natCast_mul] at U
 have hrun:=run_make (P:=c.P) w t e i zv hu hi hzz k k n n (by omega) (Int.le_refl _) hbytes (by have h9:=hmax;unfold maxLen at h9;omega);simp only[Int.toNat_natCast,hsz,Nat.mul_one] at hrun;have hmc:(madeCells zv.cells n).toList=List.replicate n u:=by
  rw[hu1];simp only[madeCells];apply List.ext_getElem?;intro j;simp[List.getElem?_replicate];split <;>simp_all[Nat.mod_one]
 have hcells:al w D E (.agg (List.replicate n z)) (madeCells zv.cells n).toList:=by
  rw[hmc];simp only[al];refine E0 ?_ n;have:=hzr w D E;rw[hu1] at this;simpa using this
 have U:=ab.rh (T:=e) (.inl hn) hf hcells;have ah:=U.put (x:=.view d [] 1 0 n) (v:=.slice (some ⟨w.heap.size,0,none⟩) n n) hn ⟨_,by simp[bE,I.isAgg];rfl,by
  simp only[al,if_true];refine ⟨w.heap.size,_,0,I.cQ (List.replicate n z),rfl,by simp[cR.off],by simp[I.aX,cR.part],by simp[I.dw],by simpa[I.dw] using hmax,by simp[I.dw],fun s ab =>?_⟩;rw[I.dw] at ab;obtain ⟨y,hy,rfl⟩:=zx1.1 ab;rw[I.lx,(List.mem_replicate.1 hy).2,hz1]⟩
 refine ⟨_,.inl ⟨_,?_,D,_,by rw[af];exact ah⟩⟩;simp only[execOp,ho,e1,Sem.run_bind,hrun,Result.andThen_ok,Sem.run_pure]
end
end Go.Abs
namespace Go.Abs
open Go Go.RowKit
mutual
/-- Values that lead to no memory. -/
def I.flat:I→Bool
 | .agg fs | .tuple fs=>I.nI fs
 | .bool _ | .int _ _ | .bQ _ | .nilp | .dy | .dW | .any | .raw _ | .undef | .du=>true
 |_=>false
def I.nI:List I→Bool
 | []=>true
 |x::xs=>x.flat&&I.nI xs
end
mutual
theorem al.flat{w w':World}{D D':aP}{E E':a8} : ∀ (x:I) (cs:List Value),x.flat=true→al w D E x cs→al w' D' E' x cs
 | .agg fs,cs,hf,hr=>by simp only[al,I.flat] at *;exact aN.flat fs cs hf hr
 | .bool b,cs,_,hr=>by simpa only[al] using hr
 | .int k n,cs,_,hr=>by simpa only[al] using hr
 | .bQ s,cs,_,hr=>by simpa only[al] using hr
 | .nilp,cs,_,hr=>by simpa only[al] using hr
 | .dy,cs,_,hr=>by simpa only[al] using hr
 | .dW,cs,_,hr | .any,cs,_,hr=>by simpa only[al] using hr
 | .raw _,cs,_,hr=>by simpa only[al] using hr
 | .undef,_,_,hr=>by simp only[al] at hr
 | .du,_,_,hr=>by simp only[al] at hr
 | .tuple _,_,_,hr=>by simp only[al] at hr
 | .nils _,_,hf,_ | .c0 _,_,hf,_ | .slice _ _,_,hf,_ | .ref _,_,hf,_ | .func _ _,_,hf,_ | .iface _ _,_,hf,_ | .ptr _ _,_,hf,_ | .own _ _,_,hf,_ | .view _ _ _ _ _,_,hf,_ | .mref _,_,hf,_ | .dj _,_,hf,_ | .df _ _,_,hf,_=>by simp[I.flat] at hf
theorem aN.flat{w w':World}{D D':aP}{E E':a8} : ∀ (xs:List I) (cs:List Value),I.nI xs=true→aN w D E xs cs→aN w' D' E' xs cs
 | [],cs,_,hr=>by simpa only[aN] using hr
 |x::xs,cs,hf,hr=>by
  simp only[aN,I.nI,t8] at *;obtain ⟨c1,c2,J,U,ah⟩:=hr;exact ⟨c1,c2,J,al.flat x c1 hf.1 U,aN.flat xs c2 hf.2 ah⟩
end
theorem aJ.flat{w w':World}{D D':aP}{E E':a8} : ∀ (xs:List I) (vs:List Value),I.nI xs=true→aJ w D E xs vs→aJ w' D' E' xs vs
 | [],vs,_,hr=>by simpa only[aJ] using hr
 |x::xs,vs,hf,hr=>by
  simp only[aJ,I.nI,t8] at *;obtain ⟨v,rest,cs,J,U,ah,ar⟩:=hr;exact ⟨v,rest,cs,J,U,al.flat x cs hf.1 ah,aJ.flat xs rest hf.2 ar⟩
theorem bd.flat{w w':World}{D D':aP}{E E':a8}{x:I}{v:Value}(hf:x.flat=true)(hr:bd w D E x v):bd w' D' E' x v:=by
 cases x <;>simp only[bd] at * <;>first
  |exact hr
  |(obtain ⟨vs,J,U⟩:=hr;exact ⟨vs,J,aJ.flat _ _ (by simpa[I.flat] using hf) U⟩)
  |(obtain ⟨cs,J,U⟩:=hr;exact ⟨cs,J,al.flat _ _ hf U⟩)
def di:a8:=fun _=>none
def aZ(P:Program)(f:FuncId)(args:List I)(r:I):Prop :=
 eZ P f=true∧∀ (w:World) (D:aP) (vs:List Value),gM P w (fun _=>False)→(∀ b o,D b o→b<w.heap.size)→aJ w D di args vs →
  Calls P f vs.toArray w fun e w'=>∃ v D',e=.returned v∧bd w' D' di r v∧Below w.heap.size w w'∧(∀ b o,D' b o→b<w'.heap.size)∧∀ b o,D' b o→b<w.heap.size→D b o
def cP(P:Program)(f:FuncId)(args:List I)(os:List (Nat×aq))(post:cC):Prop :=
 eZ P f=true∧nr (Calls P f) (fun w _ E=>gM P w (cI E)) args os post
def cF(p:Nat→Bool):List (Nat×aq)→Prop
 | []=>True
 |(_,v)::r=>v.only p=true∧cF p r
def ec(ns:List Nat)(os:List (Nat×aq)):List (Nat×aq):=os.filter fun q => !ns.contains q.1
def kh(ns:List Nat)(ts:List (Nat×I)):List (Nat×I):=ts.map fun q=>(q.1,if q.2.only (fun n => !ns.contains n) then q.2 else .du)
def kY(ns:List Nat)(os:List (Nat×aq)):List (Nat×aq):=os.filter fun q=>ns.contains q.1
def ig(ρ:List (Nat×Nat))(os:List (Nat×aq)):List Nat:=os.map fun q=>bH ρ q.1
def gO(aL:Bool)(A0:ai)(ρ:List (Nat×Nat))(os:List (Nat×aq)):List I→List I→Prop
 | [],[]=>True
 |x::xs,c::cs=>((x=c.bh (bH ρ)∧c.only (aw os)=true∧c.bS=true)∨bj aL A0 x=some c)∧gO aL A0 ρ os xs cs
 |_,_=>False
structure aI where
 dst:Option Nat
 op:bT
 guard:Option (Nat×Bool)
 deriving Inhabited
inductive cM where
 |done (A:ai)
 |fail
 |call (f:FuncId) (avs:List I) (a1 a2:Option (List I)) (dst:Option Nat) (rest:List aI) (A:ai)
 |kN (v:Value) (avs:List I) (dst:Option Nat) (rest:List aI) (A:ai)
 |j7 (f:FuncId) (avs:List I) (dst:Option Nat) (rest:List aI) (A:ai)
 |any (p:Nat→Prop) (k:Nat→cM)
def cS(x:Option I)(k:I→cM):cM:=match x with
 |some v=>k v
 |none=>.fail
def w5(s:Option Nat)(v old:I):Prop:=v.bS=true∧b8 s v=true∧v.aX=old.aX
def w0(e esz bytes l sz:Nat)(ys:List I)(T sz':Nat)(es:List I):Prop:=l=es.length∧sz=esz∧T=e∧sz'=esz∧ys≠[]∧es.length+ys.length≤maxLen∧(es.length+ys.length)*bytes≤140737488355328
def qH(ys:List I):List Int:=ys.filterMap fun y=>match y with | .int .i64 i=>some i | _=>none
def w4(e esz bytes l:Nat)(ys:List I)(T:Nat)(xs:List Int)(z:I):Prop:=l=xs.length∧esz=1∧T=e∧z=.int .i64 0∧ys=(qH ys).map (.int .i64)∧ys≠[]∧xs.length+ys.length≤maxLen∧(xs.length+ys.length)*bytes≤140737488355328
def jL:I→Bool
 | .slice _ es=>es.isEmpty
 | .c0 _=>true
 |_=>false
def kU(f:Nat):Nat:=if f<1000000 then f else f-1000000
def ib(f:Nat)(args caps:List I):List I:=if f<1000000 then args++caps else caps++args
theorem vH{f:Nat}(h:f<1000000):kU f=f:=by simp only[kU,if_pos h]
theorem vG{f:Nat}(h:f<1000000)(args caps:List I):ib f args caps=args++caps:=by simp only[ib,if_pos h]
theorem sO(g:Nat):kU (g+1000000)=g:=by simp only[kU,if_neg (show ¬ g+1000000<1000000 by omega),Nat.add_sub_cancel]
theorem vF(g:Nat)(args caps:List I):ib (g+1000000) args caps=caps++args:=by simp only[ib,if_neg (show ¬ g+1000000<1000000 by omega)]
open Classical in
noncomputable def fX(A:ai)(dst:Option Nat)(esz bytes:Nat)(z:I)(es ys:List I)(k:ai→cM):cM :=
 match dst with
 |some d=>match A.o d with
  |none=>if (es.length+ys.length)*bytes≤140737488355328∧es.length+ys.length≤maxLen then
    .any (fun m=>es.length+ys.length+m≤maxLen) (fun m=>k ((A.aT d (.box (.agg (es++(ys++List.replicate m z))))).aS dst (.view d [] esz 0 (es.length+ys.length)))) else .fail
  |some _=>.fail
 |none=>.fail
open Classical in
noncomputable def eY(A:ai)(dst:Option Nat)(esz bytes:Nat)(z:I)(s:I):Option (List I)→Option (List I)→(ai→cM)→cM
 |some es,some ys,k=>if ys=[] then k (A.aS dst s) else match s with
  | .nils _=>fX A dst esz bytes z es ys k
  | .c0 _=>fX A dst esz bytes z es ys k
  | .view n p sz lo l=>match A.o n with
   |some (.box b)=>match b.at p with
    |some (.agg fs)=>if lo+l+ys.length≤fs.length then
      (if sz=esz∧I.cQ ys=I.cQ ((fs.drop (lo+l)).take ys.length) then k ((A.aT n (.box (iS b p (lo+l) fs ys))).aS dst (.view n p esz lo (l+ys.length))) else .fail)
      else fX A dst esz bytes z es ys k
    |_=>.fail
   |_=>.fail
  |_=>.fail
 |_,_,_=>.fail
open Classical in
noncomputable def uO(A:ai)(dst:Option Nat)(esz bytes:Nat)(z:I)(m:Nat)(s:I):Option (List I)→(ai→cM)→cM
 |some es,k=>match s with
  | .view n p _ lo l=>match A.o n with
   |some (.box b)=>match b.at p with
    |some (.agg fs)=>if 0<m∧fs.length<lo+l+m then fX A dst esz bytes z es (List.replicate m z) k else .fail
    |_=>.fail
   |_=>.fail
  |_=>.fail
 |_,_=>.fail
open Classical in
noncomputable def mI(A:ai)(esz:Nat)(z:I)(k:ai→cM):I→cM
 | .view n p sz lo l=>match A.o n with
  |some (.box b)=>match b.at p with
   |some (.agg fs)=>if sz=esz∧I.cQ (List.replicate l z)=I.cQ ((fs.drop lo).take l) then k (A.aT n (.box (iS b p lo fs (List.replicate l z)))) else .fail
   |_=>.fail
  |_=>.fail
 | .nils _=>k A
 | .c0 _=>k A
 |_=>.fail
open Classical in
noncomputable def sJ(A:ai)(dst:Option Nat)(esz:Nat)(k:ai→cM):I→Option (List I)→cM
 | .view n p sz lo l,some ys=>match A.o n with
  |some (.box b)=>match b.at p with
   |some (.agg fs)=>if sz=esz∧I.cQ (ys.take (min ys.length l))=I.cQ ((fs.drop lo).take (min ys.length l)) then k ((A.aT n (.box (iS b p lo fs (ys.take (min ys.length l))))).aS dst (.int .i64 (min ys.length l:Nat))) else .fail
   |_=>.fail
  |_=>.fail
 |_,_=>.fail
open Classical in
noncomputable def bl(A:ai)(dst:Option Nat)(op:bT)(rest:List aI)(k:ai→cM):cM :=
 match op with
 | .alloc z=>match dst with
  |some d=>match A.o d with
   |none=>k ((A.aT d (.box z)).put d (.ptr d []))
   |some _=>.fail
  |none=>.fail
 | .box x=>match dst with
  |some d=>match A.o d with
   |none=>if (ak A x).bS then k ((A.aT d (.box (ak A x))).put d (.ptr d [])) else .fail
   |some _=>.fail
  |none=>.fail
 | .bg s x v=>match dst with
  |none=>match ak A x with
   | .ptr n p=>match A.o n with
    |some (.box b)=>match b.at p with
     |some old=>if w5 s (ak A v) old then k (A.aT n (.box (b.ep p (ak A v)))) else .fail
     |none=>.fail
    |_=>.fail
   |_=>.fail
  |some _=>.fail
 | .dm e esz bytes z s x=>match ak A s with
  | .own n l=>match ak A x with
   | .slice sz ys=>match A.o n with
    |some (.bW T sz' es)=>if w0 e esz bytes l sz ys T sz' es then k ((A.aT n (.bW e esz (es++ys))).aS dst (.own n (es.length+ys.length))) else .fail
    |some (.dC T xs)=>if w4 e esz bytes l ys T xs z then k ((A.aT n (.dC e (xs++qH ys))).aS dst (.own n (xs.length+ys.length))) else .fail
    |_=>.fail
   |_=>.fail
  |s'=>eY A dst esz bytes z s' (eH A esz s') (eH A esz (ak A x)) k
 | .lI _ esz bytes z s n=>match ak A n with
  | .int _ m=>uO A dst esz bytes z m.toNat (ak A s) (eH A esz (ak A s)) k
  |_=>.fail
 | .nilS neg x=>if jL (ak A x) then .any (fun m=>m<2) (fun m=>k (A.aS dst (.bool (m==0)))) else cS (bn A (.nilS neg x)) fun v=>k (A.aS dst v)
 | .jw esz z x=>match dst with
  |none=>mI A esz z k (ak A x)
  |some _=>.fail
 | .kQ esz x y=>sJ A dst esz k (ak A x) (eH A esz (ak A y))
 | .call f args=>.call f (args.map (ak A)) (bY true A (args.map (ak A))) (bY false A (args.map (ak A))) dst rest A
 | .fA x args=>match ak A x with
  | .func f caps=>.call (kU f) (ib f (args.map (ak A)) caps) (bY true A (ib f (args.map (ak A)) caps)) (bY false A (ib f (args.map (ak A)) caps)) dst rest A
  | .raw v=>.kN v (args.map (ak A)) dst rest A
  |_=>.fail
 | .j7 f args=>.j7 f (args.map (ak A)) dst rest A
 | .iI=>match dst with
  |some d=>match A.o d with
   |none=>k ((A.aT d (.bt [] [])).put d (.mref d))
   |some _=>.fail
  |none=>.fail
 | .kp _ bytes z n=>match dst with
  |some d=>match A.o d with
   |none=>match ak A n with
    | .int _ n=>if 0≤n∧n.toNat*bytes≤281474976710656∧n.toNat≤maxLen then k ((A.aT d (.box (.agg (List.replicate n.toNat z)))).put d (.view d [] 1 0 n.toNat)) else .fail
    |_=>.fail
   |some _=>.fail
  |none=>.fail
 | .eS ty m key v=>match dst with
  |none=>match ak A m with
   | .mref n=>match A.o n with
    |some (.bt ks vs)=>match fq ty (ak A key) (ak A v) ks vs with
     |some (ks',vs')=>k (A.aT n (.bt ks' vs'))
     |none=>.fail
    |_=>.fail
   |_=>.fail
  |some _=>.fail
 | .iH ty m key=>match dst with
  |none=>match ak A m with
   | .mref n=>match A.o n with
    |some (.bt ks vs)=>match lW ty (ak A key) ks vs with
     |some (ks',vs')=>k (A.aT n (.bt ks' vs'))
     |none=>.fail
    |_=>.fail
   |_=>.fail
  |some _=>.fail
 | .jl x=>match dst with
  |some d=>match A.o d with
   |none=>match ak A x with
    | .df ks vs=>k ((A.aT d (.it ks vs (List.range ks.length) none)).put d (.dj d))
    |_=>.fail
   |some _=>.fail
  |none=>.fail
 | .gZ x=>match ak A x with
  | .dj n=>match A.o n with
   |some (.it ks vs left cur)=>if left=[] then k (A.aS dst (.tuple [.bool false])) else
     .any (fun i=>i∈left) fun i=>match ks[i]?,vs[i]? with
      |some kk,some x=>k ((A.aT n (.it ks vs (left.filter (· != i)) (some i))).aS dst (.tuple [.bool true,kk,x]))
      |_,_=>.fail
   |_=>.fail
  |_=>.fail
 |op=>cS (bn A op) fun v=>k (A.aS dst v)
noncomputable def aB:List aI→ai→cM
 | [],A=>.done A
 |g::rest,A=>match g.guard with
  |none=>bl A g.dst g.op rest (aB rest)
  |some (t,b)=>match A.t t with
   | .bool b'=>if b'=b then bl A g.dst g.op rest (aB rest) else aB rest (A.aS g.dst .undef)
   | .undef=>aB rest (A.aS g.dst .undef)
   |_=>.fail
def Hm(P:Program)(A:ai)(f:FuncId)(avs:List I)(r:I):Prop :=
 ∀ (c:cV) (a:Act) (w:World) (D:aP) (E:a8) (vs:List Value),c.P=P→aV c A a w D E→fy (bd w D E) avs vs→∃ v,(callFunc f vs.toArray).run P w=.ok (.value v) w∧bd w D E r v
inductive aQ (P:Program) (Y:Value→List I→List (Nat×aq)→cC→Prop) (dr:Bool) (K:ai→Prop):cM→Prop where
 |done {A:ai} : K A→aQ P Y dr K (.done A)
 |flat {f:FuncId} {avs cargs:List I} {a2:Option (List I)} {dst:Option Nat} {rest:List aI} {A:ai} (r:I):aZ P f cargs r→r.flat=true→aQ P Y dr K (aB rest (A.aS dst r))→aQ P Y dr K (.call f avs (some cargs) a2 dst rest A)
 |lead {f:FuncId} {avs cargs:List I} {a1:Option (List I)} {dst:Option Nat} {rest:List aI} {A:ai} (r:I):aZ P f cargs r→aQ P Y dr K (aB rest (A.aS dst r))→aQ P Y dr K (.call f avs a1 (some cargs) dst rest A)
 |jh {f:FuncId} {avs cargs:List I} {a1 a2:Option (List I)} {dst:Option Nat} {rest:List aI} {ts:List (Nat×I)} {os0:List (Nat×aq)} (ns:List Nat) (r:I):dr=false→aZ P f cargs r→bY true (au ts (kY ns os0)) avs=some cargs →
   cF (fun n => !ns.contains n) (ec ns os0)→aQ P Y dr K (aB rest ((au (kh ns ts) (ec ns os0)).aS dst r))→aQ P Y dr K (.call f avs a1 a2 dst rest (au ts os0))
 |bP {f:FuncId} {avs:List I} {a1 a2:Option (List I)} {dst:Option Nat} {rest:List aI} {ts:List (Nat×I)} {os0:List (Nat×aq)} (aL:Bool) (ρ:List (Nat×Nat)) (os:List (Nat×aq)) (cargs:List I) (post:cC):dr=false→cP P f cargs os post →
   gn ρ os os0→gO aL (au ts (ec (ig ρ os) os0)) ρ os avs cargs→(∀ r os',post r os'→fW aL ρ os os0 r os') →
   (∀ r os',post r os'→aQ P Y dr K (aB rest ((au ts (dn ρ os'++os0)).aS dst (r.bh (bH ρ)))))→aQ P Y dr K (.call f avs a1 a2 dst rest (au ts os0))
 |um {v:Value} {avs:List I} {dst:Option Nat} {rest:List aI} {ts:List (Nat×I)} {os0:List (Nat×aq)} (os:List (Nat×aq)) (cargs:List I) (post:cC):dr=false→Y v cargs os post →
   gn [] os os0→gO false (au ts (ec (ig [] os) os0)) [] os avs cargs→(∀ r os',post r os'→fW false [] os os0 r os') →
   (∀ r os',post r os'→aQ P Y dr K (aB rest ((au ts (dn [] os'++os0)).aS dst (r.bh (bH [])))))→aQ P Y dr K (.kN v avs dst rest (au ts os0))
 |ext {f:FuncId} {avs:List I} {dst:Option Nat} {rest:List aI} {A:ai} (r:I):dr=false→Hm P A f avs r→aQ P Y dr K (aB rest (A.aS dst r))→aQ P Y dr K (.j7 f avs dst rest A)
 |any {p:Nat→Prop} {k:Nat→cM} : dr=false→(∀ m,p m→aQ P Y dr K (k m))→aQ P Y dr K (.any p k)
def A5(n:Nat):Option Nat→Bool
 |some d=>decide (d<n)
 |none=>true
def lK(P:Program)(n:Nat)(aW:Array Oper)(o:Oper):Option aI :=
 match dc P o with
 |none=>none
 |some g=>if A5 n o.dst=true then
   match o.guard with
   |none=>some ⟨o.dst,g,none⟩
   |some (j,b)=>match (aW[j]?).bind (·.dst) with
    |some t=>some ⟨o.dst,g,some (t,b)⟩
    |none=>none
  else none
def fM(P:Program)(n:Nat)(aW:Array Oper):List Oper→Option (List aI)
 | []=>some []
 |o::l=>match lK P n aW o,fM P n aW l with
  |some g,some gs=>some (g::gs)
  |_,_=>none
end Go.Abs
namespace Go.Abs
open Go Go.RowKit
section
variable {c:cV} {A:ai} {o:Oper} {x:I}
theorem DE{g:bT}(hg:dc c.P o=some g)(h:bn A g=some x):dG c A o x:=by
 unfold dc at hg;split at hg
 -- move
 ·rename_i y ho;simp only[t7] at hg;obtain ⟨z,hz,rfl⟩:=hg;simp only[bn,v6] at h;subst h;exact B8 (.inl ho) hz
 ·rename_i y ho;simp only[t7] at hg;obtain ⟨z,hz,rfl⟩:=hg;simp only[bn,v6] at h;subst h;exact B8 (.inr ho) hz
 -- pick
 ·rename_i q y z ho;split at hg
  ·rename_i q' y' z' J U ah;simp only[v6] at hg;subst hg;simp only[bn] at h;split at h
   ·rename_i t ht;simp only[v6] at h;subst h;exact W4 ho J U ah ht
   ·cases h
  ·cases hg
 -- binOp
 ·rename_i op t y z yt ho;split at hg
  ·rename_i k y' z' hu J U;simp only[v6] at hg;subst hg;exact B6 ho J U h
  ·rename_i y' z' hu J U;simp only[v6] at hg;subst hg;exact B6 ho J U h
  ·rename_i e y' z' hu J U;split at hg
   ·rename_i s;split at hg
    ·rename_i hop;simp only[v6] at hg;subst hg;have ho':o.op=.binOp (if (op==.neq)=true then .neq else .eql) t y z yt:=by
      rcases hop with rfl | rfl <;>simpa using ho
     simp only[bn] at h;split at h
     ·rename_i s' hs';simp only[v6] at h;subst h;have:=we (r:=true) ho' hu J U (.inl ⟨s',hs',rfl⟩);rw[show (if (op==BinOp.neq)=true then !true else true) = !(op==BinOp.neq) from by cases (op==BinOp.neq) <;>rfl] at this;exact this
     ·rename_i s' es hs';split at h
      ·cases h
      ·rename_i hne;simp only[v6] at h;subst h;have:=we (r:=false) ho' hu J U (.inr (.inl ⟨s',es,hs',by simpa using hne,rfl⟩));rw[show (if (op==BinOp.neq)=true then !false else false)=(op==BinOp.neq) from by cases (op==BinOp.neq) <;>rfl] at this;exact this
     ·rename_i n p s' lo k hs';simp only[v6] at h;subst h;have:=we (r:=false) ho' hu J U (.inr (.inr ⟨n,p,s',lo,k,hs',rfl⟩));rw[show (if (op==BinOp.neq)=true then !false else false)=(op==BinOp.neq) from by cases (op==BinOp.neq) <;>rfl] at this;exact this
     ·cases h
    ·cases hg
   ·cases hg
  ·rename_i e y' z' hu J U;split at hg
   ·rename_i hop;simp only[v6] at hg;subst hg;have ho':o.op=.binOp (if (op==.neq)=true then .neq else .eql) t y z yt:=by
     rcases hop with rfl | rfl <;>simpa using ho
    simp only[bn] at h;cases hb1:iF (ak A y') with
    |none=>rw[hb1] at h;cases h
    |some b1=>cases hb2:iF (ak A z') with
     |none=>rw[hb1,hb2] at h;cases h
     |some b2 =>
      rw[hb1,hb2] at h;simp only[mV] at h;split at h
      ·rename_i hor;simp only[v6] at h;subst h;exact W5 ho' hu J U hb1 hb2 (by simpa using hor)
      ·cases h
   ·cases hg
  ·rename_i d y' z' _ _ _ _ hu J U;split at hg
   ·rename_i hop;simp only[t7] at hg;obtain ⟨ty,hty,rfl⟩:=hg;have ho':o.op=.binOp (if (op==.neq)=true then .neq else .eql) t y z yt:=by
     rcases hop.1 with rfl | rfl <;>simpa using ho
    simp only[bn,t7] at h;obtain ⟨r,hr,rfl⟩:=h;exact WJ ho' J U hop.2 hty hr
   ·cases hg
  ·cases hg
 -- unOp
 ·rename_i op t y ho;simp only[t7] at hg;obtain ⟨z,hz,rfl⟩:=hg;simp only[bn] at h;split at h
  ·rename_i b hb;simp only[v6] at h;subst h;exact W3 ho hz hb
  ·rename_i k n hb;simp only[v6] at h;subst h;exact W2 ho hz hb
  ·rename_i k n hb;simp only[v6] at h;subst h;exact WH ho hz hb
  ·cases h
 -- nilCheck
 ·rename_i y ho;simp only[t7] at hg;obtain ⟨z,hz,rfl⟩:=hg;simp only[bn] at h;cases hy:ak A z <;>rw[hy] at h <;>simp only[lX,v6] at h <;>try (cases h;done)
  ·subst h;rw[←hy];exact B9 ho hz (.inr ⟨_,hy⟩)
  ·subst h;rw[←hy];exact B9 ho hz (.inl ⟨_,_,hy⟩)
 -- makeMap
 ·simp only[v6] at hg;subst hg;simp[bn] at h
 -- lookup
 ·rename_i t m k ok ho;split at hg
  ·rename_i kt et m' k' hu J U;split at hg
   ·rename_i ty z hk hz;split at hg
    ·rename_i hp;simp only[v6] at hg;subst hg;simp only[bn] at h;cases hm:gb A (ak A m') with
     |none=>rw[hm] at h;cases h
     |some q =>
      obtain ⟨ks,vs⟩:=q;rw[hm] at h;simp only[qU] at h;cases ao:fi ty z (ak A k') ks vs with
      |none=>rw[ao] at h;cases h
      |some q =>
       obtain ⟨v,b⟩:=q;rw[ao] at h;simp only[qV,v6] at h;subst h;exact WW ho hu hk hz hp J U hm ao
    ·cases hg
   ·cases hg
  ·cases hg
 -- mapUpdate,insert
 iterate 2
  ·split at hg
   ·split at hg
    ·simp only[v6] at hg;subst hg;simp[bn] at h
    ·cases hg
   ·cases hg
 -- makeSlice
 ·split at hg
  ·split at hg
   ·split at hg
    ·simp only[v6] at hg;subst hg;simp[bn] at h
    ·cases hg
   ·cases hg
  ·cases hg
 -- range
 ·split at hg
  ·simp only[t7] at hg;obtain ⟨z,_,rfl⟩:=hg;simp[bn] at h
  ·cases hg
 -- next
 ·simp only[t7] at hg;obtain ⟨z,_,rfl⟩:=hg;simp[bn] at h
 -- entry
 ·rename_i y ho;simp only[t7] at hg;obtain ⟨z,hz,rfl⟩:=hg;simp only[bn] at h;split at h
  ·rename_i n hn;split at h
   ·rename_i ks vs left cur hob;cases cur with
    |none=>cases h
    |some i =>
     simp only[kT] at h;split at h
     ·rename_i kk xx hk hx;simp only[v6] at h;subst h;exact WI ho hz hn hob hk hx
     ·cases h
   ·cases h
  ·cases h
 -- convert
 ·rename_i ng dst y ho;split at hg
  ·rename_i k0 k y' J U ah;simp only[v6] at hg;subst hg;simp only[bn] at h;split at h
   ·rename_i k1 n hn;simp only[v6] at h;subst h;exact WG ho J U ah hn
   ·cases h
  ·cases hg
 -- load
 ·rename_i t y ho;split at hg
  ·rename_i s y' J U;simp only[v6] at hg;subst hg;simp only[bn] at h;split at h
   ·rename_i v hv;split at h
    ·rename_i hok;simp only[v6] at h;subst h;exact WV ho J U hv hok
    ·cases h
   ·cases h
  ·cases hg
 -- fieldAddr
 ·rename_i t y f ho;split at hg
  ·rename_i fs y' hu J;split at hg
   ·rename_i fd hf;split at hg
    ·cases hg
    ·rename_i hz;simp only[v6] at hg;subst hg;simp only[bn] at h;split at h
     ·rename_i gs hgs;split at h
      ·rename_i v hv;split at h
       ·rename_i hoff;simp only[v6] at h;subst h;exact WM ho hu hf hz J hgs hv hoff
       ·cases h
      ·cases h
     ·rename_i n p hp;split at h
      ·rename_i gs hgs;split at h
       ·rename_i hoff;simp only[v6] at h;subst h;exact WL ho hu hf hz J hp hgs hoff.1 hoff.2
       ·cases h
      ·cases h
     ·cases h
   ·cases hg
  ·cases hg
 -- field
 ·rename_i t y f ho;split at hg
  ·rename_i fs y' hu J;split at hg
   ·rename_i fd hf;simp only[t7] at hg;obtain ⟨s,ab,rfl⟩:=hg;simp only[bn] at h;split at h
    ·rename_i gs hgs;split at h
     ·rename_i v hv;split at h
      ·rename_i hoff;simp only[v6] at h;subst h;exact WN ho hu hf ab J hgs hv hoff.1 hoff.2
      ·cases h
     ·cases h
    ·cases h
   ·cases hg
  ·cases hg
 -- indexAddr
 ·rename_i t y i ho;split at hg
  ·rename_i n e y' i' hu J U;split at hg
   ·rename_i hinfo;obtain ⟨ti,hti⟩:=zy8.1 hinfo;simp only[v6] at hg;subst hg;simp only[bn] at h;split at h
    ·rename_i kk k hk;split at h
     ·rename_i hb;split at h
      ·rename_i gs hgs;split at h
       ·rename_i hev;simp only[t7] at h;obtain ⟨v,hv,rfl⟩:=h;exact WQ ho hu hti J U hgs hk hb hev hv
       ·cases h
      ·rename_i m p hp;split at h
       ·rename_i gs hgs;split at h
        ·rename_i hev;simp only[v6] at h;subst h;exact WO ho hu hti J U hp hk hb hgs hev
        ·cases h
       ·cases h
      ·cases h
     ·cases h
    ·cases h
   ·cases hg
  ·rename_i e y' i' hu J U;split at hg
   ·rename_i hinfo;obtain ⟨ti,hti⟩:=zy8.1 hinfo;simp only[v6] at hg;subst hg;simp only[bn] at h;split at h
    ·rename_i kk k hk;split at h
     ·rename_i sz es hes;split at h
      ·rename_i hb;obtain ⟨rfl,hb⟩:=hb;simp only[t7] at h;obtain ⟨v,hv,rfl⟩:=h;exact WR ho hu hti J U hes hk hb hv
      ·cases h
     ·rename_i m l hm;split at h
      ·rename_i T sz es hes;split at h
       ·rename_i hb;obtain ⟨rfl,rfl,hb⟩:=hb;simp only[t7] at h;obtain ⟨v,hv,rfl⟩:=h;exact WS ho hu hti J U hm hes hk hb hv
       ·cases h
      ·cases h
     ·rename_i m p sz lo l hm;split at h
      ·rename_i fs hfs;split at h
       ·rename_i hb;simp only[v6] at h;subst h;exact WT ho hu hti J U hb.1 hm hfs hk hb.2
       ·cases h
      ·cases h
     ·cases h
    ·cases h
   ·cases hg
  ·cases hg
 -- index
 ·rename_i t y i ho;split at hg
  ·rename_i n e y' i' hu J U;simp only[t7] at hg;obtain ⟨s,ab,rfl⟩:=hg;simp only[bn] at h;split at h
   ·rename_i kk k hk;split at h
    ·rename_i hb;split at h
     ·rename_i gs hgs;split at h
      ·rename_i hev;split at h
       ·rename_i v hv;split at h
        ·rename_i hok;simp only[v6] at h;subst h;exact WU ho hu ab J U hgs hk hb hev hv hok
        ·cases h
       ·cases h
      ·cases h
     ·cases h
    ·cases h
   ·cases h
  ·cases hg
 -- slice
 ·rename_i t y lo hi mx ho;split at hg
  ·rename_i n e y' hu J;split at hg
   ·split at hg
    ·rename_i hinfo;obtain ⟨ti,hti⟩:=zy8.1 hinfo;simp only[v6] at hg;subst hg;simp only[bn] at h;split at h
     ·rename_i m p hp;split at h
      ·rename_i gs hgs;split at h
       ·rename_i hev;simp only[v6] at h;subst h;exact W7 ho hu hti J hp hgs hev.1 hev.2.1 hev.2.2
       ·cases h
      ·cases h
     ·rename_i gs hgs;split at h
      ·rename_i hev;simp only[v6] at h;subst h;exact W8 ho hu hti J hgs hev.1 hev.2.1
      ·cases h
     ·cases h
    ·cases hg
   ·cases hg
  ·rename_i e y' hu J;split at hg
   ·rename_i lo' hi' mx' q1 q2 q3;split at hg
    ·rename_i hc;obtain ⟨ti,hti⟩:=zy8.1 hc.2;simp only[v6] at hg;subst hg;simp only[bn] at h;split at h
     ·rename_i sz es hes;split at h
      ·rename_i hsz;subst hsz;exact wg ho hu hti J q1 q2 q3 hc.1 (.inl hes) h
      ·cases h
     ·rename_i sz hes;split at h
      ·rename_i hsz;subst hsz;exact wg ho hu hti J q1 q2 q3 hc.1 (.inr (.inl ⟨hes,rfl⟩)) h
      ·cases h
     ·rename_i sz hes;split at h
      ·rename_i hsz;subst hsz;exact wg ho hu hti J q1 q2 q3 hc.1 (.inr (.inr ⟨hes,rfl⟩)) h
      ·cases h
     ·rename_i n p sz l0 k hv;split at h
      ·rename_i fs hfs;split at h
       ·rename_i hsz;exact W6 ho hu hti J q1 q2 q3 hc.1 hsz hv hfs h
       ·cases h
      ·cases h
     ·cases h
    ·cases hg
   ·cases hg
  ·cases hg
 -- build
 ·rename_i t parts ho;split at hg
  ·rename_i zs ps hz hp;split at hg
   ·rename_i fs hu;split at hg
    ·rename_i hc;simp only[v6] at hg;subst hg;simp only[bn,t7] at h;obtain ⟨zs',h,rfl⟩:=h;exact B7 ho hz hp (.inl ⟨fs,hu,hc.1,hc.2⟩) h
    ·cases hg
   ·rename_i n e hu;split at hg
    ·rename_i hc;simp only[v6] at hg;subst hg;simp only[bn,t7] at h;obtain ⟨zs',h,rfl⟩:=h;exact B7 ho hz hp (.inr ⟨n,e,hu,hc.1,hc.2.1,hc.2.2⟩) h
    ·cases hg
   ·cases hg
  ·cases hg
 -- buildSlice
 ·rename_i t len parts ho;split at hg
  ·rename_i e hu;split at hg
   ·rename_i ps hp;split at hg
    ·rename_i aY;obtain ⟨rfl,rfl,aY⟩:=aY;obtain ⟨ti,hti⟩:=zy8.1 aY;simp only[v6] at hg;subst hg;simp only[bn,v6] at h;subst h;exact WE ho hu hti
    split at hg
    ·rename_i hc;obtain ⟨c1,c2,c3,mF,oQ⟩:=hc;simp only[v6] at hg;subst hg;simp only[bn] at h;split at h
     ·rename_i es hes;split at h
      ·rename_i hev;simp only[v6] at h;subst h;refine WD ho hu hp c1 c2 c3 mF oQ hes (fun y hy =>?_) hev.2;have:=zx0.1 hev.1 y hy;simpa using this
      ·cases h
     ·cases h
    ·cases hg
   ·cases hg
  ·cases hg
 -- extract
 ·rename_i y i ho;simp only[t7] at hg;obtain ⟨z,hz,rfl⟩:=hg;simp only[bn] at h;split at h
  ·rename_i fs hfs;exact WK ho hz hfs h
  ·cases h
 -- makeFunc
 ·rename_i f first caps ho
  split at hg
  case isFalse=>cases hg
  rename_i hlt;split at hg
  ·rename_i hfirst;simp only[t7] at hg;obtain ⟨ys,hys,rfl⟩:=hg;simp only[bn] at h;split at h
   ·rename_i hv;simp only[v6] at h;subst h;have hf:first = #[]:=by simpa using hfirst
    rw[hf] at ho;refine WX hlt ho hys (fun y hy =>?_);have:=zx0.1 hv (ak A y) (zx1.2 ⟨y,hy,rfl⟩);exact this
   ·cases h
  ·split at hg
   case isFalse=>cases hg
   rename_i hcaps;simp only[t7] at hg;obtain ⟨ys,hys,rfl⟩:=hg;simp only[bn] at h;split at h
   ·rename_i hv;simp only[v6] at h;subst h;have hf:caps = #[]:=by simpa using hcaps
    rw[hf] at ho;refine WY ho hys (fun y hy =>?_);have:=zx0.1 hv (ak A y) (zx1.2 ⟨y,hy,rfl⟩);exact this
   ·cases h
 -- alloc
 ·simp only[t7] at hg;obtain ⟨z,_,rfl⟩:=hg;simp[bn] at h
 -- box
 ·simp only[t7] at hg;obtain ⟨z,_,rfl⟩:=hg;simp[bn] at h
 -- store
 ·split at hg
  ·split at hg
   ·simp only[v6] at hg;subst hg;simp[bn] at h
   ·cases hg
  ·cases hg
 -- call
 ·split at hg
  ·simp only[t7] at hg;obtain ⟨z,_,rfl⟩:=hg;simp[bn] at h
  ·simp only[t7] at hg;obtain ⟨z,_,rfl⟩:=hg;simp[bn] at h
 ·split at hg
  ·simp only[v6] at hg;subst hg;simp[bn] at h
  ·cases hg
 -- len
 ·rename_i args tys ho;split at hg
  ·rename_i y ty hargs htys;have ho':o.op=.call { callee:=.builtin .len,args := #[y],argTypes := #[ty] } :=by
    rw[ho];have e1:args = #[y]:=by apply Array.ext';simpa using hargs
    have e2:tys = #[ty]:=by apply Array.ext';simpa using htys
    rw[e1,e2]
   split at hg
   ·rename_i e hu;simp only[t7] at hg;obtain ⟨y',hy,rfl⟩:=hg;simp only[bn] at h;split at h
    ·rename_i sz es hes;simp only[v6] at h;subst h;refine pc ho' hu (.inl ⟨e,rfl⟩) hy (fun a w D E ab v hv =>?_);rw[hes] at hv;obtain ⟨ad,cap,e1,e2,e3,_⟩:=na hv;exact ⟨zw9 e2 e3,fun _=>⟨ad,cap,e1⟩,fun e=>by cases e⟩
    ·rename_i sz hes;simp only[v6] at h;subst h;refine pc (n:=0) ho' hu (.inl ⟨e,rfl⟩) hy (fun a w D E ab v hv =>?_);rw[hes] at hv;obtain ⟨cs,q1,q2⟩:=hv;simp only[al] at q2;exact ⟨by simp[maxLen],fun _=>⟨none,0,by simpa[bE,I.isAgg,q2] using q1.symm⟩,fun e=>by cases e⟩
    ·rename_i sz hes;simp only[v6] at h;subst h;refine pc (n:=0) ho' hu (.inl ⟨e,rfl⟩) hy (fun a w D E ab v hv =>?_);rw[hes] at hv;obtain ⟨cs,q1,q2⟩:=hv;simp only[al] at q2;obtain ⟨ad,q2⟩:=q2;exact ⟨by simp[maxLen],fun _=>⟨ad,0,by simpa[bE,I.isAgg,q2] using q1.symm⟩,fun e=>by cases e⟩
    ·rename_i m l hm;split at h
     ·rename_i T sz es hes;split at h
      ·rename_i ao;subst ao;simp only[v6] at h;subst h;refine pc ho' hu (.inl ⟨e,rfl⟩) hy (fun a w D E ab v hv =>?_);rw[hm] at hv;rcases ab.own hes hv with ⟨rfl,_,rfl⟩ | ⟨b,cap,cs,pre,rest,_,rfl,_,_,_,_,_,k8,k9,_⟩
       ·exact ⟨by simp[maxLen],fun _=>⟨none,0,rfl⟩,fun e=>by cases e⟩
       ·exact ⟨zw9 k8 k9,fun _=>⟨_,_,rfl⟩,fun e=>by cases e⟩
      ·cases h
     ·cases h
    ·rename_i n p sz lo k hm;simp only[v6] at h;subst h;refine pc ho' hu (.inl ⟨e,rfl⟩) hy (fun a w D E ab v hv =>?_);rw[hm] at hv;obtain ⟨cs,q1,q2⟩:=hv;simp only[al] at q2;obtain ⟨b,aX,off,l,_,_,_,q2,q3,q4,_⟩:=q2;exact ⟨by omega,fun _=>⟨_,_,by simpa[bE,I.isAgg,q2] using q1.symm⟩,fun e=>by cases e⟩
    ·cases h
   ·rename_i hu;simp only[t7] at hg;obtain ⟨y',hy,rfl⟩:=hg;simp only[bn] at h;split at h
    ·rename_i s hs';simp only[v6] at h;subst h;refine pc ho' hu (.inr rfl) hy (fun a w D E ab v hv =>?_);rw[hs'] at hv;obtain ⟨e1,e2⟩:=nc hv;exact ⟨e2,(fun e=>by obtain ⟨_,e⟩:=e;cases e),fun _=>⟨s,e1,rfl⟩⟩
    ·cases h
   ·cases hg
  ·cases hg
 -- append
 ·split at hg
  ·split at hg
   ·split at hg
    ·simp only[t7] at hg;obtain ⟨z,_,rfl⟩:=hg;simp[bn] at h
    ·split at hg
     ·simp only[t7] at hg;obtain ⟨z,_,rfl⟩:=hg;simp[bn] at h
     ·cases hg
   ·cases hg
  ·cases hg
 -- cap
 ·rename_i args tys ho;split at hg
  ·rename_i y ty hargs htys;have ho':o.op=.call { callee:=.builtin .cap,args := #[y],argTypes := #[ty] } :=by
    rw[ho];have e1:args = #[y]:=by apply Array.ext';simpa using hargs
    have e2:tys = #[ty]:=by apply Array.ext';simpa using htys
    rw[e1,e2]
   split at hg
   ·rename_i e hu;simp only[t7] at hg;obtain ⟨y',hy,rfl⟩:=hg;simp only[bn] at h;split at h
    ·rename_i sz hes;simp only[v6] at h;subst h;refine wc ho' hu hy (fun a w D E ab v hv =>?_);rw[hes] at hv;obtain ⟨cs,q1,q2⟩:=hv;simp only[al] at q2;exact ⟨by simp[maxLen],_,_,by simpa[bE,I.isAgg,q2] using q1.symm⟩
    ·rename_i sz hes;simp only[v6] at h;subst h;refine wc ho' hu hy (fun a w D E ab v hv =>?_);rw[hes] at hv;obtain ⟨cs,q1,q2⟩:=hv;simp only[al] at q2;obtain ⟨ad,q2⟩:=q2;exact ⟨by simp[maxLen],_,_,by simpa[bE,I.isAgg,q2] using q1.symm⟩
    ·rename_i n p sz lo k hm;split at h
     ·rename_i fs hfs;simp only[v6] at h;subst h;refine wc ho' hu hy (fun a w D E ab v hv =>?_);rw[hm] at hv;obtain ⟨_,b,cs,T,off,c1,c2,c3,_,_,_,_,_,_,_,_,_,_,_,q1,q2⟩:=ab.view hv hfs;exact ⟨by omega,_,_,q2⟩
     ·cases h
    ·cases h
   ·cases hg
  ·cases hg
 -- clear
 ·split at hg
  ·split at hg
   ·simp only[t7] at hg;obtain ⟨z,_,rfl⟩:=hg;simp[bn] at h
   ·cases hg
  ·cases hg
 -- copy
 ·split at hg
  ·split at hg
   ·split at hg
    ·simp only[v6] at hg;subst hg;simp[bn] at h
    ·cases hg
   ·cases hg
  ·cases hg
 -- delete
 ·split at hg
  ·split at hg
   ·simp only[t7] at hg;obtain ⟨z,_,rfl⟩:=hg;simp[bn] at h
   ·cases hg
  ·cases hg
 -- max
 ·rename_i args _ ho;split at hg
  ·rename_i x y hargs;split at hg
   ·rename_i x' y' J U;simp only[v6] at hg;subst hg;simp only[bn] at h;have e1:args = #[x,y]:=by apply Array.ext';simpa using hargs
    rw[e1] at ho;exact WZ ho J U h
   ·cases hg
  ·cases hg
 ·cases hg
theorem fy.append{α β:Type}{R:α→β→Prop} : ∀ {xs:List α} {ys:List β} {xs':List α} {ys':List β},fy R xs ys→fy R xs' ys'→fy R (xs++xs') (ys++ys')
 |_,_,_,_,.nil,h=>h
 |_,_,_,_,.cons J U,h=>.cons J (U.append h)
theorem rM{w:World}{D:aP}{E:a8} : ∀ {xs:List I} {vs:List Value},aJ w D E xs vs→fy (bd w D E) xs vs
 | [],vs,h=>by simp only[aJ] at h;subst h;exact .nil
 |x::xs,vs,h=>by
  simp only[aJ] at h;obtain ⟨v,rest,cs,rfl,J,U,ah⟩:=h;exact .cons (jC J U) (rM ah)
theorem JB {P : Program} {f : FuncId} (h : eZ P f = true) : ∃ fn, P.funcs[f]? = some fn ∧ ¬ fn.name = "runtime.NumGoroutine" ∧ ¬ fn.body = none := by
 unfold eZ at h;rw[t8] at h
 replace h:=h.2
 cases hf:P.funcs[f]? with
 |none=>simp[hf] at h
 |some fn =>
  simp only[hf,Option.any_some,t8,bne_iff_ne,ne_eq] at h;refine ⟨fn,rfl,by simpa using h.1,?_⟩;cases hb:fn.body <;>simp_all
theorem Az{P:Program}{f:FuncId}(h:eZ P f=true):f<1000000:=by
 unfold eZ at h;rw[t8] at h;simpa[Nat.blt_eq] using h.1
theorem mZ{P:Program}{w:World}{f:FuncId}{args:Array Value}(h:eZ P f=true):(callFunc f args).run P w=.ok (.enter f args) w:=by
 obtain ⟨fn,J,U,ah⟩:=JB h;simp[callFunc,J,U,ah]
theorem aV.ic{A:ai}{a:Act}{w:World}{D:aP}{E:a8}(h:aV c A a w D E){n:Nat}{e:bN}{b:Nat}(he:E n=some e)(hb:e.aK=some b):c.eX b:=by
 have:=h.bP n;unfold cY at this;split at this
 ·simp[this] at he
 ·obtain ⟨b',cs,T,J,U,_⟩:=this;rw[J,v6] at he;subst he;simp only[bN.aK,v6] at hb;exact hb▸U
 ·obtain ⟨aK,J,U,ah⟩:=this;rw[J,v6] at he;subst he;split at ah
  ·cases hb
  ·obtain ⟨cs,pre,rest,ar,_⟩:=ah;simp only[bN.aK,v6] at hb;exact hb▸ar
 ·obtain ⟨b',J,U,_⟩:=this;rw[J,v6] at he;subst he;simp only[bN.aK,v6] at hb;exact hb▸U
 ·obtain ⟨b',es,ck,J,U,_⟩:=this;rw[J,v6] at he;subst he;simp only[bN.aK,v6] at hb;exact hb▸U
 ·obtain ⟨b',bb,es,ck,si,se,la,J,U,_⟩:=this;rw[J,v6] at he;subst he;simp only[bN.aK,v6] at hb;exact hb▸U
 ·obtain ⟨aK,J,U,ah⟩:=this;rw[J,v6] at he;subst he;split at ah
  ·cases hb
  ·obtain ⟨cs,m,ar,_⟩:=ah;simp only[bN.aK,v6] at hb;exact hb▸ar
theorem aV.qT{A:ai}{a:Act}{w:World}{D:aP}{E:a8}(h:aV c A a w D E):gM c.P w (cI E) :=
 h.eU.1.Xp h.dM (fun _ hb=>hb) fun _ ⟨_,_,J,U⟩=>h.ic J U
theorem aV.wy{A:ai}{a:Act}{w:World}{D:aP}{E:a8}(h:aV c A a w D E):gM c.P w (fun _=>False):=h.qT.nQ fun _ h=>h.elim
theorem aV.pt{A:ai}{a:Act}{w:World}{D:aP}{E:a8}(h:aV c A a w D E){ρ:List (Nat×Nat)}{os:List (Nat×aq)} : gM c.P w (cI (aA ρ os E)):=h.qT.nQ fun b ⟨n,e,J,U⟩=>by
 simp only[aA] at J;split at J
 ·exact ⟨_,e,J,U⟩
 ·cases J
theorem aZ.aaz{f:FuncId}{avs cargs:List I}{r:I}{vs:List Value}{a:Act}{w:World}{D:aP}{E:a8}(ab:aV c A a w D E)(h:aZ c.P f cargs r)(hf:r.flat=true)(hc:bY true A avs=some cargs)(hv:fy (bd w D E) avs vs) :
  Calls c.P f vs.toArray w fun e w'=>∃ v D',e=.returned v∧aV c A a w' D' E∧bd w' D' E r v:=by
 have hw:h3 true A D E (fun b _=>b<w.heap.size):=by
  refine ⟨fun b o af=>ab.aR b o af,fun n T sz es b cap hn aA o _=>ab.fY aA rfl,fun _ n x b aX hn aA o _=>ab.fY aA rfl,fun _ n ks vs b hn aA=>ab.fY aA rfl⟩
 have hrv:=lN (E':=di) ab (fun _ _ h=>h) hw avs cargs vs (lu _ _ hv (qw hc)) hc;refine (h.2 w _ vs ab.wy (fun _ _ af=>af) hrv).mono fun e w' ⟨v,D',he,J,U,ah,ar⟩=>⟨v,D,he,?_,bd.flat hf J⟩
 exact ab.grow U (fun _ _ af=>af) (fun _ _ af _=>af) (fun b o af=>Nat.lt_of_lt_of_le (ab.aR b o af) U.size)
theorem aZ.aaB{f:FuncId}{avs cargs:List I}{r:I}{vs:List Value}{a:Act}{w:World}{D:aP}{E:a8}(ab:aV c A a w D E)(h:aZ c.P f cargs r)(hc:bY false A avs=some cargs)(hv:fy (bd w D E) avs vs) :
  Calls c.P f vs.toArray w fun e w'=>∃ v D',e=.returned v∧aV c A a w' D' E∧bd w' D' E r v:=by
 obtain ⟨hs1,hw⟩:=ab.ov;have hrv:=lN (E':=di) ab (fun _ _ h=>h) hw avs cargs vs (lu _ _ hv (qw hc)) hc;refine (h.2 w _ vs ab.wy hs1.aR hrv).mono fun e w' ⟨v,D',he,J,U,ah,ar⟩=>⟨v,fun b o=>ot A D E b o∨(w.heap.size≤b∧D' b o),he,?_,?_⟩
 ·refine hs1.grow U (fun _ _ af=>.inl af) ?_ ?_
  ·rintro b o (af | ⟨hle,_⟩) hlt
   ·exact af
   ·omega
  ·rintro b o (af | ⟨_,af⟩)
   ·exact Nat.lt_of_lt_of_le (hs1.aR b o af) U.size
   ·exact ah b o af
 ·refine bd.later (E:=di) ⟨fun b o af =>?_,fun _ _ _ _ h=>h,fun n b aX hn=>by simp[di] at hn,fun n aK l hn=>by simp[di] at hn,fun n b hn=>by simp[di] at hn,fun n b hn=>by simp[di] at hn,fun _ _ _ _ h=>h⟩ J;rcases Nat.lt_or_ge b w.heap.size with hlt | hge
  ·exact .inl (ar b o af hlt)
  ·exact .inr ⟨hge,af⟩
theorem CF(p:Nat→Bool)(os:List (Nat×aq))(n:Nat):aj (os.filter fun q=>p q.1) n=if p n then aj os n else none:=by
 induction os with
 |nil=>simp[aj]
 |cons q os ih =>
  obtain ⟨k,v⟩:=q;simp only[zw0];by_cases hk:p k=true
  ·simp only[hk,if_true,aj,ih];by_cases hn:n=k
   ·subst hn;simp only[hk,if_true]
   ·simp only[if_neg hn]
  ·simp only[hk,zz2,if_false,ih,aj];by_cases hn:n=k
   ·subst hn;simp[hk]
   ·simp only[if_neg hn]
theorem nR(ns:List Nat)(os:List (Nat×aq))(n:Nat):aj (ec ns os) n=if ns.contains n then none else aj os n:=by
 rw[ec,CF (fun n => !ns.contains n)];cases ns.contains n <;>rfl
theorem py(ns:List Nat)(os:List (Nat×aq))(n:Nat):aj (kY ns os) n=if ns.contains n then aj os n else none:=CF _ _ _
theorem w8{p:Nat→Bool} : ∀ {os:List (Nat×aq)},cF p os→∀ k x,aj os k=some x→x.only p=true
 | [],_,k,x,hx=>by simp[aj] at hx
 |(j,v)::r,h,k,x,hx=>by
  simp only[cF] at h;simp only[aj] at hx;split at hx
  ·simp only[v6] at hx;subst hx;exact h.1
  ·exact w8 h.2 k x hx
theorem CI(ns:List Nat):∀ (ts:List (Nat×I)) (t:Nat),bZ (kh ns ts) t=if (bZ ts t).only (fun n => !ns.contains n) then bZ ts t else .du
 | [],t=>by simp[kh,bZ,I.only]
 |(k,v)::r,t=>by
  simp only[kh,zz3,bZ];by_cases h:t=k
  ·simp only[if_pos h]
  ·simp only[if_neg h];exact CI ns r t
theorem aV.BA{a:Act}{w:World}{D:aP}{E:a8}{ts:List (Nat×I)}{os0:List (Nat×aq)}(h:aV c (au ts os0) a w D E)(ns:List Nat)(ho:cF (fun n => !ns.contains n) (ec ns os0)) :
  ∃ D' E',aV c (au (kh ns ts) (ec ns os0)) a w D' E'∧h3 true (au ts (kY ns os0)) D E D':=by
 have J:=h.ov.1;have hw1:=h.ov.2;obtain ⟨D1,hD1⟩:∃ D1,D1=ot (au ts os0) D E:=⟨_,rfl⟩
 rw[←hD1] at J hw1;obtain ⟨D2,hD2⟩:∃ D2:aP,D2=fun b o=>D1 b o∨(∃ n x aX,ns.contains n=true∧aj os0 n=some (.box x)∧E n=some (.aL b aX)∧o<x.size)∨∃ n ks vs,ns.contains n=true∧aj os0 n=some (.bt ks vs)∧E n=some (.bt b)∧o=0:=⟨_,rfl⟩
 obtain ⟨E2,hE2⟩:∃ E2:a8,E2=fun n=>if ns.contains n then none else E n:=⟨_,rfl⟩
 have e2:∀ n,(!ns.contains n)=true→E2 n=E n:=fun n hn=>by rw[hE2];simp at hn;simp[hn]
 have ao:dT w D1 E2 w D2 E2:=⟨fun b o af=>by rw[hD2];exact .inl af,fun _ _ _ _ h=>h,fun _ _ _ h=>h,fun _ aK l h=>⟨aK,l,h,zz4 _,fun _=>rfl⟩,fun _ _ h=>h,fun _ _ h=>h,fun _ _ _ _ h=>h⟩
 have pB:∀ b o,D2 b o→D1 b o∨∃ n e q,ns.contains n=true∧E n=some e∧e.aK=some b∧c.eX b∧w.heap[b]?=some q:=fun b o af=>by
  rw[hD2] at af;rcases af with af | ⟨n,x,aX,k1,k2,k3,k4⟩ | ⟨n,ks,vs,k1,k2,k3,_⟩
  ·exact .inl af
  ·obtain ⟨b',cs,T,q1,q2,q3,_⟩:=h.box (n:=n) (x:=x) (by simpa[au] using k2);rw[k3] at q1;simp only[v6,bN.aL.injEq] at q1;obtain ⟨rfl,rfl⟩:=q1;exact .inr ⟨n,_,_,k1,k3,rfl,q2,q3⟩
  ·obtain ⟨b',es,ck,q1,q2,q3,_⟩:=h.map (n:=n) (ks:=ks) (vs:=vs) (by simpa[au] using k2);rw[k3] at q1;cases q1;exact .inr ⟨n,_,_,k1,k3,rfl,q2,q3⟩
 refine ⟨D2,E2,⟨J.sz,J.eB,fun t =>?_,J.dM,fun b o af hm =>?_,fun b o af =>?_,fun n =>?_,fun n m e e' b g1 g2 g3 g4 =>?_,fun n e hn =>?_,J.eN,fun b o af=>ao.c4 b o (J.cU b o af),J.eU,J.fw⟩,?_⟩
 ·simp only[au,CI];have ht:=J.dP t;simp only[au] at ht;split
  ·rename_i hp;exact bd.later ao (bd.c9 e2 hp ht)
  ·simp[bd]
 ·rcases pB b o af with af | ⟨n,e,q,_,_,_,k,_⟩
  ·exact J.c4 b o af hm
  ·exact absurd k hm
 ·rcases pB b o af with af | ⟨n,e,q,_,_,_,_,k⟩
  ·exact J.aR b o af
  ·exact fD k
 ·simp only[au,nR];by_cases hn:ns.contains n=true
  ·simp only[hn,if_true,cY];rw[hE2];simp only[hn,if_true]
  ·have hnb:(!ns.contains n)=true:=by simpa using hn
   simp only[hn,zz2,if_false];have hob:=J.bP n;simp only[au] at hob;cases hx:aj os0 n with
   |none=>rw[hx] at hob;simp only[cY] at hob ⊢;rw[e2 n hnb];exact hob
   |some x =>
    have hon:=w8 ho n x (by rw[nR,if_neg hn];exact hx);have nD:∀ e b,E n=some e→e.aK=some b→∀ o,D2 b o→D1 b o:=fun e b he hb o af=>by
     rcases pB b o af with af | ⟨m,e',q,k1,k3,k2,_⟩
     ·exact af
     ·have:=h.cO n m e _ b he k3 hb k2;subst this;exact absurd k1 hn
    rw[hx] at hob;cases x with
    |box x =>
     obtain ⟨b,cs,T,k1,k2,k3,k4,k5⟩:=hob;exact ⟨b,cs,T,(e2 n hnb).trans k1,k2,k3,al.later ao _ _ (al.c9 e2 _ _ (by simpa[aq.only] using hon) k4),fun o af=>k5 o (nD _ b k1 rfl o af)⟩
    |bW T sz es =>
     obtain ⟨aK,k1,k2,k3⟩:=hob;refine ⟨aK,(e2 n hnb).trans k1,k2,?_⟩;cases aK with
     |none=>exact k3
     |some bc =>
      obtain ⟨b,cap⟩:=bc;obtain ⟨cs,pre,rest,q1,q2,q3,q4,q5,q6,q7,q8⟩:=k3;exact ⟨cs,pre,rest,q1,q2,q3,aN.later ao _ _ (aN.c9 e2 _ _ (by simpa[aq.only] using hon) q4),q5,q6,q7,fun o af=>q8 o (nD _ b k1 rfl o af)⟩
    |dC T xs =>
     obtain ⟨aK,k1,k2,k3⟩:=hob;refine ⟨aK,(e2 n hnb).trans k1,k2,?_⟩;cases aK with
     |none=>exact k3
     |some bc =>
      obtain ⟨b,cap⟩:=bc;obtain ⟨cs,r,q1,q2,q3,q4,q5,q6,q7⟩:=k3;exact ⟨cs,r,q1,q2,q3,q4,q5,q6,fun o af=>q7 o (nD _ b k1 rfl o af)⟩
    |dF x =>
     obtain ⟨b,k1,k2,k3,k4,k5⟩:=hob;exact ⟨b,(e2 n hnb).trans k1,k2,k3,k4,fun o af=>k5 o (nD _ b k1 rfl o af)⟩
    |bt ks vs =>
     obtain ⟨b,es,ck,k1,k2,k3,k4,k5,k6,k7⟩:=hob;simp only[aq.only,t8] at hon;exact ⟨b,es,ck,(e2 n hnb).trans k1,k2,k3,k4,aJ.later ao _ _ (aJ.c9 e2 _ _ hon.1 k5),aJ.later ao _ _ (aJ.c9 e2 _ _ hon.2 k6),fun o af=>k7 o (nD _ b k1 rfl o af)⟩
    |it ks vs left cur =>
     obtain ⟨r,b,es,ck,si,se,la,k1,k2,k3,k4,k5,k6,k7,k8,k9,k9',k10⟩:=hob;simp only[aq.only,t8] at hon;exact ⟨r,b,es,ck,si,se,la,(e2 n hnb).trans k1,k2,k3,k4.later ao,aJ.later ao _ _ (aJ.c9 e2 _ _ hon.1 k5),aJ.later ao _ _ (aJ.c9 e2 _ _ hon.2 k6),k7,k8,k9,k9',fun o af=>k10 o (nD _ r k1 rfl o af)⟩
 ·have cut:∀ n e,E2 n=some e→E n=some e:=fun n e he=>by
   rw[hE2] at he;simp only at he;split at he
   ·cases he
   ·exact he
  exact h.cO n m e e' b (cut n e g1) (cut m e' g2) g3 g4
 ·by_cases hm:ns.contains n=true
  ·left;rw[hE2];simp only[hm,if_true]
  ·rw[e2 n (by simpa using hm)];exact h.dQ n e hn
 ·refine ⟨fun b o af=>by rw[hD2];exact .inl (hw1.c4 b o af),fun n T sz es b cap hn aA o hlt =>?_,fun _ n x b aX hn aA o hlt =>?_,fun _ n ks vs b hn aA =>?_⟩
  ·simp only[au,py] at hn;split at hn
   ·rw[hD2];exact .inl (hw1.bW n T sz es b cap hn aA o hlt)
   ·cases hn
  ·simp only[au,py] at hn;split at hn
   ·rename_i hk;rw[hD2];exact .inr (.inl ⟨n,x,aX,hk,hn,aA,hlt⟩)
   ·cases hn
  ·simp only[au,py] at hn;split at hn
   ·rename_i hk;rw[hD2];exact .inr (.inr ⟨n,ks,vs,hk,hn,aA,rfl⟩)
   ·cases hn
theorem aZ.aaA{f:FuncId}{avs cargs:List I}{r:I}{vs:List Value}{a:Act}{w:World}{D:aP}{E:a8}{ts:List (Nat×I)}{os0:List (Nat×aq)}(ab:aV c (au ts os0) a w D E)(ns:List Nat)(ho:cF (fun n => !ns.contains n) (ec ns os0))
  (h:aZ c.P f cargs r) (hc:bY true (au ts (kY ns os0)) avs=some cargs) (hv:fy (bd w D E) avs vs) :
  Calls c.P f vs.toArray w fun e w'=>∃ v D' E',e=.returned v∧aV c (au (kh ns ts) (ec ns os0)) a w' D' E'∧bd w' D' E' r v:=by
 obtain ⟨D1,E1,hs1,hw⟩:=ab.BA ns ho;have hu:ev (au ts (kY ns os0)) (au ts os0):=fun n x hx=>by
  simp only[au,py] at hx ⊢;split at hx
  ·exact hx
  ·cases hx
 have hrv:=lN (E':=di) ab hu hw avs cargs vs (lu _ _ hv (qw hc)) hc;refine (h.2 w _ vs ab.wy hs1.aR hrv).mono fun e w' ⟨v,D',he,J,U,ah,ar⟩=>⟨v,fun b o=>D1 b o∨(w.heap.size≤b∧D' b o),E1,he,?_,?_⟩
 ·refine hs1.grow U (fun _ _ af=>.inl af) ?_ ?_
  ·rintro b o (af | ⟨hle,_⟩) hlt
   ·exact af
   ·omega
  ·rintro b o (af | ⟨_,af⟩)
   ·exact Nat.lt_of_lt_of_le (hs1.aR b o af) U.size
   ·exact ah b o af
 ·refine bd.later (E:=di) ⟨fun b o af =>?_,fun _ _ _ _ h=>h,fun n b aX hn=>by simp[di] at hn,fun n aK l hn=>by simp[di] at hn,fun n b hn=>by simp[di] at hn,fun n b hn=>by simp[di] at hn,fun _ _ _ _ h=>h⟩ J;rcases Nat.lt_or_ge b w.heap.size with hlt | hge
  ·exact .inl (ar b o af hlt)
  ·exact .inr ⟨hge,af⟩
theorem uP{a:Act}{w:World}{D D1:aP}{E:a8}{ts:List (Nat×I)}{os0 os:List (Nat×aq)}{ρ:List (Nat×Nat)}{aL:Bool}{A0:ai}(ab:aV c (au ts os0) a w D E)(hu:ev A0 (au ts os0))(hD:∀ b o,D b o→D1 b o)(hw:h3 aL A0 D E D1) :
  ∀ (avs cargs:List I) (vs:List Value),gO aL A0 ρ os avs cargs→fy (bd w D E) avs vs→aJ w D1 (aA ρ os E) cargs vs
 | [],[],vs,_,hv=>by cases hv;simp[aJ]
 | [],_::_,_,h,_=>by simp[gO] at h
 |_::_,[],_,h,_=>by simp[gO] at h
 |x::xs,y::ys,vs,h,hv=>by
  cases hv with
  |cons hv hvs =>
  rename_i v vs;simp only[gO] at h;have ih:=uP ab hu hD hw xs ys vs h.2 hvs;have ao:dT w D (aA ρ os E) w D1 (aA ρ os E):=⟨hD,fun _ _ _ _ h=>h,fun _ _ _ h=>h,fun _ aK l h=>⟨aK,l,h,zz4 _,fun _=>rfl⟩,fun _ _ h=>h,fun _ _ h=>h,fun _ _ _ _ h=>h⟩
  have J:∃ cs,bE y v cs∧al w D1 (aA ρ os E) y cs:=by
   rcases h.1 with ⟨k1,k2,k3⟩ | k
   ·rw[k1] at hv;have U:=bd.later ao ((bd.bh (w:=w) (D:=D) (p:=aw os) (ρ:=bH ρ) (E:=aA ρ os E) (E':=E) (fun n hn=>by simp only[aA,hn,if_true]) k2).1 hv);cases y <;>simp only[bd] at U <;>first | (simp[I.bS] at k3;done) | exact U
   ·have U:aJ w D E [x] [v]:=lu [x] [v] (.cons hv .nil) (by
     intro z hz;simp only[zx5] at hz;subst hz;cases z <;>simp_all[bj,I.bS])
    have ah:=lN (E':=aA ρ os E) ab hu hw [x] [y] [v] U (by simp[bY,k]);simp only[aJ] at ah;obtain ⟨v',rest,cs,e,k1,k2,_⟩:=ah;simp only[zw8] at e;obtain ⟨rfl,_⟩:=e;exact ⟨cs,k1,k2⟩
  obtain ⟨cs,k1,k2⟩:=J;simp only[aJ];exact ⟨v,vs,cs,rfl,k1,k2,ih⟩
theorem ev.drop(ts:List (Nat×I))(ns:List Nat)(os0:List (Nat×aq)):ev (au ts (ec ns os0)) (au ts os0):=fun n x hx=>by
 simp only[au,nR] at hx ⊢;split at hx
 ·cases hx
 ·exact hx
theorem nr.use{run:Array Value→World→(Ending→World→Prop)→Prop}{since:World→aP→a8→Prop}{avs cargs:List I}{post:cC}{vs:List Value}{a:Act}{w:World}{D:aP}{E:a8}{ts:List (Nat×I)}{os0 os:List (Nat×aq)}{ρ:List (Nat×Nat)}
  (ab:aV c (au ts os0) a w D E) (h:nr run since cargs os post) (aL:Bool) (hmono:∀ {vs w R R'},run vs w R→(∀ e w,R e w→R' e w)→run vs w R') (hsince:(aL=true→∀ D,since w D (aA ρ os E))∧(aL=false→since w (ot (au ts os0) D E) (aA ρ os E)))
  (hg:gn ρ os os0) (ha:gO aL (au ts (ec (ig ρ os) os0)) ρ os avs cargs) (hb:∀ r os',post r os'→fW aL ρ os os0 r os') (hv:fy (bd w D E) avs vs) :
  run vs.toArray w fun e w'=>∃ v r os' D2 E2,e=.returned v∧post r os'∧aV c (au ts (dn ρ os'++os0)) a w' D2 E2∧bd w' D2 E2 (r.bh (bH ρ)) v∧∀ m e,aA ρ os E m=some e→aw os' m=true→∃ e',E2 (bH ρ m)=some e'∧e.le e':=by
 have notName:∀ n,(ig ρ os).contains n=false→∀ m,aw os m=true→bH ρ m≠n:=fun n hn m hm he=>by
  obtain ⟨q,hq,rfl⟩:=wm.1 hm;have:(ig ρ os).contains n=true:=by simp only[ig,List.contains_iff_mem,zx1];exact ⟨q,hq,he⟩
  rw[this] at hn;cases hn
 have other:∀ {D:aP},aV c (au ts os0) a w D E→∀ n e b x,aj (ec (ig ρ os) os0) n=some x→E n=some e→e.aK=some b→¬ cI (aA ρ os E) b:=fun ab n e b x hx he hb ho=>by
  obtain ⟨m,e',J,U,hb',_⟩:=ab.sW hg ho;rw[nR] at hx;split at hx
  ·cases hx
  ·rename_i hc;have:=ab.cO n (bH ρ m) e _ b he U hb hb';exact notName n (by simpa using hc) m J this.symm
 cases aL with
 |true =>
  obtain ⟨D1,hD1⟩:∃ D1:aP,D1=fun b o=>D b o∨(b<w.heap.size∧¬ cI (aA ρ os E) b):=⟨_,rfl⟩
  have hD:∀ b o,D b o→D1 b o:=fun b o af=>by rw[hD1];exact .inl af
  have hw:h3 true (au ts (ec (ig ρ os) os0)) D E D1:=by
   refine ⟨hD,fun n T sz es b cap hn aA o _ =>?_,fun _ n x b aX hn aA o _ =>?_,fun _ n ks vs b hn aA =>?_⟩
   ·rw[hD1];exact .inr ⟨ab.fY aA rfl,other ab n _ b _ hn aA rfl⟩
   ·rw[hD1];exact .inr ⟨ab.fY aA rfl,other ab n _ b _ hn aA rfl⟩
   ·rw[hD1];exact .inr ⟨ab.fY aA rfl,other ab n _ b _ hn aA rfl⟩
  have hrv:=uP ab (ev.drop ts _ os0) hD hw avs cargs vs ha hv;refine hmono (h w D1 (aA ρ os E) vs (hsince.1 rfl _) (fun b o af=>by
   rw[hD1] at af;rcases af with af | af
   ·exact ab.aR b o af
   ·exact af.1) (ab.Ch hg hD fun b o af ho=>by
    rw[hD1] at af;rcases af with af | af
    ·exact af
    ·exact absurd ho af.2) hrv) ?_
  rintro e w' ⟨v,D',E',r,os',he,hp,J,U,ah,ar,h5,h6,h7,h8⟩;obtain ⟨D2,E2,k1,k2⟩:=ab.iw hg hD (fun h=>by cases h) (hb r os' hp) J U ah h5 ar h8 h6 h7;exact ⟨v,r,os',D2,E2,he,hp,k1,k2⟩
 |false =>
  obtain ⟨hs1,hw⟩:=ab.ov;have hw':h3 false (au ts (ec (ig ρ os) os0)) D E (ot (au ts os0) D E):=⟨hw.c4,fun n T sz es b cap hn aA o hlt=>hw.bW n T sz es b cap (ev.drop ts _ os0 n _ hn) aA o hlt,(fun hb=>by cases hb),fun hb=>by cases hb⟩
  have hrv:=uP ab (ev.drop ts _ os0) hw.c4 hw' avs cargs vs ha hv;refine hmono (h w _ (aA ρ os E) vs (hsince.2 rfl) hs1.aR (hs1.Ch hg (fun _ _ h=>h) fun b o af _=>af) hrv) ?_;rintro e w' ⟨v,D',E',r,os',he,hp,J,U,ah,ar,h5,h6,h7,h8⟩;obtain ⟨D2,E2,k1,k2⟩:=hs1.iw hg (fun _ _ h=>h) (fun _ _ _ h=>h) (hb r os' hp) J U ah h5 ar h8 h6 h7;exact ⟨v,r,os',D2,E2,he,hp,k1,k2⟩
theorem aV.since{A:ai}{a:Act}{w:World}{D:aP}{E E':a8}(h:aV c A a w D E)(aA:∀ n,E' n=E n∨E' n=none):yC c w D E' :=
 ⟨h.dM,h.cU,h.c4,fun n e hn=>by
  rcases aA n with k | k
  ·rw[k];exact h.dQ n e hn
  ·exact .inl k,h.fw,h.qT.nQ fun b ⟨n,e,J,U⟩=>by
   rcases aA n with k | k
   ·rw[k] at J;exact ⟨n,e,J,U⟩
   ·rw[k] at J;cases J⟩
theorem lP(c:cV)(f:FuncId):c.bC.fn f:=by unfold cV.bC;split <;>trivial
theorem vn(c:cV):c.bC.depth.isSome=true→1≤9:=fun _=>by omega
theorem kJ{a:Act}{w:World} : ∀ f,o.about c.P w a.eval=some f→c.bC.fn f:=fun f _=>lP c f
theorem lv{g:bT}(hg:dc c.P o=some g)(r:Option Nat)(ρ:Operand→Value):o.semAt r ρ=execOp ρ o:=by
 cases r with
 |none=>rfl
 |some l =>
  refine Oper.semAt_some l ρ o fun cl h =>?_;unfold dc at hg;rw[h] at hg;simp at hg
theorem AA{f:FuncId}{args:Array Value}{w:World}{R:Ending→World→Prop}(h:Calls c.P f args w R):CallsIn c.bC (9-1) c.P f args w R:=by
 have J:CallsIn Fence.wide (9-1) c.P f args w R:=callsIn_wide.2 h;unfold cV.bC;split
 ·exact J
 ·exact J
theorem sq.mono{P:Program}{v:Value}{vs:Array Value}{w:World}{R R':Ending→World→Prop}(h:sq P v vs w R)(hr:∀ e w,R e w→R' e w):sq P v vs w R':=by
 obtain ⟨l,J,fn,tmps,assign,body,U,ah⟩:=h;exact ⟨l,J,fn,tmps,assign,body,U,ah.mono hr⟩
theorem ZR{l:Nat}{f:FuncId}{tmps:Array Value}{assign body:Code}{w:World}{R:Ending→World→Prop}(h:RoundIn Fence.wide 9 c.P l f tmps assign body w R):RoundIn c.bC (9-1) c.P l f tmps assign body w R:=by
 have J:RoundIn Fence.wide (9-1) c.P l f tmps assign body w R:=⟨h.1,fun cc cs _=>h.2 cc cs (room_wide _)⟩
 unfold cV.bC;split
 ·exact J
 ·exact J
theorem h2.wp{B:ai}{g:bT}(hg:dc c.P o=some g)(h:h2 c A o B){a:Act}{w:World}{K:Act→World→Prop}{Q:Exit→Act→World→Prop}(ab:b6 c A a w)(hK:∀ a w,b6 c B a w→K a w):o.wpIn c.bC 9 c.P a w K Q:=by
 obtain ⟨D,E,ab⟩:=ab;obtain ⟨w',h⟩:=h a w D E ab;refine ⟨kJ,?_⟩;rw[lv hg];rcases h with ⟨v,J,U⟩ | ⟨J,U⟩
 ·rw[J];exact hK _ _ U
 ·rw[J];exact hK _ _ U
theorem vf{dr:Bool}{K:ai→Prop}{f:FuncId}{avs:List I}{a1 a2:Option (List I)}{vs:List Value}{dst:Option Nat}{rest:List aI}{a:Act}{w:World}{Kw:Act→World→Prop}{Q:Exit→Act→World→Prop}{g:bT}(hg:dc c.P o=some g)(J:bY true A avs=a1)(U:bY false A avs=a2)
  (ab:∀ D E,aV c A a w D E→fy (bd w D E) avs vs) (hsim:b6 c A a w) (hwp:aQ c.P c.Y dr K (.call f avs a1 a2 dst rest A)) (af:o.dst=dst) (hdn:∀ k,dst=some k→k<c.n)
  (hrun:eZ c.P f=true→(execOp a.eval o).run c.P w=.ok (.enter f vs.toArray) w)
  (hK:∀ B a' w',aQ c.P c.Y dr K (aB rest B)→b6 c B a' w'→Kw a' w'):o.wpIn c.bC 9 c.P a w Kw Q:=by
 obtain ⟨D,E,hsw⟩:=hsim;have oD:∀ {R:Ending→World→Prop},eZ c.P f=true→Calls c.P f vs.toArray w R→(∀ e w',R e w'→∃ v,e=.returned v∧Kw (a.put o.dst v) w')→o.wpIn c.bC 9 c.P a w Kw Q:=fun {R} hc hcl hR=>by
  refine ⟨kJ,?_⟩;rw[lv hg,hrun hc,Oper.uponIn_enter];refine ⟨vn c,AA (hcl.mono fun e w' he =>?_)⟩;obtain ⟨v,rfl,hv⟩:=hR e w' he;exact hv
 cases hwp with
 |flat r hspec hflat hrest =>
  refine oD hspec.1 (hspec.aaz hsw hflat J (ab D E hsw)) ?_;rintro e w' ⟨v,D',he,hs',hv⟩;refine ⟨v,he,?_⟩;rw[af];exact hK _ _ _ hrest ⟨D',E,hs'.aS hdn hv⟩
 |lead r hspec hrest =>
  refine oD hspec.1 (hspec.aaB hsw U (ab D E hsw)) ?_;rintro e w' ⟨v,D',he,hs',hv⟩;refine ⟨v,he,?_⟩;rw[af];exact hK _ _ _ hrest ⟨D',E,hs'.aS hdn hv⟩
 |jh ns r hdr hspec hf ho hrest =>
  refine oD hspec.1 (hspec.aaA hsw ns ho hf (ab D E hsw)) ?_;rintro e w' ⟨v,D',E',he,hs',hv⟩;refine ⟨v,he,?_⟩;rw[af];exact hK _ _ _ hrest ⟨D',E',hs'.aS hdn hv⟩
 |bP aL ρ os cargs post hdr hspec hgv ha hb hrest =>
  refine oD hspec.1 (hspec.2.use hsw aL (fun h=>h.mono) ⟨fun _ _=>hsw.pt,fun _=>hsw.pt⟩ hgv ha hb (ab D E hsw)) ?_;rintro e w' ⟨v,r,os',D2,E2,he,hp,hs',hv,_⟩;refine ⟨v,he,?_⟩;rw[af];exact hK _ _ _ (hrest r os' hp) ⟨D2,E2,hs'.aS hdn hv⟩
theorem JD{dr:Bool}{K:ai→Prop}{v:Value}{avs:List I}{vs:List Value}{dst:Option Nat}{rest:List aI}{a:Act}{w:World}{Kw:Act→World→Prop}{Q:Exit→Act→World→Prop}{g:bT}(hg:dc c.P o=some g)
  (ab:∀ D E,aV c A a w D E→fy (bd w D E) avs vs) (hsim:b6 c A a w) (hwp:aQ c.P c.Y dr K (.kN v avs dst rest A)) (af:o.dst=dst) (hdn:∀ k,dst=some k→k<c.n)
  (hrun:∀ l,v=.func (.yield l) #[] #[]→(execOp a.eval o).run c.P w=(Instr.yield l vs.toArray).run c.P w)
  (hK:∀ B a' w',aQ c.P c.Y dr K (aB rest B)→b6 c B a' w'→Kw a' w'):o.wpIn c.bC 9 c.P a w Kw Q:=by
 obtain ⟨D,E,hsw⟩:=hsim;cases hwp with
 |um os cargs post hdr hY hgv ha hb hrest =>
  have hyr:=(hsw.eU.2 _ _ _ _ hY).use (ρ:=[]) hsw false (fun h=>h.mono) ⟨(fun h=>by cases h),fun _=>hsw.ov.1.since (fun n=>by simp only[aA,bH];split <;>simp)⟩ hgv ha hb (ab D E hsw);obtain ⟨l,rfl,fn,tmps,assign,body,U,ah⟩:=hyr;refine ⟨kJ,?_⟩;rw[lv hg,hrun l rfl,U,Oper.uponIn_round];refine ⟨vn c,ZR (ah.mono fun e w' he =>?_)⟩;obtain ⟨v,r,os',D2,E2,rfl,hp,hs',hv,_⟩:=he;rw[af];exact hK _ _ _ (hrest r os' hp) ⟨D2,E2,hs'.aS hdn hv⟩
end
section
variable {c:cV} {A:ai} {o:Oper}
theorem nA{P:Program}{n:Nat}{aW:Array Oper}{g:aI}(h:lK P n aW o=some g):dc P o=some g.op∧g.dst=o.dst∧(∀ k,o.dst=some k→k<n) ∧
  ((o.guard=none∧g.guard=none)∨∃ j b t,o.guard=some (j,b)∧(aW[j]?).bind (·.dst)=some t∧g.guard=some (t,b)):=by
 unfold lK at h;split at h
 ·cases h
 rename_i g' hg';split at h
 case isFalse=>cases h
 rename_i af;have hdst:∀ k,o.dst=some k→k<n:=by
  intro k hk;rw[hk] at af;simpa[A5] using af
 split at h
 ·rename_i hgd;simp only[v6] at h;subst h;exact ⟨hg',rfl,hdst,.inl ⟨hgd,rfl⟩⟩
 ·rename_i j b hgd;split at h
  ·rename_i t ht;simp only[v6] at h;subst h;exact ⟨hg',rfl,hdst,.inr ⟨j,b,t,hgd,ht,rfl⟩⟩
  ·cases h
theorem B4{dr:Bool}{K:ai→Prop}{op:bT}{dst:Option Nat}{rest:List aI}{a:Act}{w:World}{Kw:Act→World→Prop}{Q:Exit→Act→World→Prop}(hop:dc c.P o=some op)(af:o.dst=dst)(hdn:∀ k,dst=some k→k<c.n)
  (hsim:b6 c A a w) (hK:∀ B a' w',aQ c.P c.Y dr K (aB rest B)→b6 c B a' w'→Kw a' w') (h:aQ c.P c.Y dr K (cS (bn A op) fun v=>aB rest (A.aS dst v))):o.wpIn c.bC 9 c.P a w Kw Q:=by
 cases hv:bn A op with
 |some v =>
  rw[hv] at h;exact ((DE hop hv).does (by rw[af];exact hdn)).wp hop hsim (fun a' w' ab=>by rw[af] at ab;exact hK _ a' w' h ab)
 |none=>rw[hv] at h;cases h
theorem We{dr:Bool}{K:ai→Prop}{dst:Option Nat}{rest:List aI}{a:Act}{w:World}{Kw:Act→World→Prop}{Q:Exit→Act→World→Prop}{z:I}(hop:dc c.P o=some (.alloc z))(af:o.dst=dst)(hdn:∀ k,dst=some k→k<c.n)
  (hwp:aQ c.P c.Y dr K (bl A dst (.alloc z) rest (aB rest))) (hsim:b6 c A a w) (hK:∀ B a' w',aQ c.P c.Y dr K (aB rest B)→b6 c B a' w'→Kw a' w'):o.wpIn c.bC 9 c.P a w Kw Q:=by
 have hop0:=hop;simp only[bl] at hwp;split at hwp
 case h_2=>cases hwp
 rename_i d;split at hwp
 case h_2=>cases hwp
 rename_i hf;unfold dc at hop;split at hop <;>try (first | (simp at hop;done) | ((repeat' split at hop) <;>simp at hop;done))
 rename_i t ho;simp only[t7,bT.alloc.injEq] at hop;obtain ⟨z',hz,rfl⟩:=hop;exact (MH ho hz af (hdn d rfl) hf).wp hop0 hsim (fun a' w' ab=>hK _ a' w' hwp ab)
theorem Wh{dr:Bool}{K:ai→Prop}{dst:Option Nat}{rest:List aI}{a:Act}{w:World}{Kw:Act→World→Prop}{Q:Exit→Act→World→Prop}{x:aO}(hop:dc c.P o=some (.box x))(af:o.dst=dst)(hdn:∀ k,dst=some k→k<c.n)
  (hwp:aQ c.P c.Y dr K (bl A dst (.box x) rest (aB rest))) (hsim:b6 c A a w) (hK:∀ B a' w',aQ c.P c.Y dr K (aB rest B)→b6 c B a' w'→Kw a' w'):o.wpIn c.bC 9 c.P a w Kw Q:=by
 have hop0:=hop;simp only[bl] at hwp;split at hwp
 case h_2=>cases hwp
 rename_i d;split at hwp
 case h_2=>cases hwp
 rename_i hf;split at hwp
 case isFalse=>cases hwp
 rename_i hv;unfold dc at hop;split at hop <;>try (first | (simp at hop;done) | ((repeat' split at hop) <;>simp at hop;done))
 rename_i t y ho;simp only[t7,bT.box.injEq] at hop;obtain ⟨z',hz,rfl⟩:=hop;exact (MN ho hz hv af (hdn d rfl) hf).wp hop0 hsim (fun a' w' ab=>hK _ a' w' hwp ab)
theorem Wt{dr:Bool}{K:ai→Prop}{dst:Option Nat}{rest:List aI}{a:Act}{w:World}{Kw:Act→World→Prop}{Q:Exit→Act→World→Prop}{s:Option Nat}{x v:aO}(hop:dc c.P o=some (.bg s x v))(af:o.dst=dst)(hdn:∀ k,dst=some k→k<c.n)
  (hwp:aQ c.P c.Y dr K (bl A dst (.bg s x v) rest (aB rest))) (hsim:b6 c A a w) (hK:∀ B a' w',aQ c.P c.Y dr K (aB rest B)→b6 c B a' w'→Kw a' w'):o.wpIn c.bC 9 c.P a w Kw Q:=by
 have hop0:=hop;simp only[bl] at hwp;split at hwp
 case h_2=>cases hwp
 split at hwp
 case h_2=>cases hwp
 rename_i n p hp;split at hwp
 case h_2=>cases hwp
 rename_i b hb;split at hwp
 case h_2=>cases hwp
 rename_i old hat;split at hwp
 case isFalse=>cases hwp
 rename_i hok;unfold dc at hop;split at hop <;>try (first | (simp at hop;done) | ((repeat' split at hop) <;>simp at hop;done))
 rename_i t y z ho;split at hop
 case h_2=>cases hop
 rename_i s' x' v' J U ah;split at hop
 case isFalse=>cases hop
 rename_i hk;simp only[v6,bT.bg.injEq] at hop;obtain ⟨rfl,rfl,rfl⟩:=hop;exact (MU ho J hk U ah hp hb hat hok.1 hok.2.1 hok.2.2 af).wp hop0 hsim (fun a' w' ab=>hK _ a' w' hwp ab)
theorem Wi{dr:Bool}{K:ai→Prop}{dst:Option Nat}{rest:List aI}{a:Act}{w:World}{Kw:Act→World→Prop}{Q:Exit→Act→World→Prop}{f:FuncId}{args:List aO}(hop:dc c.P o=some (.call f args))(af:o.dst=dst)(hdn:∀ k,dst=some k→k<c.n)
  (hwp:aQ c.P c.Y dr K (bl A dst (.call f args) rest (aB rest))) (hsim:b6 c A a w) (hK:∀ B a' w',aQ c.P c.Y dr K (aB rest B)→b6 c B a' w'→Kw a' w'):o.wpIn c.bC 9 c.P a w Kw Q:=by
 have hop0:=hop;simp only[bl] at hwp;unfold dc at hop;split at hop <;>try (first | (simp at hop;done) | ((repeat' split at hop) <;>simp at hop;done))
 rename_i f' xs ts ho;split at hop
 case isFalse=>simp at hop
 simp only[t7,bT.call.injEq] at hop;obtain ⟨ys,hys,rfl,rfl⟩:=hop;refine vf (vs:=xs.toList.map a.eval) hop0 rfl rfl (fun D E ab=>kK ab xs.toList ts.toList ys hys) hsim hwp af hdn (fun hc =>?_) hK;have e:xs.map a.eval=(xs.toList.map a.eval).toArray:=by apply Array.ext';simp
 simp only[execOp,ho,resolve,Act.eval,Deferred.ofValue,Sem.run_bind,Sem.run_pure,Result.andThen_ok,invoke,Array.append_empty,Array.empty_append,mZ hc];rw[←e]
theorem Wu{dr:Bool}{K:ai→Prop}{dst:Option Nat}{rest:List aI}{a:Act}{w:World}{Kw:Act→World→Prop}{Q:Exit→Act→World→Prop}{f:FuncId}{args:List aO}(hop:dc c.P o=some (.j7 f args))(af:o.dst=dst)(hdn:∀ k,dst=some k→k<c.n)
  (hwp:aQ c.P c.Y dr K (bl A dst (.j7 f args) rest (aB rest))) (hsim:b6 c A a w) (hK:∀ B a' w',aQ c.P c.Y dr K (aB rest B)→b6 c B a' w'→Kw a' w'):o.wpIn c.bC 9 c.P a w Kw Q:=by
 have hop0:=hop;simp only[bl] at hwp;unfold dc at hop;split at hop <;>try (first | (simp at hop;done) | ((repeat' split at hop) <;>simp at hop;done))
 rename_i f' xs ts ho;split at hop
 case isTrue=>simp at hop
 simp only[t7,bT.j7.injEq] at hop;obtain ⟨ys,hys,rfl,rfl⟩:=hop;obtain ⟨D,E,ab⟩:=hsim;cases hwp with
 |ext r hdr hx hw =>
  obtain ⟨v,g1,g2⟩:=hx c a w D E (xs.toList.map a.eval) rfl ab (kK ab xs.toList ts.toList ys hys);have e:xs.map a.eval=(xs.toList.map a.eval).toArray:=by apply Array.ext';simp
  have hrun:(execOp a.eval o).run c.P w=.ok (.value v) w:=by
   simp only[execOp,ho,resolve,Act.eval,Deferred.ofValue,Sem.run_bind,Sem.run_pure,Result.andThen_ok,invoke,Array.append_empty,Array.empty_append];rw[←e] at g1;exact g1
  refine ⟨kJ,?_⟩;rw[lv hop0,hrun,Oper.uponIn_value];exact hK _ _ _ hw ⟨D,E,by rw[af];exact ab.aS hdn g2⟩
theorem Wn{dr:Bool}{K:ai→Prop}{dst:Option Nat}{rest:List aI}{a:Act}{w:World}{Kw:Act→World→Prop}{Q:Exit→Act→World→Prop} (hop:dc c.P o=some (.iI))(af:o.dst=dst)(hdn:∀ k,dst=some k→k<c.n)
  (hwp:aQ c.P c.Y dr K (bl A dst (.iI) rest (aB rest))) (hsim:b6 c A a w) (hK:∀ B a' w',aQ c.P c.Y dr K (aB rest B)→b6 c B a' w'→Kw a' w'):o.wpIn c.bC 9 c.P a w Kw Q:=by
 have hop0:=hop;simp only[bl] at hwp;split at hwp
 case h_2=>cases hwp
 rename_i d;split at hwp
 case h_2=>cases hwp
 rename_i hf;unfold dc at hop;split at hop <;>try (first | (simp at hop;done) | ((repeat' split at hop) <;>simp at hop;done))
 rename_i t ho;exact (MR ho af (hdn d rfl) hf).wp hop0 hsim (fun a' w' ab=>hK _ a' w' hwp ab)
theorem Wo{dr:Bool}{K:ai→Prop}{dst:Option Nat}{rest:List aI}{a:Act}{w:World}{Kw:Act→World→Prop}{Q:Exit→Act→World→Prop}{e:TypeId}{bytes:Nat}{z:I}{n:aO}(hop:dc c.P o=some (.kp e bytes z n))(af:o.dst=dst)(hdn:∀ k,dst=some k→k<c.n)
  (hwp:aQ c.P c.Y dr K (bl A dst (.kp e bytes z n) rest (aB rest))) (hsim:b6 c A a w) (hK:∀ B a' w',aQ c.P c.Y dr K (aB rest B)→b6 c B a' w'→Kw a' w'):o.wpIn c.bC 9 c.P a w Kw Q:=by
 have hop0:=hop;simp only[bl] at hwp;split at hwp
 case h_2=>cases hwp
 rename_i d;split at hwp
 case h_2=>cases hwp
 rename_i hf;split at hwp
 case h_2=>cases hwp
 rename_i k m hn;split at hwp
 case isFalse=>cases hwp
 rename_i hc;unfold dc at hop;split at hop <;>try (first | (simp at hop;done) | ((repeat' split at hop) <;>simp at hop;done))
 rename_i t l l' ho;split at hop
 case h_2=>cases hop
 rename_i e' n' hu ao;split at hop
 case h_2=>cases hop
 rename_i z' hz;split at hop
 case isFalse=>cases hop
 rename_i hc2;simp only[v6,bT.kp.injEq] at hop;obtain ⟨rfl,rfl,rfl,rfl⟩:=hop;obtain ⟨j,rfl⟩:=Int.eq_ofNat_of_zero_le hc.1;simp only[Int.toNat_natCast] at hc hwp;exact (MS ho (ZW hc2.1) hu ao hn hz hc2.2.1 hc2.2.2 hc.2.1 hc.2.2 af (hdn d rfl) hf).wp hop0 hsim (fun a' w' ab=>hK _ a' w' hwp ab)
theorem Wp{dr:Bool}{K:ai→Prop}{dst:Option Nat}{rest:List aI}{a:Act}{w:World}{Kw:Act→World→Prop}{Q:Exit→Act→World→Prop}{ty:cH}{m k v:aO}(hop:dc c.P o=some (.eS ty m k v))(af:o.dst=dst)(hdn:∀ k,dst=some k→k<c.n)
  (hwp:aQ c.P c.Y dr K (bl A dst (.eS ty m k v) rest (aB rest))) (hsim:b6 c A a w) (hK:∀ B a' w',aQ c.P c.Y dr K (aB rest B)→b6 c B a' w'→Kw a' w'):o.wpIn c.bC 9 c.P a w Kw Q:=by
 have hop0:=hop;simp only[bl] at hwp;split at hwp
 case h_2=>cases hwp
 split at hwp
 case h_2=>cases hwp
 rename_i n hm;split at hwp
 case h_2=>cases hwp
 rename_i ks vs hn;split at hwp
 case h_2=>cases hwp
 rename_i ks' vs' ao;unfold dc at hop;split at hop <;>try (first | (simp at hop;done) | ((repeat' split at hop) <;>simp at hop;done))
 all_goals
  rename_i t mo ko vo ho;split at hop
  case h_2=>cases hop
  rename_i kt et m' k' hu J U;split at hop
  case h_2=>cases hop
  rename_i ty' v' hk ah;simp only[v6,bT.eS.injEq] at hop;obtain ⟨rfl,rfl,rfl,rfl⟩:=hop
 ·exact (A2 (.inl ho) hu hk J U ah hm hn ao af).wp hop0 hsim (fun a' w' ab=>hK _ a' w' hwp ab)
 ·exact (A2 (.inr ho) hu hk J U ah hm hn ao af).wp hop0 hsim (fun a' w' ab=>hK _ a' w' hwp ab)
theorem Wm{dr:Bool}{K:ai→Prop}{dst:Option Nat}{rest:List aI}{a:Act}{w:World}{Kw:Act→World→Prop}{Q:Exit→Act→World→Prop}{ty:cH}{m k:aO}(hop:dc c.P o=some (.iH ty m k))(af:o.dst=dst)(hdn:∀ k,dst=some k→k<c.n)
  (hwp:aQ c.P c.Y dr K (bl A dst (.iH ty m k) rest (aB rest))) (hsim:b6 c A a w) (hK:∀ B a' w',aQ c.P c.Y dr K (aB rest B)→b6 c B a' w'→Kw a' w'):o.wpIn c.bC 9 c.P a w Kw Q:=by
 have hop0:=hop;simp only[bl] at hwp;split at hwp
 case h_2=>cases hwp
 split at hwp
 case h_2=>cases hwp
 rename_i n hm;split at hwp
 case h_2=>cases hwp
 rename_i ks vs hn;split at hwp
 case h_2=>cases hwp
 rename_i ks' vs' ao;unfold dc at hop;split at hop <;>try (first | (simp at hop;done) | ((repeat' split at hop) <;>simp at hop;done))
 rename_i args tys ho;split at hop
 case h_2=>cases hop
 rename_i mo ko t t' ha ht;split at hop
 case h_2=>cases hop
 rename_i kt et m' k' hu J U;simp only[t7,bT.iH.injEq] at hop;obtain ⟨ty',hk,rfl,rfl,rfl⟩:=hop;have ha':args = #[mo,ko]:=by apply Array.ext';simpa using ha
 have ht':tys = #[t,t']:=by apply Array.ext';simpa using ht
 subst ha' ht';exact (MQ ho hu hk J U hm hn ao af).wp hop0 hsim (fun a' w' ab=>hK _ a' w' hwp ab)
theorem Ws{dr:Bool}{K:ai→Prop}{dst:Option Nat}{rest:List aI}{a:Act}{w:World}{Kw:Act→World→Prop}{Q:Exit→Act→World→Prop}{x:aO}(hop:dc c.P o=some (.jl x))(af:o.dst=dst)(hdn:∀ k,dst=some k→k<c.n)
  (hwp:aQ c.P c.Y dr K (bl A dst (.jl x) rest (aB rest))) (hsim:b6 c A a w) (hK:∀ B a' w',aQ c.P c.Y dr K (aB rest B)→b6 c B a' w'→Kw a' w'):o.wpIn c.bC 9 c.P a w Kw Q:=by
 have hop0:=hop;simp only[bl] at hwp;split at hwp
 case h_2=>cases hwp
 rename_i d;split at hwp
 case h_2=>cases hwp
 rename_i hf;split at hwp
 case h_2=>cases hwp
 rename_i ks vs hx;unfold dc at hop;split at hop <;>try (first | (simp at hop;done) | ((repeat' split at hop) <;>simp at hop;done))
 rename_i t y ho;split at hop
 case h_2=>cases hop
 rename_i kt et hu;simp only[t7,bT.jl.injEq] at hop;obtain ⟨z,hz,rfl⟩:=hop;exact (MT ho hu hz hx af (hdn d rfl) hf).wp hop0 hsim (fun a' w' ab=>hK _ a' w' hwp ab)
theorem Wr{dr:Bool}{K:ai→Prop}{dst:Option Nat}{rest:List aI}{a:Act}{w:World}{Kw:Act→World→Prop}{Q:Exit→Act→World→Prop}{x:aO}(hop:dc c.P o=some (.gZ x))(af:o.dst=dst)(hdn:∀ k,dst=some k→k<c.n)
  (hwp:aQ c.P c.Y dr K (bl A dst (.gZ x) rest (aB rest))) (hsim:b6 c A a w) (hK:∀ B a' w',aQ c.P c.Y dr K (aB rest B)→b6 c B a' w'→Kw a' w'):o.wpIn c.bC 9 c.P a w Kw Q:=by
 have hop0:=hop;simp only[bl] at hwp;split at hwp
 case h_2=>cases hwp
 rename_i n hx;split at hwp
 case h_2=>cases hwp
 rename_i ks vs left cur hn;unfold dc at hop;split at hop <;>try (first | (simp at hop;done) | ((repeat' split at hop) <;>simp at hop;done))
 rename_i y ho;simp only[t7,bT.gZ.injEq] at hop;obtain ⟨z,hz,rfl⟩:=hop;obtain ⟨D,E,ab⟩:=hsim;obtain ⟨w',v,hrun,hor⟩:=X4 ho hz hx hn (by rw[af];exact hdn) ab;refine ⟨kJ,?_⟩;rw[lv hop0,hrun,Oper.uponIn_value];rw[af] at hor;split at hwp
 ·rename_i ao;rcases hor with ⟨_,hor⟩ | ⟨i,k,x,hi,_⟩
  ·exact hK _ _ _ hwp (by rw[af];exact hor)
  ·rw[ao] at hi;cases hi
 ·rename_i ao;rcases hor with ⟨h,_⟩ | ⟨i,k,x,hi,hk,hx,hor⟩
  ·exact absurd h ao
  ·cases hwp with
   |any hdr hall =>
    have:=hall i hi;simp only[hk,hx] at this;exact hK _ _ _ this (by rw[af];exact hor)
theorem Wj{dr:Bool}{K:ai→Prop}{dst:Option Nat}{rest:List aI}{a:Act}{w:World}{Kw:Act→World→Prop}{Q:Exit→Act→World→Prop}{x:aO}{args:List aO}(hop:dc c.P o=some (.fA x args))(af:o.dst=dst)(hdn:∀ k,dst=some k→k<c.n)
  (hwp:aQ c.P c.Y dr K (bl A dst (.fA x args) rest (aB rest))) (hsim:b6 c A a w) (hK:∀ B a' w',aQ c.P c.Y dr K (aB rest B)→b6 c B a' w'→Kw a' w'):o.wpIn c.bC 9 c.P a w Kw Q:=by
 have hop0:=hop;simp only[bl] at hwp;unfold dc at hop;split at hop <;>try (first | (simp at hop;done) | ((repeat' split at hop) <;>simp at hop;done))
 rename_i y xs ts _ ho;split at hop
 case h_2=>cases hop
 rename_i y' ys J U;simp only[v6,bT.fA.injEq] at hop;obtain ⟨rfl,rfl⟩:=hop;obtain ⟨D,E,ab⟩:=hsim;have hv:=bX ab J;split at hwp
 ·rename_i f caps hx;rw[hx] at hv;obtain ⟨cs,q1,q2⟩:=hv;simp only[al] at q2;obtain ⟨vs,q3,q4⟩:=q2;have hval:a.eval y=jz f vs:=by simpa[bE,I.isAgg,q3] using q1.symm
  have caps_ok:∀ D' E',aV c A a w D' E'→fy (bd w D' E') caps vs:=fun D' E' hs'=>by
   have hv':=bX hs' J;rw[hx] at hv';obtain ⟨cs',q1',q2'⟩:=hv';simp only[al] at q2';obtain ⟨vs',q3',q4'⟩:=q2';have hval':a.eval y=jz f vs':=by simpa[bE,I.isAgg,q3'] using q1'.symm
   rw[hval] at hval';have:=NO hval';subst this;exact rM q4'
  have e:xs.map a.eval=(xs.toList.map a.eval).toArray:=by apply Array.ext';simp
  rcases Nat.lt_or_ge f 1000000 with hf | hf
  ·rw[vH hf,vG hf] at hwp;rw[mK hf] at hval;refine vf (vs:=xs.toList.map a.eval++vs) hop0 rfl rfl (fun D' E' hs'=>(kK hs' xs.toList ts.toList ys U).append (caps_ok D' E' hs')) ⟨D,E,ab⟩ hwp af hdn (fun hc =>?_) hK;simp only[execOp,ho,resolve,hval,Deferred.ofValue,Sem.run_bind,Sem.run_pure,Result.andThen_ok,invoke,Array.empty_append,mZ hc];rw[e];simp
  ·obtain ⟨g,rfl⟩:∃ g:Nat,f=g+1000000:=⟨Nat.sub f 1000000,(Nat.sub_add_cancel hf).symm⟩
   rw[sO,vF] at hwp;rw[qx] at hval;refine vf (vs:=vs++xs.toList.map a.eval) hop0 rfl rfl (fun D' E' hs'=>(caps_ok D' E' hs').append (kK hs' xs.toList ts.toList ys U)) ⟨D,E,ab⟩ hwp af hdn (fun hc =>?_) hK;simp only[execOp,ho,resolve,hval,Deferred.ofValue,Sem.run_bind,Sem.run_pure,Result.andThen_ok,invoke,Array.append_empty,mZ hc];rw[e];simp
 ·rename_i u hx;rw[hx] at hv;obtain ⟨cs,q1,q2⟩:=hv;simp only[al] at q2;have hval:a.eval y=u:=by simpa[bE,I.isAgg,q2.1] using q1.symm
  refine JD (vs:=xs.toList.map a.eval) hop0 (fun D' E' hs'=>kK hs' xs.toList ts.toList ys U) ⟨D,E,ab⟩ hwp af hdn (fun l ao =>?_) hK;subst ao;have e:xs.map a.eval=(xs.toList.map a.eval).toArray:=by apply Array.ext';simp
  simp only[execOp,ho,resolve,hval,Deferred.ofValue,Sem.run_bind,Sem.run_pure,Result.andThen_ok,invoke,Array.empty_append];rw[e]
 ·cases hwp
theorem Wq{dr:Bool}{K:ai→Prop}{dst:Option Nat}{rest:List aI}{a:Act}{w:World}{Kw:Act→World→Prop}{Q:Exit→Act→World→Prop}{neg:Bool}{x:aO}(hop:dc c.P o=some (.nilS neg x))(af:o.dst=dst)(hdn:∀ k,dst=some k→k<c.n)
  (hwp:aQ c.P c.Y dr K (bl A dst (.nilS neg x) rest (aB rest))) (hsim:b6 c A a w) (hK:∀ B a' w',aQ c.P c.Y dr K (aB rest B)→b6 c B a' w'→Kw a' w'):o.wpIn c.bC 9 c.P a w Kw Q:=by
 have hop0:=hop;simp only[bl] at hwp;split at hwp
 case isFalse=>exact B4 hop af hdn hsim hK hwp
 rename_i hu;cases hwp with
 |any hdr hall =>
 unfold dc at hop;split at hop <;>try (first | (simp at hop;done) | ((repeat' split at hop) <;>simp at hop;done))
 rename_i bop t y z yt ho;split at hop
 ·simp at hop
 ·simp at hop
 ·rename_i e y' z' hut J U;split at hop
  ·rename_i s;split at hop
   ·rename_i hopp;simp only[v6,bT.nilS.injEq] at hop;obtain ⟨rfl,rfl⟩:=hop;have ho':o.op=.binOp (if (bop==.neq)=true then .neq else .eql) t y z yt:=by
     rcases hopp with rfl | rfl <;>simpa using ho
    obtain ⟨D,E,ab⟩:=hsim;have hund:∃ sz,ak A y'=.slice sz []∨ak A y'=.c0 sz:=by
     generalize ak A y'=q at hu;cases q <;>simp only[jL,zz2,List.isEmpty_iff] at hu
     ·rename_i sz;exact ⟨sz,.inr rfl⟩
     ·rename_i sz es;subst hu;exact ⟨sz,.inl rfl⟩
    obtain ⟨b,hrun⟩:=X5 ho' hut J U hund ab;refine ⟨kJ,?_⟩;rw[lv hop0,hrun,Oper.uponIn_value];have hb:=hall (if b then 0 else 1) (by cases b <;>simp);refine hK _ _ _ hb ⟨D,E,?_⟩;rw[af];have e:((if b=true then (0:Nat) else 1)==0)=b:=by cases b <;>rfl
    rw[e];exact ab.aS hdn (nT b)
   ·cases hop
  ·cases hop
 ·split at hop <;>simp at hop
 ·split at hop <;>simp at hop
 ·cases hop
theorem Wf{dr:Bool}{K:ai→Prop}{dst:Option Nat}{rest:List aI}{a:Act}{w:World}{Kw:Act→World→Prop}{Q:Exit→Act→World→Prop}{e:TypeId}{esz bytes:Nat}{z:I}{s x:aO}(hop:dc c.P o=some (.dm e esz bytes z s x))(af:o.dst=dst)(hdn:∀ k,dst=some k→k<c.n)
  (hwp:aQ c.P c.Y dr K (bl A dst (.dm e esz bytes z s x) rest (aB rest))) (hsim:b6 c A a w) (hK:∀ B a' w',aQ c.P c.Y dr K (aB rest B)→b6 c B a' w'→Kw a' w'):o.wpIn c.bC 9 c.P a w Kw Q:=by
 have hop0:=hop;simp only[bl] at hwp;unfold dc at hop;split at hop <;>try (first | (simp at hop;done) | ((repeat' split at hop) <;>simp at hop;done))
 rename_i args tys ho;split at hop
 case h_2=>cases hop
 rename_i y q t t' ha ht;split at hop
 case h_2=>cases hop
 rename_i e' s' x' k1 k2 k3;split at hop
 case isFalse=>split at hop <;>simp at hop
 rename_i hk;simp only[t7,bT.dm.injEq] at hop;obtain ⟨zz,hz1,rfl,rfl,rfl,rfl,rfl,rfl⟩:=hop;obtain ⟨rfl,hk2,hk3⟩:=hk;have ha':args = #[y,q]:=by apply Array.ext';simpa using ha
 have ht':tys = #[t,t]:=by apply Array.ext';simpa using ht
 subst ha' ht';rw[hz1] at hk3;simp only[zz9,v6] at hk3;have hinfo:(c.P.info? e').isSome=true:=by
  obtain ⟨ti,_,hti,_⟩:=lE hz1;rw[hti];rfl
 have grow:∀ es ys,eH A (c.P.cellsOf e') (ak A s')=some es→eH A (c.P.cellsOf e') (ak A x')=some ys→ys≠[]→(∀ a w D E,aV c A a w D E→∀ ad l cp,a.eval y=.slice ad l cp→cp<l+ys.length) →
   aQ c.P c.Y dr K (fX A dst (c.P.cellsOf e') (c.P.bytesOf e') zz es ys (aB rest))→o.wpIn c.bC 9 c.P a w Kw Q:=fun es ys hse hsx hne hfull h=>by
  simp only[fX] at h;split at h
  case h_2=>cases h
  rename_i d;split at h
  case h_2=>cases h
  rename_i hf;split at h
  case isFalse=>cases h
  rename_i hb;cases h with
  |any hdr hall =>
   obtain ⟨D,E,ab⟩:=hsim;obtain ⟨v,w',m,g1,g2,g3⟩:=HO ho k1 k2 k3 hz1 hk3 hse hsx hb.1 af (hdn d rfl) hf hne ab (hfull a w D E ab) hb.2;refine ⟨kJ,?_⟩;rw[lv hop0,g1,Oper.uponIn_value,af];rw[af] at g3;exact hK _ _ _ (hall m g2) g3
 split at hwp
 ·rename_i n l hs';split at hwp
  case h_2=>cases hwp
  rename_i sz ys hx';split at hwp
  case h_3=>cases hwp
  case h_2 =>
   rename_i T xs hn;split at hwp
   case isFalse=>cases hwp
   rename_i hok;obtain ⟨J,U,ah,ar,h5,h6,h7,h8⟩:=hok;subst ah ar;have hl5:ys.length=(qH ys).length:=(congrArg List.length h5).trans (by simp);rw[hl5] at h7 h8 hwp;rw[h5] at hx';have hd':=MJ (o:=o) ho k1 k2 k3 hz1 U hs' hn J hx' (fun e=>h6 (by rw[h5,e];rfl)) h7 h8 (by rw[af];exact hdn);exact hd'.wp hop0 hsim (fun a' w' ab=>by rw[af] at ab;exact hK _ a' w' hwp ab)
  rename_i T sz' es hn;split at hwp
  case isFalse=>cases hwp
  rename_i hok;obtain ⟨J,U,ah,ar,h5,h6,h7⟩:=hok;subst U ah ar;have hd':=MI (o:=o) ho k1 k2 k3 hz1 hk3 hk2 hs' hn J hx' rfl h5 h6 h7 (by rw[af];exact hdn);exact hd'.wp hop0 hsim (fun a' w' ab=>by rw[af] at ab;exact hK _ a' w' hwp ab)
 ·simp only[eY] at hwp;split at hwp
  case h_2=>cases hwp
  rename_i es ys hse hsx;split at hwp
  ·rename_i hne;subst hne;exact ((ML ho k1 hinfo k2 k3 hse hsx).does (by rw[af];exact hdn)).wp hop0 hsim (fun a' w' ab=>by rw[af] at ab;exact hK _ a' w' hwp ab)
  ·rename_i hne;have hpos:0<ys.length:=List.length_pos_iff.2 hne;split at hwp
   ·rename_i z0 hsv;refine grow es ys hse hsx hne (fun a w D E ab ad l cp hv =>?_) hwp;have aY:=bX ab k2;rw[hsv] at aY;obtain ⟨cs,q1,q2⟩:=aY;simp only[al] at q2;have:a.eval y=.slice none 0 0:=by simpa[bE,I.isAgg,q2] using q1.symm
    rw[this] at hv;simp only[Value.slice.injEq] at hv;omega
   ·rename_i z0 hsv;refine grow es ys hse hsx hne (fun a w D E ab ad l cp hv =>?_) hwp;have aY:=bX ab k2;rw[hsv] at aY;obtain ⟨cs,q1,q2⟩:=aY;simp only[al] at q2;obtain ⟨ad',q2⟩:=q2;have:a.eval y=.slice ad' 0 0:=by simpa[bE,I.isAgg,q2] using q1.symm
    rw[this] at hv;simp only[Value.slice.injEq] at hv;omega
   ·rename_i n p sz lo l hsv;split at hwp
    case h_2=>cases hwp
    rename_i b hn;split at hwp
    case h_2=>cases hwp
    rename_i fs hat;split at hwp
    ·rename_i hroom;split at hwp
     case isFalse=>cases hwp
     rename_i hok;obtain ⟨rfl,hsh⟩:=hok;exact (MK ho k1 hinfo k2 k3 hsv hn hat hsx hroom hsh (by rw[af];exact hdn)).wp hop0 hsim (fun a' w' ab=>by rw[af] at ab;exact hK _ a' w' hwp ab)
    ·rename_i hroom;refine grow es ys hse hsx hne (fun a w D E ab ad l' cp hv =>?_) hwp;have aY:=bX ab k2;rw[hsv] at aY;obtain ⟨_,bb,cs,T,off,c1,c2,c3,_,_,_,_,_,_,_,_,_,_,r1,oa,tJ⟩:=ab.view (fs:=fs) aY (by simp only[cK,hn,hat]);rw[tJ] at hv;simp only[Value.slice.injEq] at hv;omega
   ·cases hwp
theorem Wg{dr:Bool}{K:ai→Prop}{dst:Option Nat}{rest:List aI}{a:Act}{w:World}{Kw:Act→World→Prop}{Q:Exit→Act→World→Prop}{e:TypeId}{esz bytes:Nat}{z:I}{s n:aO}(hop:dc c.P o=some (.lI e esz bytes z s n))(af:o.dst=dst)(hdn:∀ k,dst=some k→k<c.n)
  (hwp:aQ c.P c.Y dr K (bl A dst (.lI e esz bytes z s n) rest (aB rest))) (hsim:b6 c A a w) (hK:∀ B a' w',aQ c.P c.Y dr K (aB rest B)→b6 c B a' w'→Kw a' w'):o.wpIn c.bC 9 c.P a w Kw Q:=by
 have hop0:=hop;simp only[bl] at hwp;unfold dc at hop;split at hop <;>try (first | (simp at hop;done) | ((repeat' split at hop) <;>simp at hop;done))
 rename_i args tys ho;split at hop
 case h_2=>cases hop
 rename_i y q t t' ha ht;split at hop
 case h_2=>cases hop
 rename_i e' s' x' k1 k2 k3;split at hop
 case isTrue=>simp at hop
 split at hop
 case isFalse=>cases hop
 rename_i hk;simp only[t7,bT.lI.injEq] at hop;obtain ⟨zz,hz1,rfl,rfl,rfl,rfl,rfl,rfl⟩:=hop;obtain ⟨hint,hk2,hk3⟩:=hk;have ha':args = #[y,q]:=by apply Array.ext';simpa using ha
 have ht':tys = #[t,t']:=by apply Array.ext';simpa using ht
 subst ha' ht';rw[hz1] at hk3;simp only[zz9,v6] at hk3;obtain ⟨kt,hkt⟩:∃ kt,c.P.underlying t'=some (.int kt):=by
  cases hu:c.P.underlying t' with
  |none=>rw[hu] at hint;cases hint
  |some dsc=>cases dsc <;>rw[hu] at hint <;>first | exact ⟨_,rfl⟩ | cases hint
 split at hwp
 case h_2=>cases hwp
 rename_i kx bJ hx';simp only[uO] at hwp;split at hwp
 case h_2=>cases hwp
 rename_i es hse;split at hwp
 case h_2=>cases hwp
 rename_i nn p sz lo l hsv;split at hwp
 case h_2=>cases hwp
 rename_i bb hn;split at hwp
 case h_2=>cases hwp
 rename_i fs hat;split at hwp
 case isFalse=>cases hwp
 rename_i hroom;simp only[fX] at hwp;split at hwp
 case h_2=>cases hwp
 rename_i d;split at hwp
 case h_2=>cases hwp
 rename_i hf;split at hwp
 case isFalse=>cases hwp
 rename_i hb;rw[List.length_replicate] at hb;cases hwp with
 |any hdr hall =>
  obtain ⟨D,E,ab⟩:=hsim;obtain ⟨v,w',m,g1,g2,g3⟩:=HP ho k1 k2 k3 hkt hx' rfl hroom.1 hk2 hz1 hk3 hse hb.1 af (hdn d rfl) hf ab (fun ad l' cp hv=>by
   have aY:=bX ab k2;rw[hsv] at aY;have hsv':=hse;obtain ⟨_,b1,cs,T,off,c1,c2,c3,_,_,_,_,_,_,_,_,_,_,r1,oa,tJ⟩:=ab.view (fs:=fs) aY (by simp only[cK,hn,hat]);rw[tJ] at hv;simp only[Value.slice.injEq] at hv;have hel:es.length=l:=by
    rw[hsv] at hse;simp only[eH,cK,hn,hat] at hse;split at hse
    ·simp only[v6] at hse;rw[←hse,zx3,List.length_drop];omega
    ·cases hse
   omega) hb.2
  refine ⟨kJ,?_⟩;rw[lv hop0,g1,Oper.uponIn_value,af];rw[af] at g3;have:=hall m (by rw[List.length_replicate];exact g2);rw[List.length_replicate] at this;exact hK _ _ _ this g3
theorem Wk{dr:Bool}{K:ai→Prop}{dst:Option Nat}{rest:List aI}{a:Act}{w:World}{Kw:Act→World→Prop}{Q:Exit→Act→World→Prop}{esz:Nat}{z:I}{x:aO}(hop:dc c.P o=some (.jw esz z x))(af:o.dst=dst)(hdn:∀ k,dst=some k→k<c.n)
  (hwp:aQ c.P c.Y dr K (bl A dst (.jw esz z x) rest (aB rest))) (hsim:b6 c A a w) (hK:∀ B a' w',aQ c.P c.Y dr K (aB rest B)→b6 c B a' w'→Kw a' w'):o.wpIn c.bC 9 c.P a w Kw Q:=by
 have hop0:=hop;simp only[bl] at hwp;split at hwp
 case h_2=>cases hwp
 unfold dc at hop;split at hop <;>try (first | (simp at hop;done) | ((repeat' split at hop) <;>simp at hop;done))
 rename_i args tys ho;split at hop
 case h_2=>cases hop
 rename_i y t ha ht;split at hop
 case h_2=>cases hop
 rename_i e' x' k1 k2;simp only[t7,bT.jw.injEq] at hop;obtain ⟨zz,hz1,rfl,rfl,rfl⟩:=hop;have ha':args = #[y]:=by apply Array.ext';simpa using ha
 have ht':tys = #[t]:=by apply Array.ext';simpa using ht
 subst ha' ht';have nothing:aQ c.P c.Y dr K (aB rest A)→(∀ a w D E,aV c A a w D E→∃ ad cp,a.eval y=.slice ad 0 cp)→o.wpIn c.bC 9 c.P a w Kw Q:=fun h hv=>by
  obtain ⟨D,E,ab⟩:=hsim;obtain ⟨ad,cp,hv⟩:=hv a w D E ab;refine ⟨kJ,?_⟩;have hrun:(execOp a.eval o).run c.P w=.ok (.value (.tuple #[])) w:=by
   cases ad <;>simp[execOp,ho,resolve,invoke,builtin,Builtin.clear_,run_underlying k1,hv]
  rw[lv hop0,hrun,Oper.uponIn_value,af];exact hK _ _ _ h ⟨D,E,ab⟩
 unfold mI at hwp;split at hwp
 ·rename_i n p sz lo l hv;split at hwp
  case h_2=>cases hwp
  rename_i b hn;split at hwp
  case h_2=>cases hwp
  rename_i fs hat;split at hwp
  case isFalse=>cases hwp
  rename_i hok;obtain ⟨rfl,hsh⟩:=hok;exact (MO ho k1 k2 hz1 hv hn hat hsh af).wp hop0 hsim (fun a' w' ab=>hK _ a' w' hwp ab)
 ·rename_i z0 hv;refine nothing hwp fun a w D E ab =>?_;have aY:=bX ab k2;rw[hv] at aY;obtain ⟨cs,q1,q2⟩:=aY;simp only[al] at q2;exact ⟨none,0,by simpa[bE,I.isAgg,q2] using q1.symm⟩
 ·rename_i z0 hv;refine nothing hwp fun a w D E ab =>?_;have aY:=bX ab k2;rw[hv] at aY;obtain ⟨cs,q1,q2⟩:=aY;simp only[al] at q2;obtain ⟨ad,q2⟩:=q2;exact ⟨ad,0,by simpa[bE,I.isAgg,q2] using q1.symm⟩
 ·cases hwp
theorem Wl{dr:Bool}{K:ai→Prop}{dst:Option Nat}{rest:List aI}{a:Act}{w:World}{Kw:Act→World→Prop}{Q:Exit→Act→World→Prop}{esz:Nat}{x y:aO}(hop:dc c.P o=some (.kQ esz x y))(af:o.dst=dst)(hdn:∀ k,dst=some k→k<c.n)
  (hwp:aQ c.P c.Y dr K (bl A dst (.kQ esz x y) rest (aB rest))) (hsim:b6 c A a w) (hK:∀ B a' w',aQ c.P c.Y dr K (aB rest B)→b6 c B a' w'→Kw a' w'):o.wpIn c.bC 9 c.P a w Kw Q:=by
 have hop0:=hop;simp only[bl] at hwp;unfold dc at hop;split at hop <;>try (first | (simp at hop;done) | ((repeat' split at hop) <;>simp at hop;done))
 rename_i args tys ho;split at hop
 case h_2=>cases hop
 rename_i u v t t' ha ht;split at hop
 case h_2=>cases hop
 rename_i e' x' y' k1 k2 k3;split at hop
 case isFalse=>cases hop
 rename_i hk;simp only[v6,bT.kQ.injEq] at hop;obtain ⟨rfl,rfl,rfl⟩:=hop;obtain ⟨rfl,hinfo⟩:=hk;have ha':args = #[u,v]:=by apply Array.ext';simpa using ha
 have ht':tys = #[t,t]:=by apply Array.ext';simpa using ht
 subst ha' ht';unfold sJ at hwp;split at hwp
 ·rename_i n p sz lo l ys hv hsx;split at hwp
  case h_2=>cases hwp
  rename_i b hn;split at hwp
  case h_2=>cases hwp
  rename_i fs hat;split at hwp
  case isFalse=>cases hwp
  rename_i hok;obtain ⟨rfl,hsh⟩:=hok;exact (MP ho k1 hinfo k2 k3 hv hn hat hsx rfl hsh (by rw[af];exact hdn)).wp hop0 hsim (fun a' w' ab=>by rw[af] at ab;exact hK _ a' w' hwp ab)
 ·cases hwp
theorem sV{dr:Bool}{K:ai→Prop}{op:bT}{dst:Option Nat}{rest:List aI}{a:Act}{w:World}{Kw:Act→World→Prop}{Q:Exit→Act→World→Prop}(hop:dc c.P o=some op)(af:o.dst=dst)(hdn:∀ k,dst=some k→k<c.n)
  (hwp:aQ c.P c.Y dr K (bl A dst op rest (aB rest))) (hsim:b6 c A a w) (hK:∀ B a' w',aQ c.P c.Y dr K (aB rest B)→b6 c B a' w'→Kw a' w'):o.wpIn c.bC 9 c.P a w Kw Q:=by
 cases op with
 |alloc z=>exact We hop af hdn hwp hsim hK
 |box x=>exact Wh hop af hdn hwp hsim hK
 |bg s x v=>exact Wt hop af hdn hwp hsim hK
 |call f args=>exact Wi hop af hdn hwp hsim hK
 |j7 f args=>exact Wu hop af hdn hwp hsim hK
 |iI=>exact Wn hop af hdn hwp hsim hK
 |kp e bytes z n=>exact Wo hop af hdn hwp hsim hK
 |eS ty m k v=>exact Wp hop af hdn hwp hsim hK
 |iH ty m k=>exact Wm hop af hdn hwp hsim hK
 |jl x=>exact Ws hop af hdn hwp hsim hK
 |gZ x=>exact Wr hop af hdn hwp hsim hK
 |fA x args=>exact Wj hop af hdn hwp hsim hK
 |nilS neg x=>exact Wq hop af hdn hwp hsim hK
 |dm e esz bytes z s x=>exact Wf hop af hdn hwp hsim hK
 |lI e esz bytes z s n=>exact Wg hop af hdn hwp hsim hK
 |jw esz z x=>exact Wk hop af hdn hwp hsim hK
 |kQ esz x y=>exact Wl hop af hdn hwp hsim hK
 |_=>exact B4 hop af hdn hsim hK (by simpa only[bl] using hwp)
theorem sZ{j t:Nat}{aW:Array Oper}{a:Act}{w:World}{b b':Bool}(ab:b6 c A a w)(hg:o.guard=some (j,b))(ht:(aW[j]?).bind (·.dst)=some t)(hv:A.t t=.bool b'):Region.wanted o (yielded aW a.tmps)=(b'==b):=by
 obtain ⟨D,E,ab⟩:=ab;have h:=ab.dP t;rw[hv] at h;have h:=ky h;have hy:yielded aW a.tmps j=some b':=by
  unfold yielded;rw[ht];simp only[Option.bind_some];simp only[Array.getD_eq_getD_getElem?] at h;cases bM:a.tmps[t]? with
  |none=>simp[bM,undef] at h
  |some v=>simp only[bM,Option.getD_some] at h;subst h;rfl
 unfold Region.wanted;rw[hg];simp only[hy];cases b <;>cases b' <;>rfl
theorem s7{j t:Nat}{aW:Array Oper}{a:Act}{w:World}{b:Bool}(ab:b6 c A a w)(hg:o.guard=some (j,b))(ht:(aW[j]?).bind (·.dst)=some t)(hv:A.t t=.undef):Region.wanted o (yielded aW a.tmps)=false:=by
 obtain ⟨D,E,ab⟩:=ab;have h:=ab.dP t;rw[hv] at h;simp only[bd] at h;have hy:yielded aW a.tmps j=none:=by
  unfold yielded;rw[ht];simp only[Option.bind_some];simp only[Array.getD_eq_getD_getElem?] at h;cases bM:a.tmps[t]? with
  |none=>rfl
  |some v=>simp only[bM,Option.getD_some] at h;subst h;rfl
 unfold Region.wanted;rw[hg];simp only[hy];rfl
theorem b6.mW{a:Act}{w:World}(h:b6 c A a w){d:Option Nat}(af:∀ k,d=some k→k<c.n):b6 c (A.aS d .undef) (a.put d undef) w:=by
 obtain ⟨D,E,h⟩:=h;exact ⟨D,E,h.aS af (by simp[bd])⟩
theorem sY{dr:Bool}{K:ai→Prop}{aW:Array Oper}{Q:Exit→Act→World→Prop}(hQ:∀ B a w,K B→b6 c B a w→Q .normal a w):∀ (l:List Oper) (gs:List aI) (A:ai) (a:Act) (w:World),fM c.P c.n aW l=some gs→aQ c.P c.Y dr K (aB gs A) →
  b6 c A a w→wpListIn c.bC 9 c.P aW Q l a w
 | [],gs,A,a,w,hc,hwp,ab=>by
  simp only[fM,v6] at hc;subst hc;simp only[aB] at hwp;cases hwp with
  |done hk=>exact hQ A a w hk ab
 |o::l,gs,A,a,w,hc,hwp,ab=>by
  simp only[fM] at hc;split at hc
  case h_2=>cases hc
  rename_i g gs' hg hgs;simp only[v6] at hc;subst hc;obtain ⟨J,U,ah,ar⟩:=nA hg;have step:aQ c.P c.Y dr K (bl A g.dst g.op gs' (aB gs'))→o.wpIn c.bC 9 c.P a w (wpListIn c.bC 9 c.P aW Q l) Q:=fun h =>
   sV J U.symm (by rw[U];exact ah) h ab (fun B a' w' hw hs'=>sY hQ l gs' B a' w' hgs hw hs')
  simp only[wpListIn];simp only[aB] at hwp;rcases ar with ⟨h5,h6⟩ | ⟨j,b,t,h5,h6,h7⟩
  ·rw[h6] at hwp;have hw:Region.wanted o (yielded aW a.tmps)=true:=by simp[Region.wanted,h5]
   rw[hw,if_pos rfl];exact step hwp
  ·rw[h7] at hwp;simp only at hwp;split at hwp
   ·rename_i b' hb';rw[sZ ab h5 h6 hb'];split at hwp
    ·rename_i hbb;subst hbb;simp only[BEq.rfl,if_true];exact step hwp
    ·rename_i hbb;have:(b'==b)=false:=by simpa using hbb
     rw[this];simp only[zz2,if_false];exact ⟨fun f _=>lP c f,sY hQ l gs' _ _ w hgs hwp (by rw[U];exact ab.mW ah)⟩
   ·rename_i hb';rw[s7 ab h5 h6 hb'];simp only[zz2,if_false];exact ⟨fun f _=>lP c f,sY hQ l gs' _ _ w hgs hwp (by rw[U];exact ab.mW ah)⟩
   ·cases hwp
end
def aO.sl:aO→List Nat
 | .t n=>[n]
 | .c _=>[]
def tu:Option aO→List Nat
 |some x=>x.sl
 |none=>[]
def jJ(l:List aO):List Nat:=l.flatMap aO.sl
def bT.c8:bT→List Nat
 | .mv x=>x.sl
 | .pick c a b=>c.sl++(a.sl++b.sl)
 | .bin _ x y=>x.sl++y.sl
 | .eqv _ _ x y=>x.sl++y.sl
 | .nilS _ x=>x.sl
 | .conv _ x=>x.sl
 | .un _ x=>x.sl
 | .ld _ x=>x.sl
 | .fa _ _ x=>x.sl
 | .fl _ _ _ x=>x.sl
 | .ia _ _ x i=>x.sl++i.sl
 | .is _ x i=>x.sl++i.sl
 | .ix _ _ _ x i=>x.sl++i.sl
 | .len x=>x.sl
 | .lenT x=>x.sl
 | .va _ _ x=>x.sl
 | .sl _ x lo hi mx=>x.sl++(tu lo++(tu hi++tu mx))
 | .bld _ ps=>jJ (ps.map (·.2))
 | .bs _ _ ps=>jJ ps
 | .ext x _=>x.sl
 | .mk _ caps=>jJ caps
 | .alloc _=>[]
 | .box x=>x.sl
 | .bg _ x v=>x.sl++v.sl
 | .dm _ _ _ _ s x=>s.sl++x.sl
 | .lI _ _ _ _ s x=>s.sl++x.sl
 | .cap x=>x.sl
 | .bs0 _=>[]
 | .jw _ _ x=>x.sl
 | .kQ _ x y=>x.sl++y.sl
 | .call _ args=>jJ args
 | .fA x args=>x.sl++jJ args
 | .j7 _ args=>jJ args
 | .nilC x=>x.sl
 | .ptrE _ x y=>x.sl++y.sl
 | .max2 x y=>x.sl++y.sl
 | .kp _ _ _ n=>n.sl
 | .iI=>[]
 | .lk _ _ _ m k=>m.sl++k.sl
 | .eS _ m k v=>m.sl++(k.sl++v.sl)
 | .iH _ m k=>m.sl++k.sl
 | .jl x=>x.sl
 | .gZ x=>x.sl
 | .ent x=>x.sl
def aI.c8(g:aI):List Nat:=g.op.c8++(match g.guard with | some (t,_)=>[t] | none=>[])
def bT.gF:bT→Nat
 | .mv _ | .pick .. | .bin .. | .eqv .. | .nilS .. | .conv .. | .un .. | .fl .. | .ix .. | .lenT _ | .bld .. | .ext .. | .mk .. | .nilC _ | .ptrE .. | .max2 .. =>0
 | .ld .. | .fa .. | .ia .. | .is .. | .len _ | .va .. | .bs .. | .sl .. | .cap _ | .bs0 _ | .lk .. | .ent _=>1
 | .call .. | .fA .. =>2
 | .alloc _ | .box _=>3
 | .bg .. =>4
 | .dm .. | .lI .. | .jw .. | .kQ .. | .j7 .. | .kp .. | .iI | .eS .. | .iH .. | .jl _ | .gZ _=>5
def vk(a b:Nat):Bool:=(decide (a≤2)&&decide (b≤3))||(a==0&&b==4)
def mL(g h:aI):Bool:=vk g.op.gF h.op.gF&&(match g.dst with
  |some d => !h.c8.contains d&&h.dst != some d
  |none=>true)&&(match h.dst with
  |some d => !g.c8.contains d
  |none=>true)
def ef(A A':ai)(l:List Nat):Prop:=∀ k∈l,A'.t k=A.t k
section
variable {A A':ai}
theorem da{x:aO}(h:ef A A' x.sl):ak A' x=ak A x:=by
 cases x with
 |t n=>exact h n (by simp[aO.sl])
 |c x=>rfl
theorem ef.l{l m:List Nat}(h:ef A A' (l++m)):ef A A' l:=fun k hk=>h k (List.mem_append_left _ hk)
theorem ef.r{l m:List Nat}(h:ef A A' (l++m)):ef A A' m:=fun k hk=>h k (List.mem_append_right _ hk)
theorem lM:∀ {l:List aO},ef A A' (jJ l)→l.map (ak A')=l.map (ak A)
 | [],_=>rfl
 |x::l,h=>by
  simp only[jJ,List.flatMap_cons] at h;simp only[zz3,da h.l,lM (l:=l) h.r]
theorem oY{x:Option aO}(h:ef A A' (tu x)):x.map (ak A')=x.map (ak A):=by
 cases x with
 |none=>rfl
 |some x=>simp only[zz9,da (x:=x) h]
theorem Bf:∀ {l:List (Nat×aO)},ef A A' (jJ (l.map (·.2)))→(l.map fun p=>(p.1,ak A' p.2))=l.map fun p=>(p.1,ak A p.2)
 | [],_=>rfl
 |x::l,h=>by
  simp only[jJ,zz3,List.flatMap_cons] at h;simp only[zz3,da h.l,Bf (l:=l) h.r]
theorem qY{f g:I→Option I}(h:∀ x v,f x=some v→g x=some v):∀ {xs vs:List I},fP f xs=some vs→fP g xs=some vs
 | [],vs,hx=>by simpa only[fP] using hx
 |x::xs,vs,hx=>by
  simp only[fP] at hx ⊢;cases J:f x with
  |none=>rw[J] at hx;cases hx
  |some y=>cases U:fP f xs with
   |none=>rw[J,U] at hx;cases hx
   |some ys=>rw[J,U] at hx;rw[h x y J,qY h U];exact hx
theorem vM(hu:ev A A'):∀ (k:Nat) (x v:I),cX A k x=some v→cX A' k x=some v
 |0,_,_,h=>by simp[cX] at h
 |k+1,x,v,h=>by
  have ih:=vM hu k;simp only[cX] at h ⊢;split at h
  ·rename_i hc;rw[if_pos hc];exact h
  ·rename_i hc;rw[if_neg hc];cases x <;>simp only[] at h ⊢ <;>try (cases h;done)
   case agg fs =>
    simp only[t7] at h ⊢;obtain ⟨a,J,U⟩:=h;exact ⟨a,qY ih J,U⟩
   case func f fs =>
    split at h
    case isFalse hf=>rw[if_neg hf];exact h
    rename_i hf;rw[if_pos hf];simp only[t7] at h ⊢;obtain ⟨a,J,U⟩:=h;exact ⟨a,qY ih J,U⟩
   case ptr n p =>
    cases af:cK A (.ptr n p) with
    |none=>rw[af] at h;cases h
    |some y =>
     rw[af] at h;rw[jx hu af];simp only[t7] at h ⊢;obtain ⟨a,J,U⟩:=h;exact ⟨a,ih _ _ J,U⟩
   case view n p sz lo l =>
    cases af:cK A (.ptr n p) with
    |none=>rw[af] at h;cases h
    |some y=>rw[af] at h;rw[jx hu af];exact h
   case mref n =>
    cases ho:A.o n with
    |none=>rw[ho] at h;cases h
    |some y =>
     rw[ho] at h;rw[hu n y ho];cases y <;>try (cases h;done)
     simp only at h ⊢;split at h
     ·rename_i hk;rw[if_pos hk];simp only[t7] at h ⊢;obtain ⟨a,J,U⟩:=h;exact ⟨a,qY ih J,U⟩
     ·cases h
   case own n l =>
    cases ho:A.o n with
    |none=>rw[ho] at h;cases h
    |some y=>rw[ho] at h;rw[hu n y ho];exact h
mutual
theorem Bt(hu:ev A A'){aL:Bool} : ∀ {x v:I},bj aL A x=some v→bj aL A' x=some v
 | .ptr n p,v,h=>by
  simp only[bj] at h ⊢;cases aL <;>simp only[zz2,if_false,if_true] at h ⊢
  ·exact h
  ·cases af:cK A (.ptr n p) with
   |none=>rw[af] at h;cases h
   |some y =>
    rw[af] at h;rw[jx hu af];simp only at h ⊢;split at h
    ·rename_i hc;rw[if_pos hc];exact h
    ·rename_i hc;rw[if_neg hc];simp only[t7] at h ⊢;obtain ⟨a,J,U⟩:=h;exact ⟨a,vM hu 9 _ _ J,U⟩
 | .mref n,v,h=>by
  simp only[bj] at h ⊢;cases aL <;>simp only[zz2,if_false,if_true] at h ⊢
  ·exact h
  ·cases ho:A.o n with
   |none=>rw[ho] at h;cases h
   |some y =>
    rw[ho] at h;rw[hu n y ho];cases y <;>try (cases h;done)
    simp only at h ⊢;split at h
    ·rename_i hk;rw[if_pos hk];simp only[t7] at h ⊢;obtain ⟨a,J,U⟩:=h;exact ⟨a,qY (vM hu 9) J,U⟩
    ·cases h
 | .dj _,_,h=>by simp[bj] at h
 | .df _ _,_,h=>by simpa only[bj] using h
 | .own n k,v,h=>by
  simp only[bj] at h ⊢;cases ho:A.o n with
  |none=>rw[ho] at h;cases h
  |some y=>rw[ho] at h;rw[hu n y ho];exact h
 | .view n p sz lo k,v,h=>by
  simp only[bj] at h ⊢;cases aL <;>simp only[zz2,if_false,if_true] at h ⊢
  ·exact h
  ·cases af:cK A (.ptr n p) with
   |none=>rw[af] at h;cases h
   |some y=>rw[af] at h;rw[jx hu af];exact h
 | .func f caps,v,h=>by
  simp only[bj] at h ⊢;split at h
  case isFalse hf=>rw[if_neg hf];exact h
  rename_i hf;rw[if_pos hf];simp only[t7] at h ⊢;obtain ⟨a,J,U⟩:=h;exact ⟨a,kV hu J,U⟩
 | .agg fs,v,h=>by
  simp only[bj,t7] at h ⊢;obtain ⟨a,J,U⟩:=h;exact ⟨a,kV hu J,U⟩
 | .nils _,_,h | .c0 _,_,h | .tuple _,_,h | .undef,_,h | .du,_,h | .bool _,_,h | .int _ _,_,h | .bQ _,_,h | .nilp,_,h | .dy,_,h | .dW,_,h | .any,_,h | .raw _,_,h | .slice _ _,_,h | .ref _,_,h | .iface _ _,_,h=>by simpa only[bj] using h
theorem kV(hu:ev A A'){aL:Bool} : ∀ {xs vs:List I},bY aL A xs=some vs→bY aL A' xs=some vs
 | [],vs,h=>by simpa only[bY] using h
 |x::xs,vs,h=>by
  simp only[bY] at h ⊢;cases J:bj aL A x with
  |none=>rw[J] at h;cases h
  |some y=>cases U:bY aL A xs with
   |none=>rw[J,U] at h;cases h
   |some ys=>rw[J,U] at h;rw[Bt hu J,kV hu U];exact h
end
theorem xj{op:bT}(hc:op.gF=0)(h:ef A A' op.c8):bn A' op=bn A op:=by
 cases op <;>simp only[bT.gF] at hc <;>try (cases hc;done)
 all_goals simp only[bT.c8] at h
 case mv x=>simp only[bn,da h]
 case pick c a b=>simp only[bn,da h.l,da h.r.l,da h.r.r]
 case bin _ x y=>simp only[bn,da h.l,da h.r]
 case eqv _ _ x y=>simp only[bn,da h.l,da h.r]
 case nilS x=>simp only[bn,da h]
 case conv x=>simp only[bn,da h]
 case un x=>simp only[bn,da h]
 case fl x=>simp only[bn,da h]
 case ix x i=>simp only[bn,da h.l,da h.r]
 case lenT x=>simp only[bn,da h]
 case bld zs ps=>simp only[bn,Bf h]
 case ext x i=>simp only[bn,da h]
 case mk f caps=>simp only[bn,lM h]
 case nilC x=>simp only[bn,da h]
 case ptrE neg x y=>simp only[bn,da h.l,da h.r]
 case max2 x y=>simp only[bn,da h.l,da h.r]
theorem XP(hu:ev A A'){m:I}{q:List I×List I}(h:gb A m=some q):gb A' m=some q:=by
 cases m with
 |mref n =>
  simp only[gb] at h ⊢;cases af:A.o n with
  |none=>simp only[af] at h;cases h
  |some y=>simp only[af] at h;simp only[hu n y af];exact h
 |raw v=>cases v <;>first | (cases h;done) | (rename_i m;cases m <;>first | exact h | cases h)
 |df ks vs=>exact h
 |_=>simp only[gb] at h;cases h
theorem DC{op:bT}(hu:ev A A')(h:ef A A' op.c8){v:I}(hv:bn A op=some v):bn A' op=some v:=by
 by_cases hc:op.gF=0
 ·rw[xj hc h];exact hv
 cases op <;>try (exact absurd rfl hc)
 all_goals simp only[bT.c8] at h
 case ld s x =>
  simp only[bn,da h] at hv ⊢;cases af:cK A (ak A x) with
  |none=>rw[af] at hv;cases hv
  |some y=>rw[af] at hv;rw[jx hu af];exact hv
 case fa f off x =>
  simp only[bn,da h] at hv ⊢;generalize ak A x=z at *;cases z <;>try (first | exact hv | (rename_i y;cases y <;>exact hv))
  rename_i n p;cases af:cK A (.ptr n p) with
  |none=>simp only[af] at hv;cases hv
  |some y=>simp only[af] at hv;simp only[jx hu af];exact hv
 case ia n esz x i =>
  simp only[bn,da h.l,da h.r] at hv ⊢;generalize ak A x=z at *;cases z <;>try (first | exact hv | (rename_i y;cases y <;>exact hv))
  rename_i n p;cases af:cK A (.ptr n p) with
  |none=>simp only[af] at hv;(repeat' split at hv) <;>cases hv
  |some y=>simp only[af] at hv;simp only[jx hu af];exact hv
 case is esz x i =>
  simp only[bn,da h.l,da h.r] at hv ⊢;generalize ak A i=q at *;cases q <;>try (exact hv)
  simp only at hv ⊢;generalize ak A x=z at *;cases z <;>try (first | exact hv | (rename_i y;cases y <;>exact hv))
  ·rename_i n p;cases af:A.o n with
   |none=>simp only[af] at hv;cases hv
   |some y=>simp only[af] at hv;simp only[hu n y af];exact hv
  ·rename_i n p sz lo k;simp only at hv ⊢;cases af:cK A (.ptr n p) with
   |none=>simp only[af] at hv;cases hv
   |some y=>simp only[af] at hv;simp only[jx hu af];exact hv
 case len x =>
  simp only[bn,da h] at hv ⊢;generalize ak A x=z at *;cases z <;>try (first | exact hv | (rename_i y;cases y <;>exact hv))
  rename_i n p;cases af:A.o n with
  |none=>simp only[af] at hv;cases hv
  |some y=>simp only[af] at hv;simp only[hu n y af];exact hv
 case cap x =>
  simp only[bn,da h] at hv ⊢;generalize ak A x=z at *;cases z <;>try (first | exact hv | (rename_i y;cases y <;>exact hv))
  rename_i n p sz lo k;simp only at hv ⊢;cases af:cK A (.ptr n p) with
  |none=>simp only[af] at hv;cases hv
  |some y=>simp only[af] at hv;simp only[jx hu af];exact hv
 case bs0 esz=>exact hv
 case sl esz x lo hi mx =>
  simp only[bn,da h.l,oY h.r.l,oY h.r.r.l,oY h.r.r.r] at hv ⊢;generalize ak A x=z at *;cases z <;>try (first | exact hv | (rename_i y;cases y <;>exact hv))
  rename_i n p sz l0 k;simp only at hv ⊢;cases af:cK A (.ptr n p) with
  |none=>simp only[af] at hv;cases hv
  |some y=>simp only[af] at hv;simp only[jx hu af];exact hv
 case va n esz x =>
  simp only[bn,da h] at hv ⊢;generalize ak A x=z at *;cases z <;>try (first | exact hv | (rename_i y;cases y <;>exact hv))
  rename_i n p;cases af:cK A (.ptr n p) with
  |none=>simp only[af] at hv;cases hv
  |some y=>simp only[af] at hv;simp only[jx hu af];exact hv
 case lk ty z ok m k =>
  simp only[bn,da h.l,da h.r] at hv ⊢;cases af:gb A (ak A m) with
  |none=>rw[af] at hv;cases hv
  |some y=>rw[af] at hv;rw[XP hu af];exact hv
 case ent x =>
  simp only[bn,da h] at hv ⊢;generalize ak A x=z at *;cases z <;>try (exact hv)
  rename_i n;simp only at hv ⊢;cases af:A.o n with
  |none=>simp only[af] at hv;cases hv
  |some y=>simp only[af] at hv;simp only[hu n y af];exact hv
 case bs esz ps =>
  simp only[bn,lM h] at hv ⊢;cases af:bY false A (ps.map (ak A)) with
  |none=>rw[af] at hv;cases hv
  |some y=>rw[af] at hv;rw[kV hu af];exact hv
 all_goals (simp only[bn] at hv;cases hv)
end
def pass(A:ai)(g:aI):Prop:=match g.guard with | none=>True | some (t,b)=>A.t t=.bool b
def gA(A:ai)(g:aI):Prop:=match g.guard with | none=>False | some (t,b)=>A.t t=.bool (!b)∨A.t t=.undef
inductive jq (P:Program) (A:ai):bT→I→Prop where
 |pure {op:bT} {v:I} : bn A op=some v→jq P A op v
 |flat {f:FuncId} {args:List aO} {cargs:List I} {r:I} : bY true A (args.map (ak A))=some cargs→aZ P f cargs r→r.flat=true→jq P A (.call f args) r
 |lead {f:FuncId} {args:List aO} {cargs:List I} {r:I} : bY false A (args.map (ak A))=some cargs→aZ P f cargs r→jq P A (.call f args) r
 |ui {x:aO} {f:FuncId} {caps:List I} {args:List aO} {cargs:List I} {r:I} : ak A x=.func f caps→bY true A (ib f (args.map (ak A)) caps)=some cargs→aZ P (kU f) cargs r→r.flat=true→jq P A (.fA x args) r
 |uj {x:aO} {f:FuncId} {caps:List I} {args:List aO} {cargs:List I} {r:I} : ak A x=.func f caps→bY false A (ib f (args.map (ak A)) caps)=some cargs→aZ P (kU f) cargs r→jq P A (.fA x args) r
def sg(A:ai)(op:bT)(x:I):Prop:=op=.alloc x∨∃ y,op=.box y∧(ak A y).bS=true∧x=ak A y
def sh(A:ai)(op:bT)(n:Nat)(z:aq):Prop:=∃ s x v p b old,op=.bg s x v∧ak A x=.ptr n p∧A.o n=some (.box b)∧b.at p=some old∧w5 s (ak A v) old∧z=.box (b.ep p (ak A v))
def Hg(A:ai)(dst:Option Nat)(op:bT)(B:ai):Prop:=op.gF=5∧∀ (rest:List aI) (k:ai→cM),bl A dst op rest k=k B
theorem aax{A:ai}{neg:Bool}{x:aO}{v:I}(h:bn A (.nilS neg x)=some v):jL (ak A x)=false:=by
 simp only[bn] at h;generalize ak A x=q at *;cases q <;>simp only[jL] <;>simp only at h <;>try (cases h;done)
 rename_i sz es;cases es with
 |nil=>simp at h
 |cons=>rfl
inductive fj (P:Program) (g:aI) (A:ai):ai→Prop where
 |skip:gA A g→fj P g A (A.aS g.dst .undef)
 |val {v:I} : pass A g→jq P A g.op v→fj P g A (A.aS g.dst v)
 |jk {d:Nat} {x:I} : pass A g→g.dst=some d→sg A g.op x→A.o d=none→fj P g A ((A.aT d (.box x)).put d (.ptr d []))
 |bg {n:Nat} {z:aq} : pass A g→g.dst=none→sh A g.op n z→fj P g A (A.aT n z)
 |hE {B:ai} : pass A g→Hg A g.dst g.op B→fj P g A B
theorem uU{b' b:Bool}(h:b'≠b):b' = !b:=by cases b <;>cases b' <;>simp_all
section
variable {P:Program} {Y:Value→List I→List (Nat×aq)→cC→Prop} {K:ai→Prop}
theorem fj.C5{A:ai}{g:aI}{rest:List aI}(hp:pass A g)(h:aQ P Y true K (bl A g.dst g.op rest (aB rest))):∃ B,fj P g A B∧aQ P Y true K (aB rest B):=by
 have pure:aQ P Y true K (cS (bn A g.op) fun v=>aB rest (A.aS g.dst v))→∃ B,fj P g A B∧aQ P Y true K (aB rest B):=by
  intro h;cases hv:bn A g.op with
  |none=>rw[hv] at h;cases h
  |some v=>rw[hv] at h;exact ⟨_,.val hp (.pure hv),h⟩
 obtain ⟨dst,op,gd⟩:=g;cases op with
 |alloc z =>
  simp only[bl] at h;split at h
  case h_2=>cases h
  split at h
  case h_2=>cases h
  rename_i af _ ho;exact ⟨_,.jk hp rfl (.inl rfl) ho,h⟩
 |box x =>
  simp only[bl] at h;split at h
  case h_2=>cases h
  split at h
  case h_2=>cases h
  rename_i af _ ho;split at h
  case isFalse=>cases h
  rename_i hv;exact ⟨_,.jk hp rfl (.inr ⟨x,rfl,hv,rfl⟩) ho,h⟩
 |bg s x v =>
  simp only[bl] at h;split at h
  case h_2=>cases h
  split at h
  case h_2=>cases h
  rename_i n p hx;split at h
  case h_2=>cases h
  rename_i b hb;split at h
  case h_2=>cases h
  rename_i old hat;split at h
  case isFalse=>cases h
  rename_i hok;exact ⟨_,.bg hp rfl ⟨s,x,v,p,b,old,rfl,hx,hb,hat,hok,rfl⟩,h⟩
 |nilS neg x =>
  simp only[bl] at h;split at h
  ·cases h with | any hdr=>cases hdr
  ·exact pure h
 |dm e esz bytes z s x =>
  simp only[bl] at h;split at h
  ·rename_i n l hs';split at h
   case h_2=>cases h
   rename_i sz ys hx';split at h
   case h_3=>cases h
   case h_2 =>
    rename_i T xs hn;split at h
    case isFalse=>cases h
    rename_i hok;exact ⟨_,.hE hp ⟨rfl,fun rest k=>by simp only[bl,hs',hx',hn,if_pos hok]⟩,h⟩
   rename_i T sz' es hn;split at h
   case isFalse=>cases h
   rename_i hok;exact ⟨_,.hE hp ⟨rfl,fun rest k=>by simp only[bl,hs',hx',hn,if_pos hok]⟩,h⟩
  ·rename_i hno;have hg:∀ (rest:List aI) (k:ai→cM),bl A dst (.dm e esz bytes z s x) rest k=eY A dst esz bytes z (ak A s) (eH A esz (ak A s)) (eH A esz (ak A x)) k:=fun rest k=>by
    simp only[bl]
   simp only[eY] at h hg;split at h
   case h_2=>cases h
   rename_i es ys hse hsx;simp only[hse,hsx] at hg;have grow:¬ aQ P Y true K (fX A dst esz bytes z es ys (aB rest)):=fun h=>by
    simp only[fX] at h;split at h
    case h_2=>cases h
    split at h
    case h_2=>cases h
    split at h
    case isFalse=>cases h
    cases h with | any hdr=>cases hdr
   split at h
   ·rename_i hne;simp only[if_pos hne] at hg;exact ⟨_,.hE hp ⟨rfl,hg⟩,h⟩
   ·rename_i hne;simp only[if_neg hne] at hg;split at h
    ·exact absurd h grow
    ·exact absurd h grow
    ·rename_i n p sz lo l hsv;split at h
     case h_2=>cases h
     rename_i b hn;split at h
     case h_2=>cases h
     rename_i fs hat;split at h
     ·rename_i hroom;split at h
      case isFalse=>cases h
      rename_i hok;simp only[hsv,hn,hat,if_pos hroom,if_pos hok] at hg;exact ⟨_,.hE hp ⟨rfl,hg⟩,h⟩
     ·exact absurd h grow
    ·cases h
 |j7 f args =>
  simp only[bl] at h;cases h with | ext r hdr=>cases hdr
 |lI e esz bytes z s n =>
  exfalso
  simp only[bl] at h;split at h
  case h_2=>cases h
  simp only[uO] at h;split at h
  case h_2=>cases h
  split at h
  case h_2=>cases h
  split at h
  case h_2=>cases h
  split at h
  case h_2=>cases h
  split at h
  case isFalse=>cases h
  simp only[fX] at h;split at h
  case h_2=>cases h
  split at h
  case h_2=>cases h
  split at h
  case isFalse=>cases h
  cases h with | any hdr=>cases hdr
 |iI =>
  simp only[bl] at h;split at h
  case h_2=>cases h
  rename_i d;split at h
  case h_2=>cases h
  rename_i hf;exact ⟨_,.hE hp ⟨rfl,fun rest k=>by simp only[bl,hf]⟩,h⟩
 |kp e bytes z n =>
  simp only[bl] at h;split at h
  case h_2=>cases h
  rename_i d;split at h
  case h_2=>cases h
  rename_i hf;split at h
  case h_2=>cases h
  rename_i k m hn;split at h
  case isFalse=>cases h
  rename_i hc;exact ⟨_,.hE hp ⟨rfl,fun rest k=>by simp only[bl,hf,hn,if_pos hc]⟩,h⟩
 |eS ty m key v =>
  simp only[bl] at h;split at h
  case h_2=>cases h
  split at h
  case h_2=>cases h
  rename_i n hm;split at h
  case h_2=>cases h
  rename_i ks vs hn;split at h
  case h_2=>cases h
  rename_i ks' vs' ao;exact ⟨_,.hE hp ⟨rfl,fun rest k=>by simp only[bl,hm,hn,ao]⟩,h⟩
 |iH ty m key =>
  simp only[bl] at h;split at h
  case h_2=>cases h
  split at h
  case h_2=>cases h
  rename_i n hm;split at h
  case h_2=>cases h
  rename_i ks vs hn;split at h
  case h_2=>cases h
  rename_i ks' vs' ao;exact ⟨_,.hE hp ⟨rfl,fun rest k=>by simp only[bl,hm,hn,ao]⟩,h⟩
 |jl x =>
  simp only[bl] at h;split at h
  case h_2=>cases h
  rename_i d;split at h
  case h_2=>cases h
  rename_i hf;split at h
  case h_2=>cases h
  rename_i ks vs hx;exact ⟨_,.hE hp ⟨rfl,fun rest k=>by simp only[bl,hf,hx]⟩,h⟩
 |gZ x =>
  simp only[bl] at h;split at h
  case h_2=>cases h
  rename_i n hx;split at h
  case h_2=>cases h
  rename_i ks vs left cur hn;split at h
  ·rename_i ao;exact ⟨_,.hE hp ⟨rfl,fun rest k=>by simp only[bl,hx,hn,if_pos ao]⟩,h⟩
  ·cases h with | any hdr=>cases hdr
 |jw esz z x =>
  simp only[bl] at h;split at h
  case h_2=>cases h
  have hg:∀ (rest:List aI) (k:ai→cM),bl A none (.jw esz z x) rest k=mI A esz z k (ak A x):=fun rest k=>rfl;simp only[mI] at h hg;split at h
  ·rename_i n p sz lo l hv;split at h
   case h_2=>cases h
   rename_i b hn;split at h
   case h_2=>cases h
   rename_i fs hat;split at h
   case isFalse=>cases h
   rename_i hok;simp only[hv,hn,hat,if_pos hok] at hg;exact ⟨_,.hE hp ⟨rfl,hg⟩,h⟩
  ·rename_i z0 hv;simp only[hv] at hg;exact ⟨_,.hE hp ⟨rfl,hg⟩,h⟩
  ·rename_i z0 hv;simp only[hv] at hg;exact ⟨_,.hE hp ⟨rfl,hg⟩,h⟩
  ·cases h
 |kQ esz x y =>
  have hg:∀ (rest:List aI) (k:ai→cM),bl A dst (.kQ esz x y) rest k=sJ A dst esz k (ak A x) (eH A esz (ak A y)):=fun rest k=>rfl;simp only[bl] at h;simp only[sJ] at h hg;split at h
  ·rename_i n p sz lo l ys hv hsx;split at h
   case h_2=>cases h
   rename_i b hn;split at h
   case h_2=>cases h
   rename_i fs hat;split at h
   case isFalse=>cases h
   rename_i hok;simp only[hv,hsx,hn,hat,if_pos hok] at hg;exact ⟨_,.hE hp ⟨rfl,hg⟩,h⟩
  ·cases h
 |call f args =>
  simp only[bl] at h;generalize J:bY true A (args.map (ak A))=a1 at h;generalize U:bY false A (args.map (ak A))=a2 at h;cases h with
  |flat r hc hf hw=>exact ⟨_,.val hp (.flat J hc hf),hw⟩
  |lead r hc hw=>exact ⟨_,.val hp (.lead U hc),hw⟩
  |jh ns r hdr=>cases hdr
  |bP aL ρ os cargs post hdr=>cases hdr
 |fA x args =>
  simp only[bl] at h;split at h
  case h_3=>cases h
  case h_2=>cases h with | um os cargs post hdr=>cases hdr
  rename_i f caps hx;generalize J:bY true A (ib f (args.map (ak A)) caps)=a1 at h;generalize U:bY false A (ib f (args.map (ak A)) caps)=a2 at h;cases h with
  |flat r hc hf hw=>exact ⟨_,.val hp (.ui hx J hc hf),hw⟩
  |lead r hc hw=>exact ⟨_,.val hp (.uj hx U hc),hw⟩
  |jh ns r hdr=>cases hdr
  |bP aL ρ os cargs post hdr=>cases hdr
 |_=>exact pure (by simpa only[bl] using h)
theorem fj.wZ{A:ai}{g:aI}{rest:List aI}(h:aQ P Y true K (aB (g::rest) A)):∃ B,fj P g A B∧aQ P Y true K (aB rest B):=by
 simp only[aB] at h;split at h
 ·rename_i hg;exact fj.C5 (by simp only[pass,hg]) h
 ·rename_i t b hg;split at h
  ·rename_i b' hb;split at h
   ·rename_i hbb;subst hbb;exact fj.C5 (by simp only[pass,hg];exact hb) h
   ·rename_i hbb;refine ⟨_,.skip (by simp only[gA,hg];exact .inl (by rw[hb,uU hbb])),h⟩
  ·rename_i hb;exact ⟨_,.skip (by simp only[gA,hg];exact .inr hb),h⟩
  ·cases h
theorem nw{A:ai}{g:aI}{rest:List aI}(hp:pass A g):aB (g::rest) A=bl A g.dst g.op rest (aB rest):=by
 simp only[aB];cases hg:g.guard with
 |none=>rfl
 |some tb =>
  obtain ⟨t,b⟩:=tb;simp only[pass,hg] at hp;simp only[hp,if_true]
theorem fj.x3{A B:ai}{g:aI}{rest:List aI}(h:fj P g A B)(hw:aQ P Y true K (aB rest B)):aQ P Y true K (aB (g::rest) A):=by
 cases h with
 |skip hn =>
  simp only[aB];cases hg:g.guard with
  |none=>simp only[gA,hg] at hn
  |some tb =>
   obtain ⟨t,b⟩:=tb;simp only[gA,hg] at hn;rcases hn with hn | hn
   ·simp only[hn];rw[if_neg (by cases b <;>simp)];exact hw
   ·simp only[hn];exact hw
 |val hp hv =>
  rw[nw hp];obtain ⟨dst,op,gd⟩:=g;cases hv with
  |pure hv =>
   have hv':bn A op=some _:=hv;cases op <;>try (simp only[bl,hv',cS] <;>first | exact hw | (simp only[bn] at hv';cases hv');done)
   all_goals first
    |(simp only[bn] at hv';cases hv';done)
    |(simp only[bl,aax hv',zz2,if_false,hv',cS];exact hw)
  |flat J U ah=>simp only[bl,J];exact .flat _ U ah hw
  |lead J U=>simp only[bl,J];exact .lead _ U hw
  |ui aY J U ah=>simp only[bl,aY,J];exact .flat _ U ah hw
  |uj aY J U=>simp only[bl,aY,J];exact .lead _ U hw
 |jk hp af hm ho =>
  rw[nw hp];obtain ⟨dst,op,gd⟩:=g;simp only at af;subst af;rcases hm with hm | ⟨y,hm,hv,rfl⟩ <;>simp only at hm <;>subst hm
  ·simp only[bl,ho];exact hw
  ·simp only[bl,ho,hv,if_true];exact hw
 |bg hp af hm =>
  rw[nw hp];obtain ⟨dst,op,gd⟩:=g;simp only at af;subst af;obtain ⟨s,x,v,p,b,old,J,U,ah,ar,h5,rfl⟩:=hm;simp only at J;subst J;simp only[bl,U,ah,ar,if_pos h5];exact hw
 |hE hp hm =>
  rw[nw hp,hm.2];exact hw
theorem jq.cU{A A':ai}{op:bT}{v:I}(h:jq P A op v)(hu:ev A A')(ha:ef A A' op.c8):jq P A' op v:=by
 cases h with
 |pure h=>exact .pure (DC hu ha h)
 |flat J U ah=>exact .flat (by rw[lM ha];exact kV hu J) U ah
 |lead J U=>exact .lead (by rw[lM ha];exact kV hu J) U
 |ui aY J U ah=>simp only[bT.c8] at ha;exact .ui (by rw[da ha.l];exact aY) (by rw[lM ha.r];exact kV hu J) U ah
 |uj aY J U=>simp only[bT.c8] at ha;exact .uj (by rw[da ha.l];exact aY) (by rw[lM ha.r];exact kV hu J) U
theorem jq.jh{A A':ai}{op:bT}{v:I}(h:jq P A op v)(hc:op.gF=0)(ha:ef A A' op.c8):jq P A' op v:=by
 cases h with
 |pure h=>exact .pure (by rw[xj hc ha];exact h)
 |_=>simp[bT.gF] at hc
theorem mR{A A':ai}{g:aI}(ha:ef A A' g.c8)(h:pass A g):pass A' g:=by
 unfold pass at *;cases hg:g.guard with
 |none=>trivial
 |some tb=>simp only[hg] at h ⊢;rw[ha tb.1 (by simp[aI.c8,hg])];exact h
theorem pE{A A':ai}{g:aI}(ha:ef A A' g.c8)(h:gA A g):gA A' g:=by
 unfold gA at *;cases hg:g.guard with
 |none=>simp only[hg] at h
 |some tb=>simp only[hg] at h ⊢;rw[ha tb.1 (by simp[aI.c8,hg])];exact h
theorem aI.jW{A A':ai}{g:aI}(ha:ef A A' g.c8):ef A A' g.op.c8:=fun k hk=>ha k (List.mem_append_left _ hk)
def kG(P:Program)(g:aI)(A:ai)(v:I):Prop:=(gA A g∧v=.undef)∨(pass A g∧jq P A g.op v)
theorem kG.step{A:ai}{g:aI}{v:I}(h:kG P g A v):fj P g A (A.aS g.dst v):=by
 rcases h with ⟨h,rfl⟩ | ⟨h,k⟩
 ·exact .skip h
 ·exact .val h k
theorem kG.cU{A A':ai}{g:aI}{v:I}(h:kG P g A v)(hu:ev A A')(ha:ef A A' g.c8):kG P g A' v:=by
 rcases h with ⟨h,rfl⟩ | ⟨h,k⟩
 ·exact .inl ⟨pE ha h,rfl⟩
 ·exact .inr ⟨mR ha h,k.cU hu (aI.jW ha)⟩
theorem kG.jh{A A':ai}{g:aI}{v:I}(h:kG P g A v)(hc:g.op.gF=0)(ha:ef A A' g.c8):kG P g A' v:=by
 rcases h with ⟨h,rfl⟩ | ⟨h,k⟩
 ·exact .inl ⟨pE ha h,rfl⟩
 ·exact .inr ⟨mR ha h,k.jh hc (aI.jW ha)⟩
theorem fj.x1{A B:ai}{g:aI}(h:fj P g A B)(hc:g.op.gF≤2):∃ v,kG P g A v∧B=A.aS g.dst v:=by
 cases h with
 |skip h=>exact ⟨_,.inl ⟨h,rfl⟩,rfl⟩
 |val h k=>exact ⟨_,.inr ⟨h,k⟩,rfl⟩
 |jk J U ah ar=>rcases ah with ah | ⟨y,ah,_⟩ <;>(rw[ah] at hc;simp[bT.gF] at hc)
 |bg J U ah=>obtain ⟨s,x,v,p,b,old,ar,_⟩:=ah;rw[ar] at hc;simp[bT.gF] at hc
 |hE J ah=>rw[ah.1] at hc;omega
theorem pO{A:ai}{a b:Option Nat}{v u:I}(h:∀ d,a=some d→b≠some d):(A.aS a v).aS b u=(A.aS b u).aS a v:=by
 cases a with
 |none=>rfl
 |some d=>cases b with
  |none=>rfl
  |some e =>
   have hne:d≠e:=fun he=>h d rfl (by rw[he]);simp only[ai.aS,ai.put,ai.mk.injEq,and_true]
   funext k
   by_cases J:k=e <;>by_cases U:k=d <;>simp_all
theorem im{A:ai}{d:Option Nat}{v:I} : (A.aS d v).o=A.o:=by cases d <;>rfl
theorem l7{A:ai}{d:Option Nat}{v:I}{l:List Nat}(h:∀ k,d=some k→k∉l):ef A (A.aS d v) l:=by
 cases d with
 |none=>exact fun _ _=>rfl
 |some e =>
  intro k hk;have:k≠e:=fun he=>h e rfl (he▸hk);simp[ai.aS,ai.put,this]
theorem ef.symm{A A':ai}{l:List Nat}(h:ef A A' l):ef A' A l:=fun k hk=>(h k hk).symm
theorem sg.same{A A':ai}{op:bT}{x:I}(h:sg A op x)(ha:ef A A' op.c8):sg A' op x:=by
 rcases h with h | ⟨y,J,U,ah⟩
 ·exact .inl h
 ·subst J;have:=da (x:=y) ha;exact .inr ⟨y,rfl,by rw[this];exact U,by rw[this];exact ah⟩
theorem sh.same{A A':ai}{op:bT}{n:Nat}{z:aq}(h:sh A op n z)(ho:A'.o=A.o)(ha:ef A A' op.c8):sh A' op n z:=by
 obtain ⟨s,x,v,p,b,old,J,U,ah,ar,h5,h6⟩:=h;subst J;simp only[bT.c8] at ha;have e1:=da ha.l;have e2:=da ha.r;exact ⟨s,x,v,p,b,old,rfl,by rw[e1];exact U,by rw[ho];exact ah,ar,by rw[e2];exact h5,by rw[e2];exact h6⟩
theorem Xe{g h:aI}(hi:mL g h=true):vk g.op.gF h.op.gF=true∧(∀ d,g.dst=some d→d∉h.c8)∧(∀ d,g.dst=some d→h.dst≠some d)∧(∀ d,h.dst=some d→d∉g.c8):=by
 simp only[mL,t8] at hi;obtain ⟨⟨J,U⟩,ah⟩:=hi;refine ⟨J,fun d af =>?_,fun d af =>?_,fun d af =>?_⟩
 ·rw[af] at U;simp at U;exact U.1
 ·rw[af] at U;simp at U;exact U.2
 ·rw[af] at ah;simpa using ah
theorem fj.rV{A B C:ai}{g h:aI}(hi:mL g h=true)(J:fj P g A B)(U:fj P h B C):∃ B',fj P h A B'∧fj P g B' C:=by
 obtain ⟨hc,i1,i2,i3⟩:=Xe hi;simp only[vk,Bool.or_eq_true,t8,decide_eq_true_eq,beq_iff_eq] at hc;have hg2:g.op.gF≤2:=by rcases hc with hc | hc <;>omega
 obtain ⟨v,hv,rfl⟩:=J.x1 hg2;have ag:ef (A.aS g.dst v) A h.c8:=(l7 i1).symm;have cU:ev (A.aS g.dst v) A:=fun n x hx=>by rwa [im] at hx
 cases U with
 |skip hn =>
  exact ⟨_,.skip (pE ag hn),by
   rw[pO i2];exact (hv.cU (by intro n x hx;rwa [im]) (l7 i3)).step⟩
 |val hp hu =>
  exact ⟨_,.val (mR ag hp) (hu.cU cU (aI.jW ag)),by
   rw[pO i2];exact (hv.cU (by intro n x hx;rwa [im]) (l7 i3)).step⟩
 |jk hp af hm ho =>
  rename_i d x;rw[im] at ho;refine ⟨_,.jk (mR ag hp) af (hm.same (aI.jW ag)) ho,?_⟩;have e:((A.aS g.dst v).aT d (.box x)).put d (.ptr d [])=((A.aT d (.box x)).put d (.ptr d [])).aS g.dst v:=by
   cases hgd:g.dst with
   |none=>rfl
   |some e =>
    have hne:e≠d:=fun he=>i2 e hgd (by rw[af,he]);simp only[ai.aS,ai.put,ai.aT,ai.mk.injEq,and_true]
    funext k
    by_cases J:k=e <;>by_cases U:k=d <;>simp_all
  rw[e];refine (hv.cU (fun n y hy =>?_) (fun k hk =>?_)).step
  ·have:n≠d:=fun he=>by rw[he,ho] at hy;cases hy
   simp only[ai.put,ai.aT,this,if_false];exact hy
  ·have:k≠d:=fun he=>i3 d af (he▸hk);simp only[ai.put,ai.aT,this,if_false]
 |bg hp af hm =>
  rename_i n z;have hc0:g.op.gF=0:=by
   obtain ⟨s,x,v,p,b,old,ar,_⟩:=hm;rcases hc with hc | hc
   ·rw[ar] at hc;exact absurd hc.2 (by simp[bT.gF])
   ·exact hc.1
  refine ⟨_,.bg (mR ag hp) af (hm.same im.symm (aI.jW ag)),?_⟩;have e:(A.aS g.dst v).aT n z=(A.aT n z).aS g.dst v:=by cases g.dst <;>rfl
  rw[e];exact (kG.jh (A':=A.aT n z) hv hc0 (fun _ _=>rfl)).step
 |hE hp hm =>
  exfalso
  rw[hm.1] at hc;omega
theorem aQ.rV{A:ai}{g h:aI}{rest:List aI}(hi:mL g h=true)(hw:aQ P Y true K (aB (g::h::rest) A)):aQ P Y true K (aB (h::g::rest) A):=by
 obtain ⟨B,J,U⟩:=fj.wZ hw;obtain ⟨C,ah,ar⟩:=fj.wZ U;obtain ⟨B',h5,h6⟩:=fj.rV hi J ah;exact h5.x3 (h6.x3 ar)
theorem aQ.nz{g:aI} : ∀ {l:List aI} {r:List aI} {A:ai},(∀ j∈l,mL j g=true)→aQ P Y true K (aB (l++g::r) A)→aQ P Y true K (aB (g::(l++r)) A)
 | [],r,A,_,h=>h
 |j::l,r,A,hi,h=>by
  obtain ⟨B,J,U⟩:=fj.wZ (g:=j) (rest:=l++g::r) h;have ah:=aQ.nz (l:=l) (r:=r) (fun k hk=>hi k (by simp[hk])) U;exact aQ.rV (hi j (by simp)) (J.x3 ah)
end
def cq(o:Oper):List Nat:=(o.after.toList.filter fun e=>Region.binds .any e).map (·.on)
def lC(cl:List Nat):List Nat→Nat
 | []=>0
 |k::ks=>(2^k ||| cl.getD k 0) ||| lC cl ks
def sL(on:List (List Nat))(gs:List aI)(cl:List Nat):Bool :=
 (List.range gs.length).all fun i=>(on.getD i []).all (fun k=>decide (k<i))&&Nat.beq (cl.getD i 0) (lC cl (on.getD i [])) &&
  (List.range i).all fun j=>(cl.getD i 0).testBit j||mL (gs.getD j default) (gs.getD i default)
theorem rZ{cl:List Nat}{j:Nat} : ∀ {l:List Nat},(lC cl l).testBit j=true→j∈l∨∃ k∈l,(cl.getD k 0).testBit j=true
 | [],h=>by simp[lC] at h
 |k::ks,h=>by
  simp only[lC,Nat.testBit_or,Bool.or_eq_true,Nat.testBit_two_pow,decide_eq_true_eq] at h;rcases h with (h | h) | h
  ·exact .inl (by simp[h])
  ·exact .inr ⟨k,by simp,h⟩
  ·rcases rZ h with h | ⟨m,J,U⟩
   ·exact .inl (by simp[h])
   ·exact .inr ⟨m,by simp[J],U⟩
structure uu (l:List Oper) (gs:List aI):Prop where
 iw:∀ i o,l[i]?=some o→∀ k∈cq o,k<i
 pk:∀ (S:Nat→Prop),(∀ i o,l[i]?=some o→S i→∀ k∈cq o,S k)→∀ i o g j,l[i]?=some o→gs[i]?=some g→(∀ k∈cq o,S k)→j<i→¬ S j→mL (gs.getD j default) g=true
theorem MY{l:List Oper}{gs:List aI}{cl:List Nat}(hlen:gs.length=l.length)(h:sL (l.map cq) gs cl=true):uu l gs:=by
 simp only[sL,zx0,zw5] at h;have fB:∀ i o,l[i]?=some o→∃ g,gs[i]?=some g∧(∀ k∈cq o,k<i)∧(∀ j,(cl.getD i 0).testBit j=true→j∈cq o∨∃ k∈cq o,(cl.getD k 0).testBit j=true)∧∀ j,j<i→(cl.getD i 0).testBit j=true∨mL (gs.getD j default) g=true:=by
  intro i o ho;have hi:i<l.length:=(zz6.1 ho).1;have J:=h i (by omega);have hon:(l.map cq).getD i []=cq o:=by simp[zz0,ho]
  have hgi:i<gs.length:=by omega
  have hg:gs[i]?=some gs[i]:=zy3 hgi;have hgd:gs.getD i default=gs[i]:=by simp[zz0,hg]
  rw[hon,hgd] at J;simp only[t8,zx0,decide_eq_true_eq,Bool.or_eq_true,zw5] at J;have hb:=Nat.eq_of_beq_eq_true J.1.2;exact ⟨_,hg,J.1.1,fun j hj=>rZ (by rw[←hb];exact hj),J.2⟩
 refine ⟨fun i o ho=>(fB i o ho).choose_spec.2.1,?_⟩;intro S hS i o g j ho hg hon hj hnj;have key:∀ n i o,i≤n→l[i]?=some o→(∀ k∈cq o,S k)→∀ j,(cl.getD i 0).testBit j=true→S j:=by
  intro n
  induction n with
  |zero =>
   intro i o hi ho hon j hj;obtain ⟨g,_,J,U,_⟩:=fB i o ho;rcases U j hj with h | ⟨k,hk,_⟩
   ·exact hon j h
   ·have:=J k hk;omega
  |succ n ih =>
   intro i o hi ho hon j hj;obtain ⟨g,_,J,U,_⟩:=fB i o ho;rcases U j hj with h | ⟨k,hk,hjk⟩
   ·exact hon j h
   ·have hki:=J k hk;have hkl:k<l.length:=Nat.lt_trans hki (zz6.1 ho).1;obtain ⟨ok,hok⟩:∃ ok,l[k]?=some ok:=⟨l[k],zy3 hkl⟩
    exact ih k ok (by omega) hok (hS k ok hok (hon k hk)) j hjk
 obtain ⟨g',hg',_,_,ah⟩:=fB i o ho;rw[hg,v6] at hg';subst hg';rcases ah j hj with h | h
 ·exact absurd (key i i o (zz4 _) ho hon j h) hnj
 ·exact h
def iP(listed:Array Bool)(n:Nat):List Nat:=(List.range n).filter fun i => !listed.getD i true
def og(gs:List aI)(listed:Array Bool)(n:Nat):List aI:=(iP listed n).map fun i=>gs.getD i default
theorem EX{i n:Nat}(h:i<n):List.range n=List.range i++i::(List.range (n-(i+1))).map (i+1 + ·):=by
 conv=>lhs;rw[show n=(i+1)+(n-(i+1)) by omega,List.range_add]
 rw[List.range_succ];simp
theorem Zx{listed:Array Bool}{i n:Nat}(h:i<n)(ab:listed.size=n)(hu:listed.getD i true=false):∃ l1 l2,iP listed n=l1++i::l2∧iP (listed.setIfInBounds i true) n=l1++l2∧∀ j∈l1,j<i∧listed.getD j true=false:=by
 have same:∀ j,j≠i→(listed.setIfInBounds i true).getD j true=listed.getD j true:=fun j hj=>getD_set_ne true (Ne.symm hj);have hit:(listed.setIfInBounds i true).getD i true=true:=by simp[ab,h]
 refine ⟨(List.range i).filter fun j => !listed.getD j true,((List.range (n-(i+1))).map (i+1 + ·)).filter fun j => !listed.getD j true,?_,?_,?_⟩
 ·simp only[iP];rw[EX h,List.filter_append,zw0];simp only[hu,Bool.not_false,if_true]
 ·simp only[iP];rw[EX h,List.filter_append,zw0];simp only[hit,Bool.not_true,zz2,if_false]
  congr 1
  ·refine List.filter_congr fun j hj =>?_;rw[same j (by have:=zw5.1 hj;omega)]
  ·refine List.filter_congr fun j hj =>?_;obtain ⟨k,_,rfl⟩:=zx1.1 hj;rw[same _ (by omega)]
 ·intro j hj;simp only[zw3,zw5,Bool.not_eq_true'] at hj;exact hj
theorem Fb{n:Nat} : iP (Array.replicate n false) n=List.range n:=by
 simp only[iP];refine List.filter_eq_self.2 fun i hi =>?_;have:=zw5.1 hi;simp[this]
theorem XQ(gs:List aI):((List.range gs.length).map fun i=>gs.getD i default)=gs:=by
 apply List.ext_getElem
 ·simp
 ·intro i J U;simp[zz0,U]
section
variable {c:cV}
theorem iz{P:Program}{n:Nat}{aW:Array Oper} : ∀ {l:List Oper} {gs:List aI},fM P n aW l=some gs→gs.length=l.length∧∀ (i:Nat) (o:Oper),l[i]?=some o→∃ g,gs[i]?=some g∧lK P n aW o=some g
 | [],gs,h=>by simp only[fM,v6] at h;subst h;exact ⟨rfl,fun i o ho=>by simp at ho⟩
 |o::l,gs,h=>by
  simp only[fM] at h;split at h
  case h_2=>cases h
  rename_i g gs' hg hgs;simp only[v6] at h;subst h;obtain ⟨J,U⟩:=iz (l:=l) hgs;refine ⟨by simp[J],fun i o' ho =>?_⟩;cases i with
  |zero=>simp only[List.getElem?_cons_zero,v6] at ho;subst ho;exact ⟨g,rfl,hg⟩
  |succ i=>simpa using U i o' (by simpa using ho)
theorem Wc{K:ai→Prop}{aW:Array Oper}{Q:Exit→Act→World→Prop}{o:Oper}{g:aI}{rest:List aI}{A:ai}{a:Act}{w:World}{Kw:Act→World→Prop}(hg:lK c.P c.n aW o=some g)(hwp:aQ c.P c.Y true K (aB (g::rest) A))(ab:b6 c A a w)
  (hK:∀ B a' w',aQ c.P c.Y true K (aB rest B)→b6 c B a' w'→Kw a' w'):if Region.wanted o (yielded aW a.tmps) then o.wpIn c.bC 9 c.P a w Kw Q else (∀ f,o.about c.P w a.eval=some f→c.bC.fn f)∧Kw (a.put o.dst undef) w:=by
 obtain ⟨J,U,ah,ar⟩:=nA hg;have step:aQ c.P c.Y true K (bl A g.dst g.op rest (aB rest))→o.wpIn c.bC 9 c.P a w Kw Q:=fun h =>
  sV J U.symm (by rw[U];exact ah) h ab (fun B a' w' hw hs'=>hK B a' w' hw hs')
 simp only[aB] at hwp;rcases ar with ⟨h5,h6⟩ | ⟨j,b,t,h5,h6,h7⟩
 ·rw[h6] at hwp;have hw:Region.wanted o (yielded aW a.tmps)=true:=by simp[Region.wanted,h5]
  rw[hw,if_pos rfl];exact step hwp
 ·rw[h7] at hwp;simp only at hwp;split at hwp
  ·rename_i b' hb';rw[sZ ab h5 h6 hb'];split at hwp
   ·rename_i hbb;subst hbb;simp only[BEq.rfl,if_true];exact step hwp
   ·rename_i hbb;have:(b'==b)=false:=by simpa using hbb
    rw[this];simp only[zz2,if_false];exact ⟨fun f _=>lP c f,hK _ _ _ hwp (by rw[U];exact ab.mW ah)⟩
  ·rename_i hb';rw[s7 ab h5 h6 hb'];simp only[zz2,if_false];exact ⟨fun f _=>lP c f,hK _ _ _ hwp (by rw[U];exact ab.mW ah)⟩
  ·cases hwp
theorem Hz{K:ai→Prop}{aW:Array Oper}{gs:List aI}{Q:Exit→Act→World→Prop}(hQ:∀ B a w,K B→b6 c B a w→Q .normal a w)(hgs:fM c.P c.n aW aW.toList=some gs)(af:uu aW.toList gs) :
  ∀ (fuel:Nat) (listed:Array Bool) (A:ai) (a:Act) (w:World),listed.size=aW.size→(∀ i o,aW.toList[i]?=some o→listed.getD i false=true→∀ k∈cq o,listed.getD k false=true)→(iP listed aW.size).length≤fuel →
   aQ c.P c.Y true K (aB (og gs listed aW.size) A)→b6 c A a w→wpAnyIn c.bC 9 c.P .any aW Q fuel listed a w:=by
 obtain ⟨hlen,hat⟩:=iz hgs;have onOf_mem:∀ (o:Oper) (e:Edge),e∈o.after→Region.binds .any e=true→e.on∈cq o:=fun o e he hb=>by
  simp only[cq,zx1,zw3];exact ⟨e,⟨by simpa using he,hb⟩,rfl⟩
 have of_onOf:∀ (o:Oper) (k:Nat),k∈cq o→∃ e∈o.after,Region.binds .any e=true∧e.on=k:=fun o k hk=>by
  simp only[cq,zx1,zw3] at hk;obtain ⟨e,⟨J,U⟩,ah⟩:=hk;exact ⟨e,by simpa using J,U,ah⟩
 have last:∀ (listed:Array Bool) (A:ai) (a:Act) (w:World),listed.size=aW.size→Region.ready .any aW listed=[]→aQ c.P c.Y true K (aB (og gs listed aW.size) A)→b6 c A a w→Q .normal a w:=by
  intro listed A a w hsz hr hwp ab;have hnone:iP listed aW.size=[]:=by
   have all:∀ n,∀ i,i<n→i<aW.size→listed.getD i true=true:=by
    intro n
    induction n with
    |zero=>intro i hi;omega
    |succ n ih =>
     intro i hi his;cases hb:listed.getD i true with
     |true=>rfl
     |false =>
      exfalso
      have ho:aW[i]?=some aW[i]:=zw7 his;have:i∈Region.ready .any aW listed:=mem_ready.2 ⟨hb,aW[i],ho,fun e he hbd=>by
       have hlt:=af.iw i aW[i] (by simp) e.on (onOf_mem _ e he hbd);have J:=ih e.on (by omega) (by omega);have U:e.on<listed.size:=by omega
       simpa[Array.getD_eq_getD_getElem?,U] using J⟩
      rw[hr] at this;cases this
   simp only[iP];refine List.filter_eq_nil_iff.2 fun i hi =>?_;have:=all (i+1) i (by omega) (zw5.1 hi);simp only[this,Bool.not_true,zz2,not_false_eq_true]
  simp only[og,hnone,zx4,aB] at hwp;cases hwp with
  |done hk=>exact hQ A a w hk ab
 intro fuel
 induction fuel with
 |zero =>
  intro listed A a w hsz hcl hcnt hwp ab;have hnone:iP listed aW.size=[]:=List.length_eq_zero_iff.1 (by omega);have hr:Region.ready .any aW listed=[]:=by
   refine List.eq_nil_iff_forall_not_mem.2 fun i hi =>?_;obtain ⟨J,o,ho,_⟩:=mem_ready.1 hi;have:i∈iP listed aW.size:=by
    simp only[iP,zw3,zw5,J,Bool.not_false,and_true];exact (zy1.1 ho).1
   rw[hnone] at this;cases this
  exact ⟨hr,last listed A a w hsz hr hwp ab⟩
 |succ fuel ih =>
  intro listed A a w hsz hcl hcnt hwp ab;refine ⟨fun hr=>last listed A a w hsz hr hwp ab,fun i hi =>?_⟩;obtain ⟨hun,o,ho,hall⟩:=mem_ready.1 hi;have hin:i<aW.size:=(zy1.1 ho).1;obtain ⟨l1,l2,e1,e2,hl1⟩:=Zx hin hsz hun;have hol:aW.toList[i]?=some o:=by simpa using ho
  obtain ⟨g,hgi,hcg⟩:=hat i o hol;have hon:∀ k∈cq o,listed.getD k false=true:=fun k hk=>by
   obtain ⟨e,J,U,ah⟩:=of_onOf o k hk;exact ah▸hall e J U
  have hgd:gs.getD i default=g:=by simp[zz0,hgi]
  have hwp':aQ c.P c.Y true K (aB (g::og gs (listed.setIfInBounds i true) aW.size) A):=by
   simp only[og,e1,zy5,zz3,hgd] at hwp;simp only[og,e2,zy5];refine aQ.nz (fun j hj =>?_) hwp;obtain ⟨k,hk,rfl⟩:=zx1.1 hj;obtain ⟨hk1,hk2⟩:=hl1 k hk;refine af.pk (fun k=>listed.getD k false=true) hcl i o g k hol hgi hon hk1 ?_;have hks:k<listed.size:=by omega
   simp[Array.getD_eq_getD_getElem?,hks] at hk2 ⊢;exact hk2
  unfold wpOpIn;rw[ho];refine Wc hcg hwp' ab fun B a' w' hw hs'=>ih _ B a' w' (by simpa using hsz) ?_ ?_ hw hs'
  ·intro m om hom hm k hk;by_cases hmi:m=i
   ·subst hmi;rw[hol,v6] at hom;subst hom;exact getD_set_true (hon k hk)
   ·rw[getD_set_ne false (Ne.symm hmi)] at hm;exact getD_set_true (hcl m om hom hm k hk)
  ·have:(iP listed aW.size).length=(iP (listed.setIfInBounds i true) aW.size).length+1:=by
    rw[e1,e2];simp;omega
   omega
theorem Zw{K:ai→Prop}{aW:Array Oper}{gs:List aI}{Q:Exit→Act→World→Prop}{id:Nat}{A:ai}{a:Act}{w:World}(hm:c.P.follows .mixedOrders=true)(hQ:∀ B a w,K B→b6 c B a w→Q .normal a w)(hgs:fM c.P c.n aW aW.toList=some gs)(af:uu aW.toList gs)
  (hwp:aQ c.P c.Y true K (aB gs A)) (ab:b6 c A a w):(Code.region id aW true).wpIn c.bC 9 c.P Q a w:=by
 refine wpIn_region_any hm (Hz hQ hgs af aW.size (Array.replicate aW.size false) A a _ (by simp) ?_ ?_ ?_ ?_)
 ·intro i o _ h
  exfalso
  simp only[Array.getD_eq_getD_getElem?,Array.getElem?_replicate] at h;split at h <;>simp at h
 ·rw[Fb];simp
 ·have ao:=(iz hgs).1;simp only[zx2] at ao;simp only[og,Fb];rw[←ao,XQ];exact hwp
 ·obtain ⟨D,E,ab⟩:=ab;exact ⟨D,E,ab.grow (w' := { w with drawn:=w.drawn+1 }) ⟨rfl,rfl,rfl,zz4 _,fun _ _=>rfl⟩ (fun _ _ h=>h) (fun _ _ h _=>h) (fun b o h=>ab.aR b o h)⟩
end
inductive bp where
 |cw (on:Option (List (List Nat))) (gs:List aI)
 |seq (x y:bp)
 |cond (b:aO) (x y:bp)
 |block (id:Nat) (x:bp)
 |loop (x:bp)
 |exit (id:Nat)
 |ret
 |skip
 |scope (x:bp)
 |label
 |uR
 |mh (f:aO) (ps:List Nat) (x y:bp)
 deriving Inhabited
def eA(P:Program)(n:Nat):Code→Option bp
 | .region _ aW draw=>match fM P n aW aW.toList with
  |some gs=>if (!draw||P.follows .mixedOrders)=true then some (.cw (bif draw then some (aW.toList.map cq) else none) gs) else none
  |none=>some .uR
 | .seq x y=>match eA P n x,eA P n y with
  |some x,some y=>some (.seq x y)
  |_,_=>none
 | .cond b x y=>match br P 0 b,eA P n x,eA P n y with
  |some b,some x,some y=>some (.cond b x y)
  |_,_,_=>none
 | .block id x=>match eA P n x with
  |some x=>some (.block id x)
  |none=>none
 | .loop x=>match eA P n x with
  |some x=>some (.loop x)
  |none=>none
 | .exit id=>some (.exit id)
 | .ret=>some .ret
 | .skip=>some .skip
 | .scope x=>match eA P n x with
  |some x=>some (.scope x)
  |none=>none
 | .label _=>some .label
 | .rangeFunc f ps x y=>match br P 0 f,eA P n x,eA P n y with
  |some f,some x,some y=>if (ps.toList.all fun p=>p<n)=true then some (.mh f ps.toList x y) else none
  |_,_,_=>none
 |_=>none
def tg(c:cV)(Q:Exit→ai→Prop):Exit→Act→World→Prop:=fun e a w=>∃ A,Q e A∧b6 c A a w
def ae(c:cV)(x:bp)(Q:Exit→ai→Prop)(A:ai):Prop :=
 ∀ code,eA c.P c.n code=some x→∀ a w,b6 c A a w→code.wpIn c.bC 9 c.P (tg c Q) a w
def dY(k:ai→Prop)(Q:Exit→ai→Prop):Exit→ai→Prop
 | .normal,A=>k A
 |e,A=>Q e A
def jc(id:Nat)(Q:Exit→ai→Prop):Exit→ai→Prop
 | .exit id',A=>if id'=id then Q .normal A else Q (.exit id') A
 |e,A=>Q e A
section
variable {c:cV} {A:ai} {Q:Exit→ai→Prop}
def MD(d:Option (List (List Nat)))(gs:List aI)(cl:List Nat):Bool:=match d with
 |none=>true
 |some on=>sL on gs cl
theorem ae.cw{d:Option (List (List Nat))}{gs:List aI}{cl:List Nat}(af:MD d gs cl=true)(h:∀ K:ai→Prop,(∀ B,Q .normal B→K B)→aQ c.P c.Y d.isSome K (aB gs A)):ae c (.cw d gs) Q A:=by
 intro code hc a w ab;cases code <;>simp only[eA] at hc <;>try (first | (cases hc;done) | ((repeat' split at hc) <;>cases hc;done))
 rename_i id aW draw;split at hc
 ·rename_i gs' hgs;split at hc
  case isFalse=>cases hc
  rename_i hok;simp only[v6,bp.cw.injEq] at hc;obtain ⟨rfl,rfl⟩:=hc;cases draw with
  |false=>exact wpIn_region_list (sY (K:=Q .normal) (fun B a w hk ab=>⟨B,hk,ab⟩) aW.toList gs' A a w hgs (h _ fun _ hb=>hb) ab)
  |true =>
   simp only[Bool.not_true,Bool.false_or] at hok;exact Zw (K:=Q .normal) hok (fun B a w hk ab=>⟨B,hk,ab⟩) hgs (MY (iz hgs).1 af) (h _ fun _ hb=>hb) ab
 ·cases hc
theorem ae.seq{x y:bp}(h:ae c x (dY (fun B=>ae c y Q B) Q) A):ae c (.seq x y) Q A:=by
 intro code hc a w ab;cases code <;>simp only[eA] at hc <;>try (first | (cases hc;done) | ((repeat' split at hc) <;>cases hc;done))
 rename_i cx cy;split at hc
 ·rename_i x' y' hx hy;simp only[v6,bp.seq.injEq] at hc;obtain ⟨rfl,rfl⟩:=hc;refine wpIn_seq (wpIn_mono (h cx hx a w ab) ?_);rintro e a' w' ⟨B,hq,hs'⟩;cases e <;>simp only[dY,Exit.then] at * <;>first | exact hq cy hy a' w' hs' | exact ⟨B,hq,hs'⟩
 ·cases hc
theorem ae.cond{b:aO}{x y:bp}{t:Bool}(hb:ak A b=.bool t)(J:t=true→ae c x Q A)(U:t=false→ae c y Q A):ae c (.cond b x y) Q A:=by
 intro code hc a w ab;cases code <;>simp only[eA] at hc <;>try (first | (cases hc;done) | ((repeat' split at hc) <;>cases hc;done))
 rename_i cb cx cy;split at hc
 ·rename_i b' x' y' hb' hx hy;simp only[v6,bp.cond.injEq] at hc;obtain ⟨rfl,rfl,rfl⟩:=hc;obtain ⟨D,E,hs'⟩:=ab;have hv:=bX hs' hb';rw[hb] at hv;exact wpIn_cond_split (ky hv) (fun ht=>J ht cx hx a w ⟨D,E,hs'⟩) (fun ht=>U ht cy hy a w ⟨D,E,hs'⟩)
 ·cases hc
theorem ae.block{id:Nat}{x:bp}(h:ae c x (jc id Q) A):ae c (.block id x) Q A:=by
 intro code hc a w ab;cases code <;>simp only[eA] at hc <;>try (first | (cases hc;done) | ((repeat' split at hc) <;>cases hc;done))
 rename_i id' cx;split at hc
 ·rename_i x' hx;simp only[v6,bp.block.injEq] at hc;obtain ⟨rfl,rfl⟩:=hc;refine wpIn_block (wpIn_mono (h cx hx a w ab) ?_);rintro e a' w' ⟨B,hq,hs'⟩;cases e <;>simp only[jc,Exit.inBlock] at * <;>first
   |exact ⟨B,hq,hs'⟩
   |(split at hq
     ·rename_i he;rw[if_pos he];exact ⟨B,hq,hs'⟩
     ·rename_i he;rw[if_neg he];exact ⟨B,hq,hs'⟩)
 ·cases hc
theorem ae.exit{id:Nat}(h:Q (.exit id) A):ae c (.exit id) Q A:=by
 intro code hc a w ab;cases code <;>simp only[eA] at hc <;>try (first | (cases hc;done) | ((repeat' split at hc) <;>cases hc;done))
 simp only[v6,bp.exit.injEq] at hc;subst hc;exact wpIn_exit ⟨A,h,ab⟩
theorem ae.ret(h:Q .ret A):ae c .ret Q A:=by
 intro code hc a w ab;cases code <;>simp only[eA] at hc <;>try (first | (cases hc;done) | ((repeat' split at hc) <;>cases hc;done))
 exact wpIn_ret ⟨A,h,ab⟩
theorem ae.skip(h:Q .normal A):ae c .skip Q A:=by
 intro code hc a w ab;cases code <;>simp only[eA] at hc <;>try (first | (cases hc;done) | ((repeat' split at hc) <;>cases hc;done))
 exact wpIn_skip ⟨A,h,ab⟩
theorem Bg{p:Nat→Prop}(h:∃ n,p n):∃ n,p n∧∀ m,p m→n≤m:=by
 obtain ⟨n,hn⟩:=h
 induction n using Nat.strongRecOn with
 |_ n ih =>
  by_cases hm:∃ m,m<n∧p m
  ·obtain ⟨m,J,U⟩:=hm;exact ih m J U
  ·exact ⟨n,hn,fun m hp=>Nat.le_of_not_lt fun hlt=>hm ⟨m,hlt,hp⟩⟩
open Classical in
noncomputable def least(p:Nat→Prop):Nat:=if h:∃ n,p n then (Bg h).choose else 0
theorem Cw{p:Nat→Prop}(h:∃ n,p n):p (least p)∧∀ m,p m→least p≤m:=by
 simp only[least,dif_pos h];exact (Bg h).choose_spec
theorem aaE{bC:Fence}{N:Nat}{P:Program}{code:Code}{QQ:Exit→Act→World→Prop}(bf:Nat→Act→World→Prop)(round:∀ n a w,bf n a w→code.wpIn bC N P (Exit.then (fun a' w'=>∃ m,m<n∧bf m a' w') QQ) a w) :
  ∀ n a w,bf n a w→(Code.loop code).wpIn bC N P QQ a w:=by
 intro n a w h;refine wpIn_loop (fun a w=>∃ n,bf n a w) (fun a w=>least fun n=>bf n a w) ⟨n,h⟩ ?_;intro a w hI;have hm:=(Cw hI).1;refine wpIn_mono (round _ a w hm) ?_;intro e a' w' hq;cases e <;>simp only[Exit.then] at hq ⊢ <;>try exact hq
 obtain ⟨m,J,U⟩:=hq;exact ⟨⟨m,U⟩,Nat.lt_of_le_of_lt ((Cw ⟨m,U⟩).2 m U) J⟩
def bw(A B:ai):Prop:=∀ (c:cV) (a:Act) (w:World),b6 c A a w→b6 c B a w
theorem bw.refl(A:ai):bw A A:=fun _ _ _ h=>h
theorem bw.trans{A B C:ai}(h:bw A B)(k:bw B C):bw A C:=fun c a w ab=>k c a w (h c a w ab)
theorem ae.sub{x:bp}{B:ai}(hsub:bw A B)(h:ae c x Q B):ae c x Q A:=fun code hc a w ab=>h code hc a w (hsub c a w ab)
theorem ae.mono{x:bp}{Q':Exit→ai→Prop}(h:ae c x Q A)(hq:∀ e B,Q e B→Q' e B):ae c x Q' A :=
 fun code hc a w ab=>wpIn_mono (h code hc a w ab) fun e a' w' ⟨B,J,U⟩=>⟨B,hq e B J,U⟩
theorem ae.loop{σ:Type}(S:σ→ai)(C:σ→Prop)(m:σ→Nat)(s0:σ){x:bp}(aY:C s0)(hsub:bw A (S s0))
  (round:∀ s,C s→ae c x (dY (fun B=>∃ s',C s'∧m s'<m s∧bw B (S s')) Q) (S s)):ae c (.loop x) Q A:=by
 intro code hc a w ab;cases code <;>simp only[eA] at hc <;>try (first | (cases hc;done) | ((repeat' split at hc) <;>cases hc;done))
 rename_i cx;split at hc
 ·rename_i x' hx;simp only[v6,bp.loop.injEq] at hc;subst hc;refine aaE (fun n a w=>∃ s,C s∧m s=n∧b6 c (S s) a w) ?_ (m s0) a w ⟨s0,aY,rfl,hsub c a w ab⟩;rintro n a w ⟨s,hC,rfl,ab⟩;refine wpIn_mono (round s hC cx hx a w ab) ?_;rintro e a' w' ⟨B,hq,hs'⟩;cases e <;>simp only[dY,Exit.then] at * <;>first
   |exact ⟨B,hq,hs'⟩
   |(obtain ⟨s',J,U,ah⟩:=hq;exact ⟨m s',U,s',J,rfl,ah c a' w' hs'⟩)
 ·cases hc
end
inductive bK where
 |tmp (t:Nat)
 |cell (a:Nat) (s:Option Nat)
def gP(P:Program):List ResultVar→Option (List bK)
 | []=>some []
 | .tmp t::l=>(gP P l).map (.tmp t :: ·)
 | .cell a t::l=>match fO P t,gP P l with
  |some s,some l=>some (.cell a s::l)
  |_,_=>none
def tQ(A:ai):bK→Option I
 | .tmp t=>bj true A (A.t t)
 | .cell a s=>match cK A (A.t a) with
  |some x=>if b8 s x then bj true A x else none
  |none=>none
def e9(A:ai):List bK→Option (List I)
 | []=>some []
 |r::rs=>match tQ A r,e9 A rs with
  |some x,some xs=>some (x::xs)
  |_,_=>none
def jX:List I→I
 | [x]=>x
 |xs=>.tuple xs
def oD(args:List I):ai:=⟨fun t=>args.getD t .undef,fun _=>none⟩
def ku(rs:List bK)(r:I):Exit→ai→Prop
 | .ret,A=>∃ xs,e9 A rs=some xs∧jX xs=r
 | .normal,A=>∃ xs,e9 A rs=some xs∧jX xs=r
 |_,_=>False
def oE(args:List I)(os:List (Nat×aq)):ai:=⟨fun t=>args.getD t .undef,aj os⟩
theorem xZ{P:Program}{n:Nat}{w:World}{D:aP}{E:a8}{Y:Value→List I→List (Nat×aq)→cC→Prop}{args:List I}{os:List (Nat×aq)}{vs:List Value}(hD:∀ b o,D b o→b<w.heap.size)(ho:jN (fun _=>True) w D E (aj os))
  (hv:aJ w D E args vs) (hn:vs.length≤n) (hos:∀ m,aw os m=true→n≤m∧1000000≤m) (hy:oK ⟨P,w,D,n,cI E,E,Y,none,none⟩) :
  aV ⟨P,w,D,n,cI E,E,Y,none,none⟩ (oE args os) { tmps:=vs.toArray++Array.replicate (n-vs.toArray.size) undef,defers:=[] } w D E:=by
 refine ⟨by simp;omega,⟨[],rfl,.nil,fun _ h=>by simp at h⟩,fun t =>?_,eW.refl _ _,fun _ _ h _=>h,hD,fun m =>?_,ho.cO,fun m e h=>.inr ⟨e,h,.refl e⟩,fun m hm =>?_,fun _ _ h=>h,hy,.refl _ _⟩
 ·have key:∀ (args:List I) (vs:List Value) (t:Nat),aJ w D E args vs→bd w D E (args.getD t .undef) (vs.getD t undef):=by
   intro args
   induction args with
   |nil=>intro vs t h;simp only[aJ] at h;subst h;simp[bd]
   |cons x xs ih =>
    intro vs t h;simp only[aJ] at h;obtain ⟨v,rest,cs,rfl,J,U,ah⟩:=h;cases t with
    |zero=>simpa using jC J U
    |succ t=>simpa using ih rest t ah
  have:=key args vs t hv;have e:(vs.toArray++Array.replicate (n-vs.toArray.size) undef).getD t undef=vs.getD t undef:=by
   simp only[Array.getD_eq_getD_getElem?,zz0];rcases Nat.lt_or_ge t vs.length with h | h
   ·rw[Array.getElem?_append_left (by simpa using h)];simp
   ·rw[Array.getElem?_append_right (by simpa using h),zx9 h];simp only[Array.getElem?_replicate];split <;>rfl
  simp only[oE];rw[e];exact this
 ·have h:=ho.bP m;simp only[oE];cases hx:aj os m with
  |none=>rw[hx] at h;exact h
  |some x =>
   rw[hx] at h;cases x with
   |box x =>
    obtain ⟨b,cs,T,k1,_,k3⟩:=h;exact ⟨b,cs,T,k1,.inr ⟨m,_,k1,rfl⟩,k3⟩
   |bW T sz es =>
    obtain ⟨aK,k1,k2,k3⟩:=h;refine ⟨aK,k1,k2,?_⟩;cases aK with
    |none=>exact k3
    |some bc =>
     obtain ⟨b,cap⟩:=bc;obtain ⟨cs,pre,rest,_,k4⟩:=k3;exact ⟨cs,pre,rest,.inr ⟨m,_,k1,rfl⟩,k4⟩
   |dC T xs =>
    obtain ⟨aK,k1,k2,k3⟩:=h;refine ⟨aK,k1,k2,?_⟩;cases aK with
    |none=>exact k3
    |some bc =>
     obtain ⟨b,cap⟩:=bc;obtain ⟨cs,rest,_,k4⟩:=k3;exact ⟨cs,rest,.inr ⟨m,_,k1,rfl⟩,k4⟩
   |dF x =>
    obtain ⟨b,k1,_,k3⟩:=h;exact ⟨b,k1,.inr ⟨m,_,k1,rfl⟩,k3⟩
   |bt ks vs =>
    obtain ⟨b,es,ck,k1,_,k3⟩:=h;exact ⟨b,es,ck,k1,.inr ⟨m,_,k1,rfl⟩,k3⟩
   |it ks vs left cur =>
    obtain ⟨r,b,es,ck,si,se,la,k1,_,k3⟩:=h;exact ⟨r,b,es,ck,si,se,la,k1,.inr ⟨m,_,k1,rfl⟩,k3⟩
 ·have h:=ho.bP m;refine hos m ?_;cases hx:aj os m with
  |none=>rw[hx] at h;exact absurd h hm
  |some x=>simp[aw,hx]
def rJ(tmps:Array Value):ResultVar→Sem Value
 | .tmp t=>pure (tmps.getD t undef)
 | .cell a t=>do loadVar t (←asAddr (tmps.getD a undef))
theorem ZH(fn:Func)(tmps:Array Value):results fn tmps=(do
  let vs ←fn.results.mapM (rJ tmps)
  pure (if h:vs.size=1 then vs[0] else .tuple vs)):=by
 unfold results;rfl
def ry(A:ai):bK→Option I
 | .tmp t=>some (A.t t)
 | .cell a s=>match cK A (A.t a) with
  |some x=>if b8 s x then some x else none
  |none=>none
def mc(A A0:ai)(os:List (Nat×aq)):List bK→List I→Prop
 | [],[]=>True
 |r::rs,y::ys=>(∃ x,ry A r=some x∧((y=x∧x.bS=true∧x.only (aw os)=true)∨bj true A0 x=some y))∧mc A A0 os rs ys
 |_,_=>False
def ai.kz(A:ai)(os:List (Nat×aq)):ai:=⟨A.t,fun n=>if aw os n then none else A.o n⟩
def ja(rs:List bK)(post:cC)(A:ai):Prop :=
 ∃ (os:List (Nat×aq)) (xs:List I),(∀ n x,aj os n=some x→A.o n=some x∧x.only (aw os)=true∧x.eh=true)∧mc A (A.kz os) os rs xs∧post (jX xs) os
def oh(rs:List bK)(post:cC):Exit→ai→Prop
 | .ret,A=>ja rs post A
 | .normal,A=>ja rs post A
 |_,_=>False
theorem xB{c:cV}{A:ai}{a:Act}{w:World}{D:aP}{E:a8}(ab:aV c A a w D E){A0:ai}(hu:ev A0 A){os:List (Nat×aq)}{D':aP}{E':a8}(hw:h3 true A0 D E D')(aA:∀ n,aw os n=true→E' n=E n)(hE':∀ n,aw os n=false→E' n=none) :
  ∀ (rs:List ResultVar) (ls:List bK) (xs:List I),gP c.P rs=some ls→mc A A0 os ls xs→∃ vs:List Value,(rs.mapM (rJ a.tmps)).run c.P w=.ok vs w∧aJ w D' E' xs vs
 | [],ls,xs,hc,hr=>by
  simp only[gP,v6] at hc;subst hc;cases xs with
  |nil=>exact ⟨[],by simp,by simp[aJ]⟩
  |cons x xs=>simp[mc] at hr
 |r::rs,ls,xs,hc,hr=>by
  have ao:dT w D E' w D' E':=⟨hw.c4,fun _ _ _ _ h=>h,fun _ _ _ h=>h,fun _ aK l h=>⟨aK,l,h,zz4 _,fun _=>rfl⟩,fun _ _ h=>h,fun _ _ h=>h,fun _ _ _ _ h=>h⟩
  have fin1:∀ {x y:I} {v:Value},bd w D E x v→((y=x∧x.bS=true∧x.only (aw os)=true)∨bj true A0 x=some y)→∃ cs,bE y v cs∧al w D' E' y cs:=by
   intro x y v hv hf;rcases hf with ⟨rfl,J,U⟩ | hf
   ·have ah:=bd.later ao (bd.c9 aA U hv);cases y <;>simp only[bd] at ah <;>first | (simp[I.bS] at J;done) | exact ah
   ·have J:aJ w D E [x] [v]:=lu [x] [v] (.cons hv .nil) (by
     intro z hz;simp only[zx5] at hz;subst hz;cases z <;>simp_all[bj,I.bS])
    have U:=lN (E':=E') ab hu hw [x] [y] [v] J (by simp[bY,hf]);simp only[aJ] at U;obtain ⟨v',rest,cs,e,k1,k2,_⟩:=U;simp only[zw8] at e;obtain ⟨rfl,_⟩:=e;exact ⟨cs,k1,k2⟩
  cases r with
  |tmp t =>
   simp only[gP,t7] at hc;obtain ⟨ls',hl',rfl⟩:=hc;cases xs with
   |nil=>simp[mc] at hr
   |cons y ys =>
    simp only[mc] at hr;obtain ⟨⟨x,J,U⟩,ah⟩:=hr;simp only[ry,v6] at J;subst J;obtain ⟨vs,k1,k2⟩:=xB ab hu hw aA hE' rs ls' ys hl' ah;obtain ⟨cs,k3,k4⟩:=fin1 (ab.dP t) U;refine ⟨a.tmps.getD t undef::vs,?_,?_⟩
    ·simp only[List.mapM_cons,Sem.run_bind,rJ,Sem.run_pure,Result.andThen_ok,k1]
    ·simp only[aJ];exact ⟨_,vs,cs,rfl,k3,k4,k2⟩
  |cell ad t =>
   simp only[gP] at hc;split at hc
   ·rename_i s ls' hk hl';simp only[v6] at hc;subst hc;cases xs with
    |nil=>simp[mc] at hr
    |cons y ys =>
     simp only[mc] at hr;obtain ⟨⟨x,J,U⟩,ah⟩:=hr;obtain ⟨vs,k1,k2⟩:=xB ab hu hw aA hE' rs ls' ys hl' ah;simp only[ry] at J;split at J
     ·rename_i z hz;split at J
      ·rename_i hok;simp only[v6] at J;subst J;obtain ⟨b,off,cs,q1,q2,q3⟩:=ab.yP (ab.dP ad) hz;obtain ⟨v,q4,q5⟩:=FB hk hok q2 q3;obtain ⟨cs',k3,k4⟩:=fin1 q5 U;refine ⟨v::vs,?_,?_⟩
       ·have e:(rJ a.tmps (.cell ad t)).run c.P w=.ok v w:=by
         simp only[rJ,Sem.run_bind,q1,asAddr,Sem.run_pure,Result.andThen_ok,q4]
        simp only[List.mapM_cons,Sem.run_bind,Sem.run_pure,Result.andThen_ok,k1,e]
       ·simp only[aJ];exact ⟨_,vs,cs',rfl,k3,k4,k2⟩
      ·cases J
     ·cases J
   ·cases hc
theorem aV.AR{c:cV}{A:ai}{a:Act}{w:World}{D:aP}{E:a8}(h:aV c A a w D E)(hb:c.fk=none){B:Nat}{ds:List Deferred}(af:a.defers = { target:=.collected B,args := #[] } :: ds) :
  w.heap[B]?=some (.deferred (some []))∧aV c A { a with defers:=ds } (w.putObj B (.deferred none)) D E:=by
 have hdf:=h.eB;rw[hb] at hdf;obtain ⟨Bs,J,U,ah⟩:=hdf;rw[af] at J;cases Bs with
 |nil=>cases J
 |cons B' Bs =>
  simp only[zz3,zw8,Deferred.mk.injEq,Target.collected.injEq,and_true] at J;obtain ⟨rfl,rfl⟩:=J;have hB:=ah B (by simp);have hlt:B<w.heap.size:=(zy1.1 hB.2).1;have ao:dT w D E (w.putObj B (.deferred none)) D E :=
   ⟨fun _ _ h=>h,fun b o v _ hv=>vh hB.2 rfl hv,fun _ _ _ h=>h,fun _ aK l h=>⟨aK,l,h,zz4 _,fun _=>rfl⟩,fun _ _ h=>h,fun _ _ h=>h,fun b es ck _ hm=>(World.putObj_heap_other (fun e=>by rw[e,hB.2] at hm;cases hm)).trans hm⟩
  have hne:∀ {b:Nat} {cs:Array Value} {T:TypeId},w.heap[b]?=some (.cells cs T (0,0))→(w.putObj B (.deferred none)).heap[b]?=w.heap[b]?:=fun {b cs T} hb =>
   World.putObj_heap_other (fun e=>by rw[e,hB.2] at hb;cases hb)
  refine ⟨hB.2,h.sz,by rw[hb];refine ⟨Bs,rfl,(List.nodup_cons.1 U).2,fun B2 hB2=>⟨(ah B2 (by simp[hB2])).1,?_⟩⟩;rw[World.putObj_heap_other (fun e=>(List.nodup_cons.1 U).1 (by rw[←e];exact hB2))];exact (ah B2 (by simp[hB2])).2,fun t=>bd.later ao (h.dP t),h.dM.trans ⟨rfl,rfl,rfl,by simp,fun k hk =>?_⟩,h.c4,fun b o af=>by have:=h.aR b o af;simpa using this,fun n =>?_,h.cO,h.dQ,h.eN,h.cU,h.eU,h.kA ao⟩
  ·exact World.putObj_heap_other (fun e=>hk (e▸.inl hB.1))
  ·refine (h.bP n).later ao rfl fun e b he hb=>⟨?_,fun _ h=>h⟩
   have hob:=h.bP n;unfold cY at hob;split at hob
   ·rw[hob] at he;cases he
   ·obtain ⟨b',cs,T,k1,_,k3,_⟩:=hob;rw[k1,v6] at he;subst he;simp only[bN.aK,v6] at hb;subst hb;exact hne k3
   ·obtain ⟨aK,k1,_,k3⟩:=hob;rw[k1,v6] at he;subst he;split at k3
    ·simp[bN.aK] at hb
    ·obtain ⟨cs,pre,rest,_,k5,_⟩:=k3;simp only[bN.aK,v6] at hb;subst hb;exact hne k5
   ·obtain ⟨b',k1,_,k3,k4,_⟩:=hob;rw[k1,v6] at he;subst he;simp only[bN.aK,v6] at hb;subst hb;exact World.putObj_heap_other (fun e=>by rw[e,hB.2] at k3;cases k3;cases k4)
   ·obtain ⟨b',es,ck,k1,_,k3,_⟩:=hob;rw[k1,v6] at he;subst he;cases hb;exact World.putObj_heap_other (fun e=>by rw[e,hB.2] at k3;cases k3)
   ·obtain ⟨r,b',es,ck,si,se,la,k1,_,k3,_⟩:=hob;rw[k1,v6] at he;subst he;cases hb;exact World.putObj_heap_other (fun e=>by rw[e,hB.2] at k3;cases k3)
   ·obtain ⟨aK,k1,_,k3⟩:=hob;rw[k1,v6] at he;subst he;split at k3
    ·simp[bN.aK] at hb
    ·obtain ⟨cs,m,_,k5,_⟩:=k3;simp only[bN.aK,v6] at hb;subst hb;exact hne k5
def lG(w:World)(D:aP)(E:a8)(post:cC)(v:Value)(w':World):Prop :=
 ∃ D' E' r os',post r os'∧bd w' D' E' r v∧jN (fun b=>w.heap.size≤b∨cI E b) w' D' E' (aj os') ∧
  eW (fun b=>w.heap.size≤b∨cI E b) w w'∧(∀ b o,D b o→D' b o)∧(∀ b o,D' b o→b<w'.heap.size)∧(∀ b o,D' b o→b<w.heap.size→¬ cI E b→D b o) ∧
  (∀ n e,E n=some e→aw os' n=true→∃ e',E' n=some e'∧e.le e')∧gN w D w'
theorem aV.wB{P:Program}{n:Nat}{w:World}{D:aP}{E:a8}{Y:Value→List I→List (Nat×aq)→cC→Prop}{lq:Option Nat}{fk:Option (List Deferred)}{A:ai}{a:Act}{w':World}{D':aP}{E':a8}
  (ab:aV ⟨P,w,D,n,cI E,E,Y,lq,fk⟩ A a w' D' E') {os:List (Nat×aq)} (J:∀ n x,aj os n=some x→A.o n=some x∧x.only (aw os)=true∧x.eh=true) :
  ∃ D2 E2,h3 true (A.kz os) D' E' D2∧(∀ n,aw os n=true→E2 n=E' n)∧(∀ n,aw os n=false→E2 n=none)∧jN (fun b=>w.heap.size≤b∨cI E b) w' D2 E2 (aj os) ∧
   eW (fun b=>w.heap.size≤b∨cI E b) w w'∧(∀ b o,D b o→D2 b o)∧(∀ b o,D2 b o→b<w'.heap.size)∧(∀ b o,D2 b o→b<w.heap.size→¬ cI E b→D b o) ∧
   (∀ n e,E n=some e→aw os n=true→∃ e',E2 n=some e'∧e.le e')∧gN w D w':=by
 obtain ⟨c,hc⟩:∃ c:cV,c=⟨P,w,D,n,cI E,E,Y,lq,fk⟩:=⟨_,rfl⟩
 rw[←hc] at ab;have hM:c.eX=fun b=>w.heap.size≤b∨cI E b:=by rw[hc];rfl
 obtain ⟨E2,hE2⟩:∃ E2:a8,E2=fun n=>if aw os n then E' n else none:=⟨_,rfl⟩
 obtain ⟨D2,hD2⟩:∃ D2:aP,D2=fun b o=>b<w'.heap.size∧(D' b o∨(¬ cI E2 b∧c.eX b)):=⟨_,rfl⟩
 have e2:∀ n,aw os n=true→E2 n=E' n:=fun n hn=>by rw[hE2];simp only[hn,if_true]
 have cut:∀ n e,E2 n=some e→aw os n=true∧E' n=some e:=fun n e he=>by
  rw[hE2] at he;simp only at he;split at he
  ·exact ⟨by assumption,he⟩
  ·cases he
 have up2:∀ b o,D' b o→D2 b o:=fun b o af=>by
  rw[hD2];exact ⟨ab.aR b o af,.inl af⟩
 have down:∀ b o,D2 b o→cI E2 b→D' b o:=fun b o af hb=>by
  rw[hD2] at af;rcases af.2 with h | h
  ·exact h
  ·exact absurd hb h.1
 have hu:ev (A.kz os) A:=fun n x hx=>by
  simp only[ai.kz] at hx;split at hx
  ·cases hx
  ·exact hx
 have notOwn:∀ n e b,(A.kz os).o n≠none→E' n=some e→e.aK=some b→¬ cI E2 b:=fun n e b hn he hb ho=>by
  obtain ⟨m,e',k1,k3⟩:=ho;obtain ⟨k1,k2⟩:=cut m e' k1;have:=ab.cO n m e _ b he k2 hb k3;subst this;simp[ai.kz,k1] at hn
 have hw:h3 true (A.kz os) D' E' D2:=by
  refine ⟨up2,fun n T sz es b cap hn aA o _ =>?_,fun _ n x b aX hn aA o _ =>?_,fun _ n ks vs b hn aA =>?_⟩
  ·rw[hD2];refine ⟨ab.fY aA rfl,.inr ⟨notOwn n _ b (by rw[hn];simp) aA rfl,?_⟩⟩;obtain ⟨aK,k1,k2,k3⟩:=ab.bW (hu n _ hn);rw[aA] at k1;simp only[v6,bN.rw.injEq,and_true] at k1;subst k1;obtain ⟨_,_,_,k4,_⟩:=k3;exact k4
  ·rw[hD2];refine ⟨ab.fY aA rfl,.inr ⟨notOwn n _ b (by rw[hn];simp) aA rfl,?_⟩⟩;obtain ⟨b',cs,T,k1,k2,_⟩:=ab.box (hu n _ hn);rw[k1] at aA;simp only[v6,bN.aL.injEq] at aA;obtain ⟨rfl,_⟩:=aA;exact k2
  ·rw[hD2];refine ⟨ab.fY aA rfl,.inr ⟨notOwn n _ b (by rw[hn];simp) aA rfl,?_⟩⟩;obtain ⟨b',es,ck,k1,k2,_⟩:=ab.map (hu n _ hn);rw[k1] at aA;cases aA;exact k2
 have hst:gN w D w':=by
  have:=ab.fw;rw[hc] at this;exact this
 refine ⟨D2,E2,hw,e2,fun n hn=>by rw[hE2];simp[hn],⟨fun m =>?_,fun m m' e e' b g1 g2 g3 g4 =>?_⟩,?_,fun b o af=>up2 b o (ab.cU b o (by rw[hc];exact af)),fun b o af=>by rw[hD2] at af;exact af.1,fun b o af hlt hno =>?_,fun m e hm hin =>?_,hst⟩
 ·cases hx:aj os m with
  |none=>simp only[cY];rw[hE2];simp[aw,hx]
  |some x =>
   have hm:aw os m=true:=by simp[aw,hx]
   obtain ⟨k1,k2,k3⟩:=J m x hx;have ho:=ab.bP m;rw[k1] at ho;have hl2:dT w' D' E2 w' D2 E2:=⟨up2,fun _ _ _ _ h=>h,fun _ _ _ h=>h,fun _ aK l h=>⟨aK,l,h,zz4 _,fun _=>rfl⟩,fun _ _ h=>h,fun _ _ h=>h,fun _ _ _ _ h=>h⟩
   have nD:∀ e b,E' m=some e→e.aK=some b→∀ o,D2 b o→D' b o:=fun e b he hb o af=>down b o af ⟨m,e,(e2 m hm).trans he,hb⟩;cases x with
   |bW T sz es =>
    obtain ⟨aK,q1,q2,q3⟩:=ho;refine ⟨aK,(e2 m hm).trans q1,q2,?_⟩;cases aK with
    |none=>exact q3
    |some bc =>
     obtain ⟨b,cap⟩:=bc;obtain ⟨cs,pre,rest,g1,g2,g3,g4,g5,g6,g7,g8⟩:=q3;exact ⟨cs,pre,rest,by rw[←hM];exact g1,g2,g3,aN.later hl2 _ _ (aN.c9 e2 _ _ (by simpa[aq.only] using k2) g4),g5,g6,g7,fun o af=>g8 o (nD _ b q1 rfl o af)⟩
   |box y =>
    obtain ⟨b',cs,T,q1,q2,q3,q4,q5⟩:=ho;exact ⟨b',cs,T,(e2 m hm).trans q1,by rw[←hM];exact q2,q3,al.later hl2 _ _ (al.c9 e2 _ _ (by simpa[aq.only] using k2) q4),fun o af=>q5 o (nD _ b' q1 rfl o af)⟩
   |dF o =>
    obtain ⟨b',q1,q2,q3,q4,q5⟩:=ho;exact ⟨b',(e2 m hm).trans q1,by rw[←hM];exact q2,q3,q4,fun o af=>q5 o (nD _ b' q1 rfl o af)⟩
   |bt ks vs =>
    obtain ⟨b',es,ck,q1,q2,q3,q4,q5,q6,q7⟩:=ho;simp only[aq.only,t8] at k2;exact ⟨b',es,ck,(e2 m hm).trans q1,by rw[←hM];exact q2,q3,q4,aJ.later hl2 _ _ (aJ.c9 e2 _ _ k2.1 q5),aJ.later hl2 _ _ (aJ.c9 e2 _ _ k2.2 q6),fun o af=>q7 o (nD _ b' q1 rfl o af)⟩
   |it ks vs left cur=>cases k3
   |dC T xs =>
    obtain ⟨aK,q1,q2,q3⟩:=ho;refine ⟨aK,(e2 m hm).trans q1,q2,?_⟩;cases aK with
    |none=>exact q3
    |some bc =>
     obtain ⟨b,cap⟩:=bc;obtain ⟨cs,r,g1,g2,g3,g4,g5,g6,g7⟩:=q3;exact ⟨cs,r,by rw[←hM];exact g1,g2,g3,g4,g5,g6,fun o af=>g7 o (nD _ b q1 rfl o af)⟩
 ·exact ab.cO m m' e e' b (cut m e g1).2 (cut m' e' g2).2 g3 g4
 ·rw[←hM];have:=ab.dM;rw[hc] at this ⊢;exact this
 ·rw[hD2] at af;have hnm:¬ c.eX b:=by
    rw[hM];rintro (h | h);· omega
    ·exact hno h
  rcases af.2 with h | h
  ·have:=ab.c4 b o h hnm;rw[hc] at this;exact this
  ·exact absurd h.2 hnm
 ·rw[e2 m hin];have ho:A.o m≠none:=by
   cases hx:aj os m with
   |none=>simp[aw,hx] at hin
   |some x=>rw[(J m x hx).1];simp
  rcases ab.dQ m e (by rw[hc];exact hm) with h | h
  ·have hob:=ab.bP m;cases hx:A.o m with
   |none=>exact absurd hx ho
   |some x=>rw[hx] at hob;exact absurd h (tv hob)
  ·exact h
theorem aV.tf{P:Program}{n:Nat}{w:World}{D:aP}{E:a8}{Y:Value→List I→List (Nat×aq)→cC→Prop}{fk:Option (List Deferred)}{rs:List bK}{post:cC}{fn:Func}{A:ai}{a:Act}{w':World}{D':aP}{E':a8}
  (ab:aV ⟨P,w,D,n,cI E,E,Y,none,fk⟩ A a w' D' E') (hrs:gP P fn.results.toList=some rs) (h:ja rs post A):∃ v,(results fn a.tmps).run P w'=.ok v w'∧lG w D E post v w':=by
 obtain ⟨os,xs,J,U,ah⟩:=h;obtain ⟨D2,E2,hw,e2,e2n,q1,q2,q3,q4,q5,q6⟩:=ab.wB J;have hu:ev (A.kz os) A:=fun n x hx=>by
  simp only[ai.kz] at hx;split at hx
  ·cases hx
  ·exact hx
 obtain ⟨vs,k1,k2⟩:=xB ab hu (os:=os) (E':=E2) hw e2 e2n fn.results.toList rs xs hrs U;have hres:(results fn a.tmps).run P w'=.ok (if h:vs.toArray.size=1 then vs.toArray[0] else .tuple vs.toArray) w':=by
  rw[ZH,Sem.run_bind,Array.mapM_eq_mapM_toList,Sem.run_map,k1];rfl
 refine ⟨_,hres,D2,E2,jX xs,os,ah,?_,q1,q2,q3,q4,q5,q6⟩
 match xs,vs,k2 with
 | [x],vs,k2 =>
  simp only[aJ] at k2;obtain ⟨v,rest,cs,rfl,q1,q2,rfl⟩:=k2;simpa[jX] using jC q1 q2
 | [],vs,k2 =>
  simp only[aJ] at k2;subst k2;simp[jX,bd,aJ]
 |x::y::xs,vs,k2 =>
  have ao:vs.length≠1:=by
   simp only[aJ] at k2;obtain ⟨v,rest,cs,rfl,_,_,v2,rest2,cs2,rfl,_⟩:=k2;simp
  simp only[jX,bd];exact ⟨vs,by simp[ao],k2⟩
theorem Cx{P:Program}{n:Nat}{w:World}{D:aP}{E:a8}{Y:Value→List I→List (Nat×aq)→cC→Prop}{rs:List bK}{post:cC}{fn:Func}{A:ai}{D':aP}{E':a8}(hrs:gP P fn.results.toList=some rs)(h:ja rs post A) :
  ∀ (ds:List Deferred) (a:Act) (w':World),a.defers=ds→aV ⟨P,w,D,n,cI E,E,Y,none,none⟩ A a w' D' E'→LeavesInM Fence.wide 9 P fn a.tmps (fun e w'=>∃ v,e=.returned v∧lG w D E post v w') ds .returning w'
 | [],a,w',_,ab=>by
  obtain ⟨v,J,U⟩:=ab.tf hrs h;exact ⟨v,J,v,rfl,U⟩
 |d::ds,a,w',af,ab=>by
  obtain ⟨Bs,J,_⟩:=ab.eB;rw[af] at J;cases Bs with
  |nil=>cases J
  |cons B Bs =>
   simp only[zz3,zw8] at J;obtain ⟨rfl,rfl⟩:=J;obtain ⟨k1,k2⟩:=ab.AR rfl af;exact ⟨by simp,.inl ⟨B,_,rfl,run_takeDeferred k1,Cx hrs h _ { a with defers:=Bs.map _ } _ rfl k2⟩⟩
theorem rN{w:World}{D:aP}{E:a8} : ∀ {args:List I} {vs:List Value},aJ w D E args vs→vs.length=args.length
 | [],vs,h=>by simp only[aJ] at h;subst h;rfl
 |x::xs,vs,h=>by
  simp only[aJ] at h;obtain ⟨v,rest,cs,rfl,_,_,ah⟩:=h;simp[rN ah]
def kC(P:Program)(f:FuncId)(Y:Value→List I→List (Nat×aq)→cC→Prop)(args:List I)(os:List (Nat×aq))(post:cC):Prop :=
 eZ P f=true∧∀ (w:World) (D:aP) (E:a8) (vs:List Value),(∀ n,oK ⟨P,w,D,n,cI E,E,Y,none,none⟩)→(∀ b o,D b o→b<w.heap.size)→jN (fun _=>True) w D E (aj os)→aJ w D E args vs →
  Calls P f vs.toArray w fun e w'=>∃ v,e=.returned v∧lG w D E post v w'
theorem kC.tw{P:Program}{f:FuncId}{fn:Func}{body:Code}{x:bp}{rs:List bK}{Y:Value→List I→List (Nat×aq)→cC→Prop}{args:List I}{os:List (Nat×aq)}{post:cC}(hf:P.funcs[f]?=some fn)(hb:fn.body=some body)(hcall:eZ P f=true)(hc:eA P fn.ntmps body=some x)
  (hrs:gP P fn.results.toList=some rs) (hn:args.length≤fn.ntmps) (hos:∀ m,aw os m=true→fn.ntmps≤m∧1000000≤m) (h:∀ (w:World) (D:aP) (E:a8),ae ⟨P,w,D,fn.ntmps,cI E,E,Y,none,none⟩ x (oh rs post) (oE args os)):kC P f Y args os post:=by
 refine ⟨hcall,fun w D E vs hy hD ho hv =>?_⟩;have hlen:=rN hv;have hsim:=xZ (P:=P) (n:=fn.ntmps) (Y:=Y) hD ho hv (by omega) hos (hy fn.ntmps);refine (callsIn_wide (n:=9)).1 (callsIn_of_wp_marks hf hb trivial ?_);refine wpIn_mono (h w D E body hc _ w ⟨D,E,hsim⟩) ?_;rintro e a w' ⟨A,hq,D',E',ab⟩;cases e <;>simp only[oh] at hq <;>first
  |exact Cx hrs hq a.defers a w' rfl ab
  |cases hq
theorem p0{P:Program}{w:World}{D:aP}{E:a8}{n:Nat}{fk:Option (List Deferred)}(ao:gM P w (cI E)):oK ⟨P,w,D,n,cI E,E,dv,none,fk⟩:=⟨ao,fun _ _ _ _ h=>h.elim⟩
theorem cP.C4{P:Program}{f:FuncId}{args:List I}{os:List (Nat×aq)}{post:cC}(h:kC P f dv args os post):cP P f args os post :=
 ⟨h.1,fun w D E vs ao hD ho hv=>(h.2 w D E vs (fun _=>p0 ao) hD ho hv).mono fun e w' ⟨v,he,D',E',r,os',k⟩=>⟨v,D',E',r,os',he,k⟩⟩
theorem aZ.YN{P:Program}{f:FuncId}{args:List I}{r:I}(h:cP P f args [] (fun r' os'=>r'=r∧os'=[])):aZ P f args r:=by
 refine ⟨h.1,fun w D vs ao hD hv =>?_⟩;have bM:jN (fun _=>True) w D di (aj []):=⟨fun n=>rfl,fun n m e e' b h=>by simp[di] at h⟩
 refine (h.2 w D di vs (ao.nQ fun b ⟨n,e,J,_⟩=>by simp[di] at J) hD bM hv).mono fun e w' hq =>?_;obtain ⟨v,D',E',r',os',he,⟨J,U⟩,k1,k2,k3,k4,k5,k6,_⟩:=hq;subst J U;refine ⟨v,D',he,?_,?_,k5,fun b o af hlt=>k6 b o af hlt fun ⟨n,e,h,_⟩=>by simp[di] at h⟩
 ·have:E'=di:=by funext n;exact k2.bP n
  rw[←this];exact k1
 ·exact k3.HX fun k hk hm=>by
   rcases hm with hm | ⟨n,e,h,_⟩
   ·omega
   ·simp[di] at h
theorem ZX(A:ai):A.kz []=A:=rfl
theorem Fm{A:ai} : ∀ {rs:List bK} {xs:List I},e9 A rs=some xs→mc A (A.kz []) [] rs xs
 | [],xs,h=>by simp only[e9,v6] at h;subst h;trivial
 |r::rs,xs,h=>by
  simp only[e9] at h;split at h
  ·rename_i x xs' J U;simp only[v6] at h;subst h;refine ⟨?_,Fm U⟩;rw[ZX];cases r with
   |tmp t=>exact ⟨_,rfl,.inr J⟩
   |cell a s =>
    simp only[tQ,ry] at J ⊢;split at J
    ·rename_i y hy;split at J
     ·rename_i hok;exact ⟨y,by simp[hok],.inr J⟩
     ·cases J
    ·cases J
  ·cases h
theorem ZI{rs:List bK}{r:I}{e:Exit}{A:ai}(h:ku rs r e A):oh rs (fun r' os'=>r'=r∧os'=[]) e A:=by
 cases e <;>simp only[ku] at h <;>first
  |exact h.elim
  |(obtain ⟨xs,J,U⟩:=h
    exact ⟨[],xs,fun n x hx=>by simp[aj] at hx,Fm J,U,rfl⟩)
theorem aZ.tw{P:Program}{f:FuncId}{fn:Func}{body:Code}{x:bp}{rs:List bK}{args:List I}{r:I}(hf:P.funcs[f]?=some fn)(hb:fn.body=some body)(hcall:eZ P f=true)(hc:eA P fn.ntmps body=some x)
  (hrs:gP P fn.results.toList=some rs) (hn:args.length≤fn.ntmps) (h:∀ (w:World) (D:aP) (E:a8),ae ⟨P,w,D,fn.ntmps,cI E,E,dv,none,none⟩ x (ku rs r) (oD args)):aZ P f args r:=by
 refine aZ.YN (cP.C4 (kC.tw hf hb hcall hc hrs hn (fun m hm=>by simp[aw,aj] at hm) fun w D E =>?_));exact (h w D E).mono fun e B hq=>ZI hq
end Go.Abs
namespace Go.Abs
open Go Go.RowKit
def cz(ts:List (Nat×I)):List (Nat×I)→Prop
 | []=>True
 |(k,v)::r=>bZ ts k=v∧cz ts r
def c6(os:List (Nat×aq)):List (Nat×aq)→Prop
 | []=>True
 |(k,v)::r=>aj os k=some v∧c6 os r
def cJ(p:Nat→Bool):List (Nat×I)→Prop
 | []=>True
 |(_,v)::r=>v.only p=true∧cJ p r
theorem uf{ts:List (Nat×I)} : ∀ {ts':List (Nat×I)},cz ts ts'→∀ k,bZ ts' k=.du∨bZ ts' k=bZ ts k
 | [],_,k=>.inl rfl
 |(j,v)::r,h,k=>by
  simp only[cz] at h;simp only[bZ];split
  ·rename_i hk;subst hk;exact .inr h.1.symm
  ·exact uf h.2 k
theorem FR{os:List (Nat×aq)} : ∀ {os':List (Nat×aq)},c6 os os'→∀ k,aj os' k=none∨aj os' k=aj os k
 | [],_,k=>.inl rfl
 |(j,v)::r,h,k=>by
  simp only[c6] at h;simp only[aj];split
  ·rename_i hk;subst hk;exact .inr h.1.symm
  ·exact FR h.2 k
theorem w9{p:Nat→Bool} : ∀ {ts:List (Nat×I)},cJ p ts→∀ k,(bZ ts k).only p=true
 | [],_,k=>by simp[bZ,I.only]
 |(j,v)::r,h,k=>by
  simp only[cJ] at h;simp only[bZ];split
  ·exact h.1
  ·exact w9 h.2 k
theorem Da{p:Nat→Bool} : ∀ {os:List (Nat×aq)},cF p os→∀ k x,aj os k=some x→x.only p=true
 | [],_,k,x,hx=>by simp[aj] at hx
 |(j,v)::r,h,k,x,hx=>by
  simp only[cF] at h;simp only[aj] at hx;split at hx
  ·simp only[v6] at hx;subst hx;exact h.1
  ·exact Da h.2 k x hx
theorem bw.dh{ts ts':List (Nat×I)}{os os':List (Nat×aq)}(J:cz ts ts')(U:c6 os os')(ah:cJ (aw os') ts')(ar:cF (aw os') os'):bw (au ts os) (au ts' os'):=by
 rintro c a w ⟨D,E,ab⟩;have hp:∀ n,aw os' n=true→(if aw os' n then E n else none)=E n:=fun n hn=>by simp[hn]
 refine ⟨D,fun n=>if aw os' n then E n else none,ab.sz,ab.eB,fun t =>?_,ab.dM,ab.c4,ab.aR,fun n =>?_,fun n m e e' b J U ah ar =>?_,fun n e hn =>?_,ab.eN,ab.cU,ab.eU,ab.fw⟩
 ·have:=uf J t;rcases this with h | h
  ·simp only[au];rw[h];simp[bd]
  ·refine bd.c9 (p:=aw os') hp (w9 ah t) ?_;have:=ab.dP t;simp only[au] at *;rw[h];exact this
 ·have ho:=ab.bP n;simp only[au] at *;rcases FR U n with h | h
  ·rw[h];simp[cY,aw,h]
  ·rw[h];by_cases hin:aj os n=none
   ·rw[hin];simp[cY,aw,h,hin]
   ·have aA:(if aw os' n then E n else none)=E n:=hp n (by simp[aw,h];cases bM:aj os n <;>simp_all);cases hx:aj os n with
    |none=>exact absurd hx hin
    |some x =>
     have hon:=Da ar n x (h.trans hx);rw[hx] at ho;cases x with
     |box x =>
      obtain ⟨b,cs,T,k1,k2,k3,k4,k5⟩:=ho;exact ⟨b,cs,T,aA.trans k1,k2,k3,al.c9 hp _ _ (by simpa[aq.only] using hon) k4,k5⟩
     |bW T sz es =>
      obtain ⟨aK,k1,k2,k3⟩:=ho;refine ⟨aK,aA.trans k1,k2,?_⟩;cases aK with
      |none=>exact k3
      |some bc =>
       obtain ⟨b,cap⟩:=bc;obtain ⟨cs,pre,rest,q1,q2,q3,q4,q5⟩:=k3;exact ⟨cs,pre,rest,q1,q2,q3,aN.c9 hp _ _ (by simpa[aq.only] using hon) q4,q5⟩
     |dC T xs =>
      obtain ⟨aK,k1,k2,k3⟩:=ho;exact ⟨aK,aA.trans k1,k2,k3⟩
     |dF x =>
      obtain ⟨b,k1,k2⟩:=ho;exact ⟨b,aA.trans k1,k2⟩
     |bt ks vs =>
      obtain ⟨b,es,ck,k1,k2,k3,k4,k5,k6,k7⟩:=ho;simp only[aq.only,t8] at hon;exact ⟨b,es,ck,aA.trans k1,k2,k3,k4,aJ.c9 hp _ _ hon.1 k5,aJ.c9 hp _ _ hon.2 k6,k7⟩
     |it ks vs left cur =>
      obtain ⟨r,b,es,ck,si,se,la,k1,k2,k3,k4,k5,k6,k7⟩:=ho;simp only[aq.only,t8] at hon;exact ⟨r,b,es,ck,si,se,la,aA.trans k1,k2,k3,k4,aJ.c9 hp _ _ hon.1 k5,aJ.c9 hp _ _ hon.2 k6,k7⟩
 ·refine ab.cO n m e e' b ?_ ?_ ah ar
  ·split at J
   ·exact J
   ·cases J
  ·split at U
   ·exact U
   ·cases U
 ·by_cases hi:aw os' n=true
  ·simp only[hi,if_true];exact ab.dQ n e hn
  ·simp only[hi];exact .inl rfl
def bI:Nat→List I→List (Nat×I)
 |_,[]=>[]
 |k,a::as=>(k,a)::bI (k+1) as
theorem CJ:∀ (as:List I) (k t:Nat),bZ (bI k as) t=if t<k then .du else (as[t-k]?).getD .du
 | [],k,t=>by simp[bI,bZ]
 |a::as,k,t=>by
  simp only[bI,bZ,CJ as (k+1) t];by_cases h:t=k
  ·subst h;simp
  ·rw[if_neg h];by_cases U:t<k
   ·rw[if_pos (by omega),if_pos U]
   ·rw[if_neg (by omega),if_neg U,show t-k=(t-(k+1))+1 from by omega];simp
theorem ud(args:List I)(os:List (Nat×aq)):bw (oE args os) (au (bI 0 args) os):=by
 rintro c a w ⟨D,E,ab⟩;refine ⟨D,E,ab.sz,ab.eB,fun t =>?_,ab.dM,ab.c4,ab.aR,ab.bP,ab.cO,ab.dQ,ab.eN,ab.cU,ab.eU,ab.fw⟩;have:=ab.dP t;simp only[au,CJ,oE,Nat.not_lt_zero,if_false,Nat.sub_zero] at *;cases h:args[t]? with
 |none=>simp[bd]
 |some x=>simpa[zz0,h] using this
theorem aao(args:List I):bw (oD args) (au (bI 0 args) []):=ud args []
theorem tn(ts:List (Nat×I))(os:List (Nat×aq))(d:Nat)(v:I):(au ts os).put d v=au ((d,v)::ts) os:=rfl
theorem CV(ts:List (Nat×I))(os:List (Nat×aq))(d:Nat)(v:I):(au ts os).aS (some d) v=au ((d,v)::ts) os:=rfl
theorem XY(A:ai)(v:I):A.aS none v=A:=rfl
theorem qZ(ts:List (Nat×I))(os:List (Nat×aq))(d:Nat)(x:aq):(au ts os).aT d x=au ts ((d,x)::os):=rfl
theorem XZ(ts:List (Nat×I))(os:List (Nat×aq))(k:Nat):(au ts os).t k=bZ ts k:=rfl
theorem XX(ts:List (Nat×I))(os:List (Nat×aq))(k:Nat):(au ts os).o k=aj os k:=rfl
theorem cu(j:Nat)(v:I)(r:List (Nat×I))(k:Nat):bZ ((j,v)::r) k=if k=j then v else bZ r k:=rfl
theorem dE(j:Nat)(v:aq)(r:List (Nat×aq))(k:Nat):aj ((j,v)::r) k=if k=j then some v else aj r k:=rfl
theorem nS(k:Nat):aj [] k=none:=rfl
theorem Nc(A:ai)(k:Nat):ak A (.t k)=A.t k:=rfl
theorem Nb(A:ai)(x:I):ak A (.c x)=x:=rfl
noncomputable def de(d:Option Nat)(rest:List aI)(A:ai)(v:I):cM:=aB rest (A.aS d v)
theorem Xt(d:Option Nat)(rest:List aI)(A:ai)(v:I):de d rest A v=aB rest (A.aS d v):=rfl
theorem Ij(v:I)(k:I→cM):cS (some v) k=k v:=rfl
theorem HC(A:ai):aB [] A=.done A:=rfl
noncomputable def bL(A:ai)(d:Option Nat)(op:bT)(rest:List aI):cM:=bl A d op rest (aB rest)
noncomputable def gS(x:I)(b:Bool)(d:Option Nat)(op:bT)(rest:List aI)(A:ai):cM :=
 match x with
 | .bool b'=>if b'=b then bL A d op rest else aB rest (A.aS d .undef)
 | .undef=>aB rest (A.aS d .undef)
 |_=>.fail
theorem aQ.guard{P:Program}{Y:Value→List I→List (Nat×aq)→cC→Prop}{dr:Bool}{K:ai→Prop}{x b:Bool}{d:Option Nat}{op:bT}{rest:List aI}{A:ai}(J:x=b→aQ P Y dr K (bL A d op rest))(U:x = !b→aQ P Y dr K (aB rest (A.aS d .undef))):aQ P Y dr K (gS (.bool x) b d op rest A):=by
 unfold gS;by_cases h:x=b
 ·simp only[if_pos h];exact J h
 ·simp only[if_neg h];exact U (by cases x <;>cases b <;>simp_all)
def I.dH:I→Option (List I)
 | .agg fs=>some fs
 |_=>none
def nx(p:List Nat):Option I→Option I
 |some f=>f.at p
 |none=>none
def kL(i:Nat)(p:List Nat):Option (List I)→Option I
 |some fs=>nx p fs[i]?
 |none=>none
theorem yM(c:I):c.at []=some c:=by cases c <;>rfl
theorem HR(c:I)(i:Nat)(p:List Nat):c.at (i::p)=kL i p c.dH:=by
 cases c <;>first | rfl | (rename_i fs;simp only[I.at,kL,I.dH,nx])
def xQ(fs:List I)(i:Nat)(p:List Nat)(v:I):Option I→I
 |some f=>.agg (fs.set i (f.ep p v))
 |none=>.agg fs
def tU(c:I)(i:Nat)(p:List Nat)(v:I):Option (List I)→I
 |some fs=>xQ fs i p v fs[i]?
 |none=>c
theorem nd(c v:I):c.ep [] v=v:=by cases c <;>rfl
theorem ZZ(c:I)(i:Nat)(p:List Nat)(v:I):c.ep (i::p) v=tU c i p v c.dH:=by
 cases c <;>first | rfl | (rename_i fs;simp only[I.ep,tU,I.dH];cases fs[i]? <;>rfl)
def fm(p:List Nat):Option aq→Option I
 |some (.box c)=>c.at p
 |_=>none
def gQ(A:ai):I→Option I
 | .ref x=>some x
 | .ptr n p=>fm p (A.o n)
 |_=>none
theorem lL(A:ai)(x:I):cK A x=gQ A x:=by
 cases x <;>first | rfl | (rename_i n p;simp only[cK,gQ];cases A.o n with | none=>rfl | some y=>cases y <;>rfl)
def nX(s:Option Nat)(x:I):Option I:=if b8 s x=true then some x else none
def nY(s:Option Nat):Option I→Option I
 |some x=>nX s x
 |none=>none
open Classical in
noncomputable def db(fs:List I)(f off:Nat)(y:I):Option I:=if f<fs.length∧I.sizes (fs.take f)=off then some y else none
noncomputable def qp(n:Nat)(p:List Nat)(f off:Nat):Option (List I)→Option I
 |some fs=>db fs f off (.ptr n (p++[f]))
 |none=>none
noncomputable def o6(fs:List I)(f off:Nat):Option I→Option I
 |some v=>db fs f off (.ref v)
 |none=>none
noncomputable def qt(f off:Nat):Option (List I)→Option I
 |some fs=>o6 fs f off fs[f]?
 |none=>none
def fC:Option I→Option (List I)
 |some x=>x.dH
 |none=>none
noncomputable def jg(A:ai)(f off:Nat):I→Option I
 | .ref c=>qt f off c.dH
 | .ptr n p=>qp n p f off (fC (fm p (A.o n)))
 |_=>none
theorem Zc(A:ai)(f off:Nat)(x:aO):bn A (.fa f off x)=jg A f off (ak A x):=by
 simp only[bn];generalize ak A x=y;cases y with
 |ref c =>
  cases c <;>simp only[jg,I.dH,qt]
  rename_i fs;cases h:fs[f]? with
  |none=>simp[o6]
  |some v =>
   have ao:f<fs.length:=(zz6.1 h).1;simp only[o6,db,ao,true_and]

 |ptr n p =>
  simp only[jg,lL,gQ];cases fm p (A.o n) with
  |none=>simp[fC,qp]
  |some c =>
   cases c <;>simp only[fC,I.dH,qp]
   simp only[db]

 |_=>simp only[jg]
noncomputable def kl(f off:Nat)(s:Option Nat):Option (List I)→Option I
 |some fs=>match fs[f]? with
  |some v=>(db fs f off v).bind (nX s)
  |none=>none
 |none=>none
theorem Zd(A:ai)(f off:Nat)(s:Option Nat)(x:aO):bn A (.fl f off s x)=kl f off s (ak A x).dH:=by
 simp only[bn];generalize ak A x=y;cases y <;>simp only[kl,I.dH]
 rename_i fs;cases h:fs[f]? with
 |none=>rfl
 |some v =>
  have ao:f<fs.length:=(zz6.1 h).1;simp only[db,ao,true_and];by_cases J:I.sizes (fs.take f)=off <;>by_cases U:b8 s v=true <;>simp[J,U,nX]
open Classical in
noncomputable def lT(k:Int)(n:Nat)(y:Option I):Option I:=if 0≤k∧k<n then y else none
noncomputable def lS(n esz:Nat)(fs:List I)(y:Option I):Option I:=if jf n esz fs=true then y else none
noncomputable def s8(n esz:Nat)(k:Int):Option (List I)→Option I
 |some fs=>lS n esz fs ((fs[k.toNat]?).map .ref)
 |none=>none
noncomputable def qG(n esz m:Nat)(p:List Nat)(k:Int):Option (List I)→Option I
 |some fs=>lS n esz fs (some (.ptr m (p++[k.toNat])))
 |none=>none
noncomputable def nN(A:ai)(n esz:Nat)(k:Int):I→Option I
 | .ref c=>lT k n (s8 n esz k c.dH)
 | .ptr m p=>lT k n (qG n esz m p k (fC (fm p (A.o m))))
 |_=>none
noncomputable def qF(A:ai)(n esz:Nat)(x:I):I→Option I
 | .int _ k=>nN A n esz k x
 |_=>none
theorem Ze(A:ai)(n esz:Nat)(x i:aO):bn A (.ia n esz x i)=qF A n esz (ak A x) (ak A i):=by
 simp only[bn];generalize ak A x=y;generalize ak A i=z;cases z <;>simp only[qF]
 rename_i kk k;cases y with
 |ref c =>
  simp only[nN,lT];split
  ·cases c <;>simp only[I.dH,s8,lS]
  ·rfl
 |ptr m p =>
  simp only[nN,lT,lL,gQ];split
  ·cases fm p (A.o m) with
   |none=>simp[fC,qG]
   |some c=>cases c <;>simp only[fC,I.dH,qG,lS]
  ·rfl
 |_=>simp only[nN];split <;>rfl
open Classical in
noncomputable def lU(m:Nat)(p:List Nat)(sz lo l esz:Nat)(k:Int):Option (List I)→Option I
 |some _=>if sz=esz∧0≤k∧k<l then some (.ptr m (p++[lo+k.toNat])) else none
 |none=>none
open Classical in
noncomputable def jS(A:ai)(esz:Nat)(k:Int):I→Option I
 | .slice sz es=>if sz=esz∧0≤k∧k<es.length then (es[k.toNat]?).map .ref else none
 | .own m l=>match A.o m with
  |some (.bW _ sz es)=>if l=es.length∧sz=esz∧0≤k∧k<es.length then (es[k.toNat]?).map .ref else none
  |_=>none
 | .view m p sz lo l=>lU m p sz lo l esz k (fC (fm p (A.o m)))
 |_=>none
noncomputable def qI(A:ai)(esz:Nat)(x:I):I→Option I
 | .int _ k=>jS A esz k x
 |_=>none
theorem Zf(A:ai)(esz:Nat)(x i:aO):bn A (.is esz x i)=qI A esz (ak A x) (ak A i):=by
 simp only[bn];generalize ak A x=y;generalize ak A i=z;cases z <;>simp only[qI]
 cases y <;>simp only[jS]
 ·split <;>simp_all
 ·rename_i m p sz lo l;simp only[lL,gQ];cases fm p (A.o m) with
  |none=>rfl
  |some c=>cases c <;>simp only[fC,I.dH,lU]
noncomputable def tc(n esz:Nat)(s:Option Nat)(k:Int):Option (List I)→Option I
 |some fs=>lT k n (lS n esz fs (nY s fs[k.toNat]?))
 |none=>none
noncomputable def qL(n esz:Nat)(s:Option Nat)(x:I):I→Option I
 | .int _ k=>tc n esz s k x.dH
 |_=>none
theorem Zg(A:ai)(n esz:Nat)(s:Option Nat)(x i:aO):bn A (.ix n esz s x i)=qL n esz s (ak A x) (ak A i):=by
 simp only[bn];generalize ak A x=y;generalize ak A i=z;cases z <;>simp only[qL]
 rename_i kk k;cases y <;>simp only[I.dH,tc]
 case agg fs =>
  simp only[lT,lS];split
  ·split
   ·cases fs[k.toNat]? <;>rfl
   ·rfl
  ·rfl
 all_goals (split <;>rfl)
def jB(A:ai):I→Option I
 | .slice _ es=>some (.int .i64 es.length)
 | .nils _=>some (.int .i64 0)
 | .c0 _=>some (.int .i64 0)
 | .own m l=>match A.o m with | some (.bW _ _ es)=>if l=es.length then some (.int .i64 es.length) else none | _=>none
 | .view _ _ _ _ k=>some (.int .i64 k)
 |_=>none
theorem Zi(A:ai)(x:aO):bn A (.len x)=jB A (ak A x):=by
 simp only[bn];generalize ak A x=y;cases y <;>rfl
open Classical in
noncomputable def r0(n esz:Nat)(fs:List I)(y:I):Option I:=if jf n esz fs=true∧n≤maxLen∧n≠0 then some y else none
noncomputable def r2(n esz m:Nat)(p:List Nat):Option (List I)→Option I
 |some fs=>r0 n esz fs (.view m p esz 0 n)
 |none=>none
noncomputable def F3(n esz:Nat):Option (List I)→Option I
 |some fs=>r0 n esz fs (.slice esz fs)
 |none=>none
noncomputable def oF(A:ai)(n esz:Nat):I→Option I
 | .ptr m p=>r2 n esz m p (fC (fm p (A.o m)))
 | .ref c=>F3 n esz c.dH
 |_=>none
theorem Zj(A:ai)(n esz:Nat)(x:aO):bn A (.va n esz x)=oF A n esz (ak A x):=by
 simp only[bn];generalize ak A x=y;cases y with
 |ptr m p =>
  simp only[oF,lL,gQ];cases fm p (A.o m) with
  |none=>simp[fC,r2]
  |some c=>cases c <;>simp only[fC,I.dH,r2,r0] <;>(split <;>simp_all)
 |ref c=>cases c <;>simp only[oF,I.dH,F3,r0] <;>(split <;>simp_all)
 |_=>simp only[oF]
theorem Zh(A:ai)(s:Option Nat)(x:aO):bn A (.ld s x)=nY s (gQ A (ak A x)):=by
 simp only[bn,lL];cases gQ A (ak A x) <;>simp only[nY,nX]
noncomputable def rq(A:ai)(d:Option Nat)(a b:aO)(rest:List aI):I→cM
 | .bool t=>aB rest (A.aS d (if t then ak A a else ak A b))
 |_=>.fail
noncomputable def rY(op:UnOp)(x:I):Option I:=match op,x with
  | .not,.bool b=>some (.bool !b)
  | .neg,.int k n=>some (.int k (k.wrap (0-n)))
  | .xor,.int k n=>some (.int k (oV k n))
  |_,_=>none
def vE(i:Nat):I→Option I
 | .tuple fs=>fs[i]?
 |_=>none
def vl(k:IntKind):I→Option I
 | .int _ n=>some (.int k (k.wrap n))
 |_=>none
noncomputable def uM(A:ai)(d:Nat)(z:I)(rest:List aI):Option aq→cM
 |none=>aB rest ((A.aT d (.box z)).put d (.ptr d []))
 |some _=>.fail
noncomputable def sG(A:ai)(d:Nat)(z:I)(rest:List aI)(v:Bool):cM:=if v=true then aB rest ((A.aT d (.box z)).put d (.ptr d [])) else .fail
noncomputable def sF(A:ai)(d:Nat)(z:I)(rest:List aI):Option aq→cM
 |none=>sG A d z rest z.bS
 |some _=>.fail
open Classical in
noncomputable def dk(A:ai)(s:Option Nat)(n:Nat)(p:List Nat)(b v:I)(rest:List aI):Option I→cM
 |some old=>if w5 s v old then aB rest (A.aT n (.box (b.ep p v))) else .fail
 |none=>.fail
noncomputable def ua(A:ai)(s:Option Nat)(n:Nat)(p:List Nat)(v:I)(rest:List aI):Option aq→cM
 |some (.box b)=>dk A s n p b v rest (b.at p)
 |_=>.fail
noncomputable def dB(A:ai)(s:Option Nat)(v:I)(rest:List aI):I→cM
 | .ptr n p=>ua A s n p v rest (A.o n)
 |_=>.fail
noncomputable def qh(A:ai)(d:Option Nat)(args:List I)(rest:List aI):I→cM
 | .func f caps=>.call (kU f) (ib f args caps) (bY true A (ib f args caps)) (bY false A (ib f args caps)) d rest A
 | .raw v=>.kN v args d rest A
 |_=>.fail
section
variable (d:Option Nat) (rest:List aI) (A:ai)
theorem Ho(op:bT):aB (⟨d,op,none⟩::rest) A=bL A d op rest:=rfl
theorem Hp(op:bT)(t:Nat)(b:Bool):aB (⟨d,op,some (t,b)⟩::rest) A=gS (A.t t) b d op rest A:=rfl
theorem Wy(op:bT):gS (.bool true) true d op rest A=bL A d op rest:=by simp[gS]
theorem Wv(op:bT):gS (.bool false) false d op rest A=bL A d op rest:=by simp[gS]
theorem Wx(op:bT):gS (.bool true) false d op rest A=aB rest (A.aS d .undef):=by simp[gS]
theorem Ww(op:bT):gS (.bool false) true d op rest A=aB rest (A.aS d .undef):=by simp[gS]
theorem Wz(op:bT)(b:Bool):gS .undef b d op rest A=aB rest (A.aS d .undef):=rfl
theorem YC(x:aO):bL A d (.mv x) rest=aB rest (A.aS d (ak A x)):=rfl
theorem YG(c a b:aO):bL A d (.pick c a b) rest=rq A d a b rest (ak A c):=by
 simp only[bL,bl,bn];cases ak A c <;>simp only[cS,rq]
theorem Yd(op:BinOp)(x y:aO):bL A d (.bin op x y) rest=cS (cE op (ak A x) (ak A y)) (de d rest A):=rfl
theorem Ym(ty:cH)(neg:Bool)(x y:aO):bL A d (.eqv ty neg x y) rest=cS ((b7 ty (ak A x) (ak A y)).map fun b=>.bool (if neg then !b else b)) (de d rest A):=rfl
theorem YL(op:UnOp)(x:aO):bL A d (.un op x) rest=cS (rY op (ak A x)) (de d rest A):=rfl
theorem Yk(k:IntKind)(x:aO):bL A d (.conv k x) rest=cS (vl k (ak A x)) (de d rest A):=by
 simp only[bL,bl,bn];cases ak A x <;>rfl
theorem Yt(s:Option Nat)(x:aO):bL A d (.ld s x) rest=cS (nY s (gQ A (ak A x))) (de d rest A):=by rw[←Zh];rfl
theorem Yo(f off:Nat)(x:aO):bL A d (.fa f off x) rest=cS (jg A f off (ak A x)) (de d rest A):=by rw[←Zc];rfl
theorem Yp(f off:Nat)(s:Option Nat)(x:aO):bL A d (.fl f off s x) rest=cS (kl f off s (ak A x).dH) (de d rest A):=by rw[←Zd];rfl
theorem Yq(n esz:Nat)(x i:aO):bL A d (.ia n esz x i) rest=cS (qF A n esz (ak A x) (ak A i)) (de d rest A):=by rw[←Ze];rfl
theorem Yr(esz:Nat)(x i:aO):bL A d (.is esz x i) rest=cS (qI A esz (ak A x) (ak A i)) (de d rest A):=by rw[←Zf];rfl
theorem Ys(n esz:Nat)(s:Option Nat)(x i:aO):bL A d (.ix n esz s x i) rest=cS (qL n esz s (ak A x) (ak A i)) (de d rest A):=by rw[←Zg];rfl
theorem Yu(x:aO):bL A d (.len x) rest=cS (jB A (ak A x)) (de d rest A):=by rw[←Zi];rfl
theorem YM(n esz:Nat)(x:aO):bL A d (.va n esz x) rest=cS (oF A n esz (ak A x)) (de d rest A):=by rw[←Zj];rfl
theorem Ye(zs:List I)(ps:List (Nat×aO)):bL A d (.bld zs ps) rest=cS ((dO zs (ps.map fun p=>(p.1,ak A p.2))).map .agg) (de d rest A):=rfl
theorem Yn(x:aO)(i:Nat):bL A d (.ext x i) rest=cS (vE i (ak A x)) (de d rest A):=by
 simp only[bL,bl,bn];cases ak A x <;>rfl
theorem Yy(f:FuncId)(caps:List aO):bL A d (.mk f caps) rest=cS (if ((caps.map (ak A)).all fun y=>y.bS)=true then some (.func f (caps.map (ak A))) else none) (de d rest A):=rfl
theorem Yb(d:Nat)(z:I):bL A (some d) (.alloc z) rest=uM A d z rest (A.o d):=by
 simp only[bL,bl];cases A.o d <;>rfl
theorem Yf(d:Nat)(x:aO):bL A (some d) (.box x) rest=sF A d (ak A x) rest (A.o d):=by
 simp only[bL,bl];cases A.o d <;>simp only[sF,sG]
theorem YK(s:Option Nat)(x v:aO):bL A none (.bg s x v) rest=dB A s (ak A v) rest (ak A x):=by
 simp only[bL,bl];cases ak A x <;>simp only[dB]
 rename_i n p;cases A.o n with
 |none=>rfl
 |some y =>
  cases y <;>simp only[ua]
  rename_i b;cases b.at p <;>simp only[dk]
theorem Yh(f:FuncId)(args:List aO):bL A d (.call f args) rest=.call f (args.map (ak A)) (bY true A (args.map (ak A))) (bY false A (args.map (ak A))) d rest A:=rfl
theorem Yi(x:aO)(args:List aO):bL A d (.fA x args) rest=qh A d (args.map (ak A)) rest (ak A x):=by
 simp only[bL,bl];cases ak A x <;>rfl
end
end Go.Abs
namespace Go.Abs
open Go Go.RowKit
mutual
/-- Closed,and as a result is told: no nil slice but as the empty one. -/
def I.done:I→Bool
 | .agg fs=>I.fZ fs
 | .slice _ es=>I.ca es
 | .ref x=>x.bx
 | .func f caps=>decide (f<1000000)&&I.fZ caps
 | .iface _ v=>v.bx
 | .df ks vs=>I.ca ks&&I.ca vs
 | .bool _ | .int _ _ | .bQ _ | .nilp | .dy | .dW | .any | .raw _=>true
 |_=>false
def I.fZ:List I→Bool
 | []=>true
 |x::xs=>x.done&&I.fZ xs
end
mutual
theorem vp:∀ x:I,x.done=true→x.bx=true
 | .agg fs,h=>by simp only[I.done,I.bx] at *;exact qm fs h
 | .slice _ es,h=>by simpa only[I.done,I.bx] using h
 | .ref x,h=>by simpa only[I.done,I.bx] using h
 | .func _ caps,h=>by simp only[I.done,I.bx,t8] at *;exact qm caps h.2
 | .iface _ v,h=>by simpa only[I.done,I.bx] using h
 | .bool _,_ | .int _ _,_ | .bQ _,_ | .nilp,_ | .dy,_ | .dW,_ | .any,_ | .raw _,_=>by simp[I.bx]
 | .df _ _,h=>by simpa only[I.done,I.bx] using h
 | .nils _,h | .c0 _,h | .ptr _ _,h | .own _ _,h | .view _ _ _ _ _,h | .mref _,h | .dj _,h | .undef,h | .du,h | .tuple _,h=>by simp[I.done] at h
theorem qm:∀ xs:List I,I.fZ xs=true→I.ca xs=true
 | [],_=>rfl
 |x::xs,h=>by
  simp only[I.fZ,I.ca,t8] at *;exact ⟨vp x h.1,qm xs h.2⟩
end
mutual
theorem Bp(aL:Bool)(A:ai):∀ x:I,x.done=true→bj aL A x=some x
 | .agg fs,h=>by simp only[I.done,bj] at *;rw[o9 aL A fs h];rfl
 | .slice _ es,h=>by simp only[I.done] at h;simp[bj,h]
 | .ref x,h=>by simp only[I.done] at h;simp[bj,h]
 | .func _ caps,h=>by simp only[I.done,bj,t8,decide_eq_true_eq] at *;rw[if_pos h.1,o9 aL A caps h.2];rfl
 | .iface _ v,h=>by simp only[I.done] at h;simp[bj,h]
 | .bool _,_ | .int _ _,_ | .bQ _,_ | .nilp,_ | .dy,_ | .dW,_ | .any,_ | .raw _,_=>by simp[bj]
 | .df _ _,h=>by simp only[I.done] at h;simp[bj,h]
 | .nils _,h | .c0 _,h | .ptr _ _,h | .own _ _,h | .view _ _ _ _ _,h | .mref _,h | .dj _,h | .undef,h | .du,h | .tuple _,h=>by simp[I.done] at h
theorem o9(aL:Bool)(A:ai):∀ xs:List I,I.fZ xs=true→bY aL A xs=some xs
 | [],_=>by simp[bY]
 |x::xs,h=>by
  simp only[I.fZ,t8] at h;simp only[bY,Bp aL A x h.1,o9 aL A xs h.2]
end
theorem MV{x:I}(h:x.done=true):x.bS=true:=by cases x <;>simp_all[I.done,I.bS]
class Enc (α:Type) where
 enc:α→I
 sz:Nat
 aX:cR
 gI:Bool
 done:∀ x,(enc x).done=true
 size:∀ x,(enc x).size=sz
 iq:∀ x,(enc x).aX=aX
 agg:∀ x,(enc x).isAgg=gI
open Enc (enc)
instance:Enc Int where
 enc n:=.int .i64 n
 sz:=1
 aX:=.one
 gI:=false
 done _:=rfl
 size _:=by simp[I.size]
 iq _:=by simp[I.aX]
 agg _:=rfl
instance:Enc Bool where
 enc b:=.bool b
 sz:=1
 aX:=.one
 gI:=false
 done _:=rfl
 size _:=by simp[I.size]
 iq _:=by simp[I.aX]
 agg _:=rfl
theorem iB{α:Type}[Enc α](l:List α):I.ca (l.map enc)=true:=by
 induction l with
 |nil=>rfl
 |cons x l ih=>simp only[zz3,I.ca,vp _ (Enc.done x),ih,Bool.and_self]
theorem MW{α:Type}[Enc α](l:List α):I.fZ (l.map enc)=true:=by
 induction l with
 |nil=>rfl
 |cons x l ih=>simp only[zz3,I.fZ,Enc.done x,ih,Bool.and_self]
theorem Z4{α:Type}[Enc α](l:List α):I.sizes (l.map enc)=l.length*Enc.sz α:=by
 rw[I.ir (sz:=Enc.sz α) _ (by simp only[zx1];rintro x ⟨y,_,rfl⟩;exact Enc.size y)];simp
theorem rQ{α:Type}[Enc α](l:List α):I.cQ (l.map enc)=List.replicate l.length (Enc.aX α):=by
 induction l with
 |nil=>rfl
 |cons x l ih=>simp only[zz3,I.cQ,Enc.iq x,ih,zw1,List.replicate_succ]
instance {α:Type} [Enc α]:Enc (List α) where
 enc l:=.slice (Enc.sz α) (l.map enc)
 sz:=1
 aX:=.one
 gI:=false
 done l:=by simp only[I.done];exact iB l
 size _:=by simp[I.size]
 iq _:=by simp[I.aX]
 agg _:=rfl
structure x5 (n:Nat) (α:Type) where
 l:List α
 h:l.length=n
instance {n:Nat} {α:Type} [Enc α]:Enc (x5 n α) where
 enc x:=.agg (x.l.map enc)
 sz:=n*Enc.sz α
 aX:=.eE (List.replicate n (Enc.aX α))
 gI:=true
 done x:=by simp only[I.done];exact MW x.l
 size x:=by simp only[I.size,Z4,x.h]
 iq x:=by simp only[I.aX,rQ,x.h]
 agg _:=rfl
section
variable {α:Type} [Enc α]
theorem kR(aL:Bool)(A:ai)(x:α):bj aL A (enc x)=some (enc x):=Bp aL A _ (Enc.done x)
theorem kd(x:α):(enc x).bx=true:=vp _ (Enc.done x)
theorem cA(p:Nat→Bool)(x:α):(enc x).only p=true:=kq p _ (kd x)
theorem eg(x:α):(enc x).bS=true:=MV (Enc.done x)
theorem kg(x:α):b8 none (enc x) = !(Enc.gI α):=by simp[b8,Enc.agg]
theorem e7(n:Nat)(x:α):b8 (some n) (enc x)=(Enc.gI α&&Enc.sz α==n):=by simp[b8,Enc.agg,Enc.size]
theorem jQ(x:α):(enc x).size=Enc.sz α:=Enc.size x
theorem eC(x:α):(enc x).aX=Enc.aX α:=Enc.iq x
theorem eG(n:Int):(enc n:I)=.int .i64 n:=rfl
theorem M0(n:Bool):(enc n:I)=.bool n:=rfl
theorem hs(l:List α):(enc l:I)=.slice (Enc.sz α) (l.map enc):=rfl
theorem jy:Enc.sz (List α)=1:=rfl
theorem ke:Enc.gI (List α)=false:=rfl
theorem nF:Enc.aX (List α)=.one:=rfl
theorem Hx(l:List α):∀ x∈l.map (enc (α:=α)),x.size=Enc.sz α:=by
 simp only[zx1];rintro x ⟨y,_,rfl⟩;exact Enc.size y
end
theorem mB(n:Int)(J:-9223372036854775808≤n)(U:n≤9223372036854775807):IntKind.i64.wrap n=n:=IntWalk.i64_in n ⟨J,U⟩
theorem aZ.mk{P:Program}{f:FuncId}{fn:Func}{x:bp}{rs:List bK}{args:List I}{r:I}(hf:P.funcs[f]?=some fn)(hcall:eZ P f=true)(hc:(fn.body.bind (eA P fn.ntmps))=some x)
  (hrs:gP P fn.results.toList=some rs) (hn:args.length≤fn.ntmps) (h:∀ (w:World) (D:aP) (E:a8),ae ⟨P,w,D,fn.ntmps,cI E,E,dv,none,none⟩ x (ku rs r) (au (bI 0 args) [])):aZ P f args r:=by
 obtain ⟨body,hb,hc'⟩:=zw6.1 hc;exact aZ.tw hf hb hcall hc' hrs hn (fun w D E=>(h w D E).sub (aao args))
end Go.Abs
namespace Go.Abs.C
open Go Go.Abs
abbrev o(a:Nat)(x:bT):aI:=⟨some a,x,none⟩
abbrev bV(a:Nat)(x:bT)(k:Nat):aI:=⟨some a,x,some (k,true)⟩
abbrev on(a:Nat)(x:bT)(k:Nat):aI:=⟨some a,x,some (k,false)⟩
abbrev p(x:bT):aI:=⟨none,x,none⟩
abbrev bf(n:Int):aO:=.c (.int .i64 n)
abbrev T:aO:=.c (.bool true)
abbrev bC:aO:=.c (.bool false)
abbrev m(a b:Nat):aI:=⟨some a,.mv (.t b),none⟩
abbrev cN(a b k:Nat):aI:=⟨some a,.mv (.t b),some (k,true)⟩
abbrev lb(a b k:Nat):aI:=⟨some a,.mv (.t b),some (k,false)⟩
abbrev bJ(a:Nat)(n:Int):aI:=⟨some a,.mv (.c (.int .i64 n)),none⟩
abbrev l(a b:Nat):aI:=⟨some a,.ld none (.t b),none⟩
abbrev dN(a b k:Nat):aI:=⟨some a,.ld none (.t b),some (k,true)⟩
abbrev fp(a b k:Nat):aI:=⟨some a,.ld none (.t b),some (k,false)⟩
abbrev L(a s b:Nat):aI:=⟨some a,.ld (some s) (.t b),none⟩
abbrev f(a b c d:Nat):aI:=⟨some a,.fa b c (.t d),none⟩
abbrev dV(a b c d k:Nat):aI:=⟨some a,.fa b c (.t d),some (k,true)⟩
abbrev fn(a b c d k:Nat):aI:=⟨some a,.fa b c (.t d),some (k,false)⟩
abbrev ad(a b:Nat)(n:Int):aI:=⟨some a,.bin .add (.t b) (.c (.int .i64 n)),none⟩
abbrev lt(a b c:Nat):aI:=⟨some a,.bin .lss (.t b) (.t c),none⟩
abbrev and(a b c:Nat):aI:=⟨some a,.pick (.t b) (.t c) (.c (.bool false)),none⟩
abbrev or(a b c:Nat):aI:=⟨some a,.pick (.t b) (.c (.bool true)) (.t c),none⟩
abbrev no(a b:Nat):aI:=⟨some a,.un .not (.t b),none⟩
abbrev b(a c:Nat):aI:=⟨some a,.box (.t c),none⟩
abbrev s(x y:bp):bp:=.seq x y
abbrev r(g:List aI):bp:=.cw none g
abbrev ct(P:Program)(f:Func)(c:bp):Prop:=f.body.bind (eA P f.ntmps)=some c
abbrev cn(P:Program)(f:Func)(r:List bK):Prop:=gP P f.results.toList=some r
abbrev cd(P:Program)(n:FuncId):Prop:=eZ P n=true
theorem e{α:Type}{a b:α}(h:a=b):a=b:=h
end Go.Abs.C
