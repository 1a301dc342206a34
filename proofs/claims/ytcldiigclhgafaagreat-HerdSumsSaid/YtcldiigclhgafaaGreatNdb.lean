/-
  A part of the proof that the law HerdSums returns true for every input; conditions: none beyond the statement's own. (part 2 of 6)
-/
import Derived.Maps.RangeRun
import Derived.Laws.MakeOwn
import Derived.Orders
import Derived.OrdersIn
import Derived.Test.YtcldiigclhgafaaGreatNda
set_option linter.unusedSimpArgs false
set_option linter.unusedVariables false
set_option maxHeartbeats 16000000
set_option maxRecDepth 100000
namespace Go.Abs
open Go Go.RowKit
theorem B1{w:World}{D:aH}{E:aS} : ∀ (l:List cH) (xs ys:List I) (cs ds:List Value),l.all wo=true→iC l xs ys=some true→aF w D E xs cs→aF w D E ys ds→xs=ys∧cs=ds∧∀ v∈cs,∃ k n,v=.int k n
 | [],xs,ys,cs,ds,_,h,hx,hy=>by
  simp only[iC] at h
  split at h
  ·simp only[aF] at hx hy;subst hx hy;exact ⟨rfl,rfl,fun v hv=>by simp at hv⟩
  ·cases h
 |t::ts,xs,ys,cs,ds,ha,h,hx,hy=>by
  simp only[List.all_cons,Bool.and_eq_true] at ha
  simp only[iC] at h
  split at h
  case h_2=>cases h
  rename_i f fs g gs
  unfold gZ at h
  split at h
  case h_2=>cases h
  rename_i a b h1 h2
  simp only[Option.some.injEq,Bool.and_eq_true] at h
  obtain ⟨rfl,rfl⟩:=h
  simp only[aF] at hx hy
  obtain ⟨c1,c2,rfl,p1,p2⟩:=hx
  obtain ⟨d1,d2,rfl,q1,q2⟩:=hy
  obtain ⟨rfl,rfl,k3⟩:=B1 ts fs gs c2 d2 ha.2 h2 p2 q2
  cases t with
  |i k =>
   simp only[cn] at h1
   split at h1
   case h_2=>cases h1
   rename_i k1 a k2 b
   split at h1
   case isFalse=>cases h1
   rename_i hk
   simp only[Option.some.injEq,beq_iff_eq] at h1
   subst h1
   obtain ⟨rfl,rfl⟩:=hk
   simp only[af] at p1 q1
   obtain ⟨rfl,_⟩:=p1
   obtain ⟨rfl,_⟩:=q1
   refine ⟨rfl,rfl,fun v hv =>?_⟩
   rcases List.mem_append.1 hv with hv | hv
   ·simp at hv;exact ⟨_,_,hv⟩
   ·exact k3 v hv
  |b | s | br _ | ke _ _=>simp[wo] at ha
theorem Mf:∀ (cs:List Value) (n:Nat),(∀ v∈cs,∃ k m,v=.int k m)→((cs.zip cs).all fun (x,y)=>Instr.sameBits n x y)=true
 | [],_,_=>rfl
 |v::cs,n,h=>by
  obtain ⟨k,m,rfl⟩:=h v (by simp)
  simp only[List.zip_cons_cons,List.all_cons,Bool.and_eq_true]
  exact ⟨by cases n <;>simp[Instr.sameBits],Mf cs n fun v hv=>h v (by simp[hv])⟩
theorem adK{P:Program}{t:TypeId}{ty:cH}{w:World}{D:aH}{E:aS}{x y:I}{u v:Value}(hk:lv P t=some ty)(h:cn ty x y=some true)(hx:aR w D E x u)(hy:aR w D E y v):x=y∧u=v∧Instr.sameBits 10000 u v=true:=by
 unfold lv at hk
 split at hk
 ·rename_i k hu
  simp only[Option.some.injEq] at hk
  subst hk
  simp only[cn] at h
  split at h
  case h_2=>cases h
  split at h
  case isFalse=>cases h
  rename_i hk
  simp only[Option.some.injEq,beq_iff_eq] at h
  subst h
  obtain ⟨rfl,rfl⟩:=hk
  rw[(fg hx).1,(fg hy).1]
  exact ⟨rfl,rfl,by simp[Instr.sameBits]⟩
 ·rename_i fs hu
  split at hk
  case h_2=>cases hk
  rename_i l hl
  split at hk
  case isFalse=>cases hk
  rename_i hc
  simp only[Option.some.injEq] at hk
  subst hk
  simp only[cn] at h
  split at h
  case h_2=>cases h
  rename_i xs ys
  obtain ⟨cs,rfl,hc1⟩:=jm hx
  obtain ⟨ds,rfl,hd1⟩:=jm hy
  obtain ⟨rfl,rfl,h3⟩:=B1 l xs ys cs ds hc.1 h hc1 hd1
  refine ⟨rfl,rfl,?_⟩
  simp only[Instr.sameBits,beq_self_eq_true,Bool.true_and]
  exact Mf cs _ h3
 ·cases hk
section
variable {P:Program} {w:World} {D:aH} {E:aS}
theorem Bp{t:TypeId}{ty:cH}{em:Bool}{x y:I}{v:Value}{r:Bool}(hk:lv P t=some ty)(hx:aR w D E x v)(h:cn ty x y=some r)(n:Nat):(Instr.checkKey em (n+2) t v).run P w=.ok () w:=by
 unfold lv at hk
 split at hk
 ·rename_i k hu
  simp only[Option.some.injEq] at hk
  subst hk
  simp only[cn] at h
  split at h
  case h_2=>cases h
  rename_i k1 a k2 b
  split at h
  case isFalse=>cases h
  rename_i hq
  rw[(fg hx).1,hq.1]
  exact MapKept.run_checkKey hu (by simp[MapKept.IsKey]) em (n+1)
 ·rename_i fs hu
  split at hk
  case h_2=>cases hk
  rename_i l hl
  split at hk
  case isFalse=>cases hk
  rename_i hc
  simp only[Option.some.injEq] at hk
  subst hk
  simp only[cn] at h
  split at h
  case h_2=>cases h
  rename_i xs ys
  obtain ⟨cs,rfl,hc1⟩:=jm hx
  obtain ⟨d,hd⟩:∃ d,d=11:=⟨_,rfl⟩
  rw[show (12:Nat)=d+1 from by omega] at hl
  simp only[gj,hu] at hl
  split at hl
  case isFalse=>cases hl
  rename_i hc2
  simp only[Option.map_eq_some_iff,cH.br.injEq] at hl
  obtain ⟨l',hl,rfl⟩:=hl
  rw[show n+2=(n+1)+1 from rfl,Instr.checkKey]
  simp only[Sem.run_bind,run_underlying hu,Result.andThen_ok]
  rw[←Array.forIn_toList]
  have key:∀ (aC:List Field) (l:List cH) (xs ys:List I) (r:Bool) (c1 c2:List Value),
    (aC.mapM fun f=>match gj P d f.type with
     |some ty=>if ty.size=P.cellsOf f.type then some ty else none
     | none => none) = some l → (∀ f ∈ aC, f.name ≠ "_" ∧ qt (P.underlying f.type) = true) → py P c1.length aC = true → aF w D E xs c2 → iC l xs ys = some r → c1 ++ c2 = cs →
    Sem.run P (forIn aC PUnit.unit (fun (f : Field) (_ : PUnit) => (if f.name ≠ "_" then (do
     let x ←part f.type cs.toArray f.offset
     Instr.checkKey em (n+1) f.type x
     pure (ForInStep.yield PUnit.unit)) else pure (ForInStep.yield PUnit.unit):Sem (ForInStep PUnit)))) w=.ok PUnit.unit w:=by
   intro aC
   induction aC with
   |nil=>intros;simp
   |cons f aC ih =>
    intro l xs ys r c1 c2 hm hn ho hx h htot
    simp only[List.mapM_cons,Option.bind_eq_bind,Option.pure_def,Option.bind_eq_some_iff,Option.some.injEq] at hm
    obtain ⟨ty,hty,tys,htys,rfl⟩:=hm
    split at hty
    case h_2=>cases hty
    rename_i ty' hd'
    split at hty
    case isFalse=>cases hty
    rename_i hsz
    simp only[Option.some.injEq] at hty
    subst hty
    simp only[iC] at h
    split at h
    case h_2=>cases h
    rename_i x xs y ys
    unfold gZ at h
    split at h
    case h_2=>cases h
    rename_i ra rb h1 h2
    simp only[aF] at hx
    obtain ⟨e1,e2,rfl,k1,k2⟩:=hx
    obtain ⟨s,q1,q2,q3⟩:=uL hd' hsz h1
    obtain ⟨u,p1,p2⟩:=og (P:=P) (w:=w) (c1:=c1) (c3:=e2) q1 q2 k1
    simp only[py,Bool.and_eq_true,beq_iff_eq] at ho
    have hsx:=oT ty' x y ra h1
    have hle:e1.length=P.cellsOf f.type:=by rw[af.length _ _ k1,hsx.1,hsz]
    have ih':=ih tys xs ys rb (c1++e1) e2 htys (fun g hg=>hn g (by simp[hg])) (by simp only[List.length_append,hle];exact ho.2) k2 h2 (by rw[←htot];simp)
    rw[List.append_assoc,htot,←ho.1] at p1
    obtain ⟨hnm,hint⟩:=hn f (by simp)
    have hck:(Instr.checkKey em (n+1) f.type u).run P w=.ok () w:=by
     cases hu:P.underlying f.type with
     |none=>simp[hu,qt] at hint
     |some dd =>
      cases dd <;>simp[hu,qt] at hint
      rename_i q
      have hti:ty'=.i q:=by
       rw[show d=10+1 from by omega] at hd'
       unfold gj at hd'
       simp only[hu,Option.some.injEq] at hd'
       exact hd'.symm
      subst hti
      simp only[cn] at h1
      split at h1
      case h_2=>cases h1
      split at h1
      case isFalse=>cases h1
      rename_i hq
      rw[(fg p2).1,hq.1]
      exact MapKept.run_checkKey hu (by simp[MapKept.IsKey]) em n
    simp only[List.forIn_cons,Sem.run_bind,hnm,ne_eq,not_false_eq_true,if_true,p1,Result.andThen_ok,hck,Sem.run_pure]
    exact ih'
  rw[key fs.toList l' xs ys r [] cs hl (fun f hf=>⟨by simpa using List.all_eq_true.1 hc2.2.1 f hf,Array.all_eq_true_iff_forall_mem.1 hc.2 f (Array.mem_toList_iff.1 hf)⟩) hc2.2.2 hc1 h rfl]
  simp
 ·cases hk
theorem xV{x:I}{xs:List I}{vs:List Value}(h:aD w D E (x::xs) vs):∃ v rest,vs=v::rest∧aR w D E x v∧aD w D E xs rest:=by
 simp only[aD] at h
 obtain ⟨v,rest,cs,rfl,h1,h2,h3⟩:=h
 exact ⟨v,rest,rfl,mb h1 h2,h3⟩
def oE(r:Option Nat)(es:List MapEntry)(i:Nat)(q:Option (Nat×Value)):Prop :=
 (r=none∧q=none)∨∃ j e,r=some (i+j)∧es[j]?=some e∧q=some (i+j,e.val)
theorem oE.step{r:Option Nat}{es:List MapEntry}{e:MapEntry}{i:Nat}{q:Option (Nat×Value)}(h:oE r es (i+1) q):oE r (e::es) i q:=by
 rcases h with h | ⟨j,e',h1,h2,h3⟩
 ·exact .inl h
 ·exact .inr ⟨j+1,e',by rw[h1];congr 1;omega,by simpa using h2,by rw[h3];congr 2;omega⟩
theorem Cm{q:IntKind}{k:I}{v:Value}(hv:aR w D E k v):∀ (ks:List I) (es:List MapEntry) (i:Nat) (r:Option Nat),aD w D E ks (es.map (·.key))→eS (.i q) k ks i=some r →
  ∃ x,Instr.findNow (.int q) v es i=some x∧oE r es i x
 | [],es,i,r,hk,h=>by
  simp only[eS,Option.some.injEq] at h
  simp only[aD,List.map_eq_nil_iff] at hk
  subst h hk
  exact ⟨none,rfl,.inl ⟨rfl,rfl⟩⟩
 |x::ks,es,i,r,hk,h=>by
  obtain ⟨u,rest,e1,hu,hr⟩:=xV hk
  cases es with
  |nil=>cases e1
  |cons e es =>
   simp only[List.map_cons,List.cons.injEq] at e1
   obtain ⟨rfl,rfl⟩:=e1
   simp only[eS] at h
   have same:∀ b,cn (.i q) k x=some b→Instr.sameNow (.int q) v e.key=some b:=fun b hb=>by
    simp only[cn] at hb
    split at hb
    case h_2=>cases hb
    split at hb
    case isFalse=>cases hb
    rename_i hq
    simp only[Option.some.injEq] at hb
    subst hb
    rw[(fg hv).1,(fg hu).1]
    simp[Instr.sameNow,hq.1,hq.2]
   split at h
   ·rename_i hb
    simp only[Option.some.injEq] at h
    subst h
    exact ⟨some (i,e.val),by simp[Instr.findNow,same _ hb],.inr ⟨0,e,rfl,rfl,rfl⟩⟩
   ·rename_i hb
    obtain ⟨y,h1,h2⟩:=Cm hv ks es (i+1) r hr h
    exact ⟨y,by simp[Instr.findNow,same _ hb,h1],h2.step⟩
   ·cases h
theorem Cj{t:TypeId}{ty:cH}(hty:gj P 12 t=some ty){k:I}{v:Value}(hv:aR w D E k v):∀ (ks:List I) (es:List MapEntry) (i:Nat) (r:Option Nat),aD w D E ks (es.map (·.key))→eS ty k ks i=some r →
  ∃ x,(Instr.findAsking t v es i).run P w=.ok x w∧oE r es i x
 | [],es,i,r,hk,h=>by
  simp only[eS,Option.some.injEq] at h
  simp only[aD,List.map_eq_nil_iff] at hk
  subst h hk
  exact ⟨none,rfl,.inl ⟨rfl,rfl⟩⟩
 |x::ks,es,i,r,hk,h=>by
  obtain ⟨u,rest,e1,hu,hr⟩:=xV hk
  cases es with
  |nil=>cases e1
  |cons e es =>
   simp only[List.map_cons,List.cons.injEq] at e1
   obtain ⟨rfl,rfl⟩:=e1
   simp only[eS] at h
   have same:∀ b,cn ty k x=some b→(Op.equal t v e.key).run P w=.ok b w:=fun b hb=>rX 12 t ty hty k x v e.key b hv hu hb _ (by simp[Op.maxDepth])
   split at h
   ·rename_i hb
    simp only[Option.some.injEq] at h
    subst h
    exact ⟨some (i,e.val),by simp[Instr.findAsking,same _ hb],.inr ⟨0,e,rfl,rfl,rfl⟩⟩
   ·rename_i hb
    obtain ⟨y,h1,h2⟩:=Cj hty hv ks es (i+1) r hr h
    exact ⟨y,by simp[Instr.findAsking,same _ hb,h1],h2.step⟩
   ·cases h
theorem r2{t:TypeId}{ty:cH}(hk:lv P t=some ty){k:I}{v:Value}(hv:aR w D E k v){ks:List I}{es:List MapEntry}{r:Option Nat}(hks:aD w D E ks (es.map (·.key)))(h:eS ty k ks 0=some r) :
  ∃ x,(Instr.findKey t v es).run P w=.ok x w∧oE r es 0 x:=by
 have hk0:=hk
 unfold lv at hk
 split at hk
 ·rename_i q hu
  simp only[Option.some.injEq] at hk
  subst hk
  obtain ⟨x,h1,h2⟩:=Cm hv ks es 0 r hks h
  exact ⟨x,by simp[Instr.findKey,run_underlying hu,h1],h2⟩
 ·rename_i fs hu
  split at hk
  case h_2=>cases hk
  rename_i l hl
  split at hk
  case isFalse=>cases hk
  simp only[Option.some.injEq] at hk
  subst hk
  cases es with
  |nil =>
   cases ks with
   |nil =>
    simp only[eS,Option.some.injEq] at h
    subst h
    exact ⟨none,by simp[Instr.findKey,run_underlying hu,Instr.findNow],.inl ⟨rfl,rfl⟩⟩
   |cons x xs=>simp[aD] at hks
  |cons e es =>
   obtain ⟨x,h1,h2⟩:=Cj hl hv ks (e::es) 0 r hks h
   exact ⟨x,by simp[Instr.findKey,run_underlying hu,Instr.findNow,Instr.sameNow,h1],h2⟩
 ·cases hk
theorem mw:∀ {xs:List I} {vs:List Value} {j:Nat} {v:Value},aD w D E xs vs→vs[j]?=some v→∃ x,xs[j]?=some x∧aR w D E x v
 | [],vs,j,v,h,hj=>by simp only[aD] at h;subst h;simp at hj
 |x::xs,vs,j,v,h,hj=>by
  obtain ⟨u,rest,rfl,h1,h2⟩:=xV h
  cases j with
  |zero=>simp only[List.getElem?_cons_zero,Option.some.injEq] at hj;subst hj;exact ⟨x,rfl,h1⟩
  |succ j=>exact mw (xs:=xs) h2 (by simpa using hj)
end
section
variable {c:cK} {A:ab} {o:Oper} {x:I}
theorem aei{a:Act}{w:World}{D:aH}{E:aS}(hs:aN c A a w D E){m:I}{v:Value}{ks vs:List I}(hv:aR w D E m v)(hm:fZ A m=some (ks,vs)) :
  (v=.map none∧ks=[]∧vs=[])∨∃ b es clock,v=.map (some b)∧w.heap[b]?=some (.map es clock)∧aD w D E ks (es.toList.map (·.key))∧aD w D E vs (es.toList.map (·.val)):=by
 unfold fZ at hm
 split at hm
 ·simp only[Option.some.injEq,Prod.mk.injEq] at hm
  obtain ⟨rfl,rfl⟩:=hm
  obtain ⟨cs,q1,q2⟩:=hv
  simp only[af] at q2
  obtain ⟨b,es,ck,q3,q4,q5,q6⟩:=q2
  exact .inr ⟨b,es,ck,by simpa[bB,I.isAgg,q3] using q1.symm,q4.1,q5,q6⟩
 ·rename_i n
  split at hm
  case h_2=>cases hm
  rename_i ks' vs' hn
  simp only[Option.some.injEq,Prod.mk.injEq] at hm
  obtain ⟨rfl,rfl⟩:=hm
  obtain ⟨cs,q1,q2⟩:=hv
  simp only[af] at q2
  obtain ⟨b,q3,q4⟩:=q2
  obtain ⟨b',es,ck,k1,k2,k3,k4,k5,k6,k7⟩:=hs.map hn
  rw[k1] at q3;cases q3
  exact .inr ⟨_,es,ck,by simpa[bB,I.isAgg,q4] using q1.symm,k3,k5,k6⟩
 ·simp only[Option.some.injEq,Prod.mk.injEq] at hm
  obtain ⟨rfl,rfl⟩:=hm
  obtain ⟨cs,q1,q2⟩:=hv
  simp only[af] at q2
  exact .inl ⟨by simpa[bB,I.isAgg,q2.1] using q1.symm,rfl,rfl⟩
 ·cases hm
theorem oC{w:World}{D:aH}{E:aS}{y:I}{v:Value}(hv:y.b9=true)(h:aR w D E y v):∃ cs,bB y v cs∧af w D E y cs:=by
 cases y <;>simp[I.b9] at hv <;>exact h
theorem pG{w:World}{D:aH}{E:aS} : ∀ {xs:List I} {vs:List Value} {j:Nat} {x:I},aD w D E xs vs→xs[j]?=some x→x.b9=true
 | [],_,j,x,_,h=>by simp at h
 |y::ys,vs,j,x,hr,h=>by
  simp only[aD] at hr
  obtain ⟨v,rest,cs,rfl,h1,h2,h3⟩:=hr
  cases j with
  |zero =>
   simp only[List.getElem?_cons_zero,Option.some.injEq] at h;subst h
   cases y <;>simp only[af] at h2 <;>rfl
  |succ j=>exact pG (xs:=ys) h3 (by simpa using h)
theorem ah1{x:I}{cs r:List Value}(h:mG x cs=some r):x.b9=true:=by
 cases x <;>first | rfl | (cases cs <;>simp[mG] at h)
theorem ah2{P:Program}{t:TypeId}{z:I}(hz:fN P t=some z)(hp:tK P t z=true):∃ zv,(∀ w,(zeroValue t).run P w=.ok zv w)∧z.b9=true∧∀ w D E,aR w D E z zv:=by
 have hz0:=hz
 obtain ⟨i,zv,hi,hzz,hzr⟩:=lL hz
 have hv:z.b9=true:=by
  unfold fN at hz
  split at hz
  ·split at hz
   ·rename_i hk
    simp only[Option.some.injEq] at hz
    subst hz
    exact ah1 hk
   ·cases hz
  ·cases hz
 refine ⟨zv,fun w=>by simp[zeroValue,typeInfo,hi,hzz],hv,fun w D E =>?_⟩
 have h1:=hzr w D E
 simp only[tK,hi,Option.bind_some,hzz] at hp
 refine mb (cs:=zv.cells.toList) ?_ h1
 cases zv <;>simp only[bB] at hp ⊢ <;>first
  |(rw[if_pos hp];simp[Value.cells])
  |(have hp':z.isAgg=false:=by simpa using hp
    rw[hp'];simp[Value.cells])
theorem adj{t kt et:TypeId}{m k:Operand}{m' k':aG}{ok:Bool}{ty:cH}{z v:I}{ks vs:List I}{there:Bool}(ho:o.op=.lookup t m k ok)(hu:c.P.underlying t=some (.map kt et))(hk:lv c.P kt=some ty)(hz:fN c.P et=some z)(hzp:tK c.P et z=true)
  (hm:bx c.P 0 m=some m') (hk':bx c.P 0 k=some k') (hmm:fZ A (ae A m')=some (ks,vs)) (hl:fY ty z (ae A k') ks vs=some (v,there)):dD c A o (if ok then .tuple [v,.bool there] else v) :=
 .same fun a w D E hs=>by
  have h1:=b8 hs hm
  have h2:=b8 hs hk'
  obtain ⟨zv,hzrun,hzv,hzrv⟩:=ah2 hz hzp
  unfold fY at hl
  split at hl
  case isFalse=>cases hl
  rename_i hkk
  obtain ⟨rk,hrk⟩:=Option.isSome_iff_exists.1 hkk
  have hchk:=fun em=>Bp (P:=c.P) (w:=w) (em:=em) hk h2 hrk 9998
  have a6:∀ u there,v.b9=true→aR w D E v u→aR w D E (if ok then .tuple [v,.bool there] else v) (if ok then Value.tuple #[u,.bool there] else u):=fun u there hval hu'=>by
   cases ok
   ·exact hu'
   ·obtain ⟨cs,q1,q2⟩:=oC hval hu'
    simp only[if_true,aR,aD]
    exact ⟨[u,.bool there],rfl,u,[.bool there],cs,rfl,q1,q2,.bool there,[],[.bool there],rfl,by simp[bB,I.isAgg],by simp[af],rfl⟩
  have main:∀ (es:Array MapEntry),aD w D E ks (es.toList.map (·.key))→aD w D E vs (es.toList.map (·.val))→∃ u,v.b9=true∧aR w D E v u ∧
    ((∃ i,(Instr.findKey kt (a.eval k) es.toList).run c.P w=.ok (some (i,u)) w∧there=true)∨((Instr.findKey kt (a.eval k) es.toList).run c.P w=.ok none w∧u=zv∧there=false)):=fun es hks hvs=>by
   split at hl
   ·rename_i i hfi
    simp only[Option.map_eq_some_iff,Prod.mk.injEq] at hl
    obtain ⟨v',hv',rfl,rfl⟩:=hl
    obtain ⟨q,q1,q2⟩:=r2 hk h2 hks hfi
    rcases q2 with ⟨e,_⟩ | ⟨j,e,e1,e2,rfl⟩
    ·cases e
    ·simp only[Nat.zero_add,Option.some.injEq] at e1
     subst e1
     obtain ⟨x,k1,k2⟩:=mw (j:=i) (v:=e.val) hvs (by simp only[List.getElem?_map,e2,Option.map_some])
     rw[hv',Option.some.injEq] at k1
     subst k1
     exact ⟨e.val,pG hvs hv',k2,.inl ⟨_,q1,rfl⟩⟩
   ·rename_i hfi
    simp only[Option.some.injEq,Prod.mk.injEq] at hl
    obtain ⟨rfl,rfl⟩:=hl
    obtain ⟨q,q1,q2⟩:=r2 hk h2 hks hfi
    rcases q2 with ⟨_,rfl⟩ | ⟨j,e,e1,_⟩
    ·exact ⟨zv,hzv,hzrv w D E,.inr ⟨q1,rfl,rfl⟩⟩
    ·cases e1
   ·cases hl
  rcases aei hs h1 hmm with ⟨e1,rfl,rfl⟩ | ⟨b,es,ck,e1,e2,e3,e4⟩
  ·obtain ⟨u,hval,hu',hrun⟩:=main #[] (by simp[aD]) (by simp[aD])
   refine ⟨_,?_,a6 u there hval hu'⟩
   rcases hrun with ⟨i,q1,rfl⟩ | ⟨q1,rfl,rfl⟩ <;>
    simp only[execOp,ho,Instr.lookup,e1,Sem.run_bind,run_underlying hu,Result.andThen_ok,Sem.run_pure,hchk,q1,hzrun]
  ·obtain ⟨u,hval,hu',hrun⟩:=main es e3 e4
   refine ⟨_,?_,a6 u there hval hu'⟩
   rcases hrun with ⟨i,q1,rfl⟩ | ⟨q1,rfl,rfl⟩ <;>
    simp only[execOp,ho,Instr.lookup,e1,Sem.run_bind,run_underlying hu,Result.andThen_ok,MapKept.run_getObj_map e2,Sem.run_pure,hchk,q1,hzrun]
theorem Ik{y:Operand}{y':aG}(ho:o.op=.nilCheck y)(hy:bx c.P 0 y=some y')(h:(∃ n p,ae A y'=.ptr n p)∨∃ z,ae A y'=.ref z):dD c A o (ae A y') :=
 .same fun a w D E hs=>by
  have h1:=b8 hs hy
  rcases h with ⟨n,p,h⟩ | ⟨z,h⟩
  ·rw[h] at h1 ⊢
   obtain ⟨b,aJ,off,_,_,e⟩:=oh h1
   exact ⟨a.eval y,by simp only[execOp,ho,e,Sem.run_pure],h1⟩
  ·rw[h] at h1 ⊢
   obtain ⟨b,off,cs,e,_⟩:=pF h1
   exact ⟨a.eval y,by simp only[execOp,ho,e,Sem.run_pure],h1⟩
theorem IG{w:World}{D:aH}{E:aS}{x:I}{v:Value}{b:Bool}(h:iF x=some b)(hv:aR w D E x v):∃ ad,v=.pointer ad∧ad.isNone=b:=by
 cases x <;>simp only[iF,Option.some.injEq] at h <;>try (cases h;done)
 case nilp =>
  subst h
  obtain ⟨cs,q1,q2⟩:=hv
  simp only[af] at q2
  exact ⟨none,by simpa[bB,I.isAgg,q2] using q1.symm,rfl⟩
 case ptr n p =>
  subst h
  obtain ⟨b,aJ,off,_,_,e⟩:=oh hv
  exact ⟨_,e,rfl⟩
 case ref z =>
  subst h
  obtain ⟨b,off,cs,e,_⟩:=pF hv
  exact ⟨_,e,rfl⟩
theorem ado{neg:Bool}{t yt e:TypeId}{y z:Operand}{y' z':aG}{b1 b2:Bool}(ho:o.op=.binOp (if neg then .neq else .eql) t y z yt)(hu:c.P.underlying t=some (.pointer e))(hy:bx c.P 0 y=some y')(hz:bx c.P 0 z=some z')
  (h1:iF (ae A y')=some b1) (h2:iF (ae A z')=some b2) (h:b1=true∨b2=true):dD c A o (.bool (if neg then !(b1&&b2) else (b1&&b2))) :=
 .same fun a w D E hs=>by
  obtain ⟨p,e1,k1⟩:=IG h1 (b8 hs hy)
  obtain ⟨q,e2,k2⟩:=IG h2 (b8 hs hz)
  have he:∀ d,(Op.equalIn (d+1) t (.pointer p) (.pointer q)).run c.P w=.ok (b1&&b2) w:=fun d=>by
   subst k1 k2
   cases p <;>cases q <;>simp at h <;>simp[Op.equalIn,run_underlying hu]
  refine ⟨.bool (if neg then !(b1&&b2) else (b1&&b2)),?_,nW _⟩
  cases neg <;>simp only[execOp,ho,e1,e2,if_true,Bool.false_eq_true,if_false,Sem.run_bind,eqGuard] <;>simp[binOp,Op.equal,Op.maxDepth,he]
end
section
variable {c:cK} {A:ab} {o:Oper} {x:I}
theorem V3{t:TypeId}{d:Nat}(ho:o.op=.makeMap t none)(hd:o.dst=some d)(hn:d<c.n)(hf:A.o d=none):iw c A o ((A.aL d (.cu [] [])).put d (.mref d)):=by
 intro a w D E hs
 have h1:=hs.aeJ (.inl hn) hf
 have h2:=h1.put (x:=.mref d) (v:=.map (some w.heap.size)) hn ⟨_,by simp[bB,I.isAgg];rfl,by
  simp only[af,if_true]
  exact ⟨w.heap.size,rfl,rfl⟩⟩
 exact ⟨w.alloc (.map #[] 0),.inl ⟨.map (some w.heap.size),by simp[execOp,ho,Instr.makeMap],D,_,by rw[hd];exact h2⟩⟩
theorem xU{w:World}{D:aH}{E:aS} : ∀ {xs ys:List I} {us vs:List Value},aD w D E xs us→aD w D E ys vs→aD w D E (xs++ys) (us++vs)
 | [],ys,us,vs,h,k=>by simp only[aD] at h;subst h;simpa using k
 |x::xs,ys,us,vs,h,k=>by
  simp only[aD,List.cons_append] at *
  obtain ⟨v,rest,cs,rfl,h1,h2,h3⟩:=h
  exact ⟨v,rest++vs,cs,rfl,h1,h2,xU h3 k⟩
theorem Me{w:World}{D:aH}{E:aS} : ∀ {xs:List I} {us:List Value} {i:Nat} {y:I} {v:Value} {cs:List Value},aD w D E xs us→bB y v cs→af w D E y cs→aD w D E (xs.set i y) (us.set i v)
 | [],us,i,y,v,cs,h,_,_=>by simp only[aD] at h;subst h;simp[aD]
 |x::xs,us,i,y,v,cs,h,k1,k2=>by
  simp only[aD] at h
  obtain ⟨u,rest,ds,rfl,h1,h2,h3⟩:=h
  cases i with
  |zero=>simp only[List.set_cons_zero,aD];exact ⟨v,rest,cs,rfl,k1,k2,h3⟩
  |succ i=>simp only[List.set_cons_succ,aD];exact ⟨u,_,ds,rfl,h1,h2,Me h3 k1 k2⟩
theorem Md{w:World}{D:aH}{E:aS}{y:I}{v:Value}{cs:List Value}(h1:bB y v cs)(h2:af w D E y cs):aD w D E [y] [v]:=by
 simp only[aD];exact ⟨v,[],cs,rfl,h1,h2,rfl⟩
theorem Cl{ty:cH}{k:I} : ∀ {ks:List I} {i j:Nat},eS ty k ks i=some (some j)→∃ x,ks[j-i]?=some x∧i≤j∧cn ty k x=some true
 | [],i,j,h=>by simp[eS] at h
 |x::xs,i,j,h=>by
  simp only[eS] at h
  split at h
  ·rename_i hb
   simp only[Option.some.injEq] at h
   subst h
   exact ⟨x,by simp,Nat.le_refl _,hb⟩
  ·obtain ⟨y,h1,h2,h3⟩:=Cl h
   refine ⟨y,?_,by omega,h3⟩
   rw[show j-i=(j-(i+1))+1 from by omega]
   simpa using h1
  ·cases h
theorem BK{t kt et:TypeId}{m k v:Operand}{m' k' v':aG}{ty:cH}{n:Nat}{ks vs ks' vs':List I}(ho:o.op=.mapUpdate t m k v∨o.op=.insert t m k v)(hu:c.P.underlying t=some (.map kt et))(hk:lv c.P kt=some ty)
  (hm:bx c.P 0 m=some m') (hk':bx c.P 0 k=some k') (hv':bx c.P et v=some v') (hmm:ae A m'=.mref n) (hn:A.o n=some (.cu ks vs)) (hl:fR ty (ae A k') (ae A v') ks vs=some (ks',vs')) (hd:o.dst=none) :
  iw c A o (A.aL n (.cu ks' vs')):=by
 intro a w D E hs
 have h1:=b8 hs hm
 have h2:=b8 hs hk'
 have h3:=b8 hs hv'
 rw[hmm] at h1
 unfold fR at hl
 split at hl
 case isFalse=>cases hl
 rename_i hc
 obtain ⟨hkk,hkv,hvv⟩:=hc
 obtain ⟨rk,hrk⟩:=Option.isSome_iff_exists.1 hkk
 have hchk:=fun em=>Bp (P:=c.P) (w:=w) (em:=em) hk h2 hrk 9998
 obtain ⟨kcs,kp1,kp2⟩:=oC hkv h2
 obtain ⟨vcs,vp1,vp2⟩:=oC hvv h3
 obtain ⟨b,es,ck,k1,k2,k3,k4,k5,k6,k7⟩:=hs.map hn
 have hmv:a.eval m=.map (some b):=by
  obtain ⟨cs,q1,q2⟩:=h1
  simp only[af] at q2
  obtain ⟨b',q3,q4⟩:=q2
  rw[k1] at q3;cases q3
  simpa[bB,I.isAgg,q4] using q1.symm
 -- the new entries
 have step:∀ (es':Array MapEntry) (ck':Nat),(Instr.mapUpdate t (.map (some b)) (a.eval k) (a.eval v)).run c.P w=.ok () (w.putObj b (.map es' ck'))→pM es' ck'→aD w D E ks' (es'.toList.map (·.key))→aD w D E vs' (es'.toList.map (·.val)) →
   ∃ w',((∃ u,(execOp a.eval o).run c.P w=.ok (.value u) w'∧ct c (A.aL n (.cu ks' vs')) (a.put o.dst u) w')∨((execOp a.eval o).run c.P w=.ok .skip w'∧ct c (A.aL n (.cu ks' vs')) (a.put o.dst undef) w')):=fun es' ck' hrun hst hks hvs=>by
  refine ⟨w.putObj b (.map es' ck'),.inr ⟨?_,?_⟩⟩
  ·rcases ho with ho | ho <;>simp only[execOp,ho,hmv,Sem.run_bind,hrun,Result.andThen_ok,Sem.run_pure]
  ·rw[hd]
   have:=hs.Mj (o':=.map es' ck') (x:=.cu ks' vs') k1 rfl rfl k3 rfl (fun q=>by simp) k2 (fun hl' hh hno=>⟨b,es',ck',k1,k2,hh,hst,aD.bC hl' _ _ hks,aD.bC hl' _ _ hvs,hno⟩)
   exact ⟨D,E,this⟩
 split at hl
 ·rename_i i hfi
  simp only[Option.some.injEq,Prod.mk.injEq] at hl
  obtain ⟨rfl,rfl⟩:=hl
  obtain ⟨q,q1,q2⟩:=r2 hk h2 k5 hfi
  rcases q2 with ⟨e,_⟩ | ⟨j,e,e1,e2,rfl⟩
  ·cases e
  simp only[Nat.zero_add,Option.some.injEq] at e1
  subst e1
  obtain ⟨y,y1,_,y2⟩:=Cl hfi
  simp only[Nat.sub_zero] at y1
  obtain ⟨y',y3,y4⟩:=mw (j:=i) (v:=e.key) k5 (by simp only[List.getElem?_map,e2,Option.map_some])
  rw[y1,Option.some.injEq] at y3
  subst y3
  obtain ⟨_,kk2,kk3⟩:=adK hk y2 h2 y4
  have hes:es[i]?=some e:=by rw[←Array.getElem?_toList];exact e2
  have hlen:i<es.size:=(Array.getElem?_eq_some_iff.1 hes).1
  refine step (es.modify i fun e => { e with key:=a.eval k,val:=a.eval v }) ck ?_ ?_ ?_ ?_
  ·have hsb:Instr.sameBits 10000 (((es[i]?).map (·.key)).getD (a.eval k)) (a.eval k)=true:=by
    rw[hes];simp only[Option.map_some,Option.getD_some];rw[←kk2];rw[←kk2] at kk3;exact kk3
   simp only[Instr.mapUpdate,Sem.run_bind,run_underlying hu,Result.andThen_ok,MapKept.run_getObj_map k3,hchk,q1,Nat.zero_add,Instr.keyThatStays,hsb,if_true,Sem.run_pure,MapKept.run_setObj_map _ k3]
   rfl
  all_goals
   have em:(es.modify i fun e => { e with key:=a.eval k,val:=a.eval v }).toList=es.toList.set i { e with key:=a.eval k,val:=a.eval v } :=by
    rw[Array.toList_modify]
    apply List.ext_getElem?
    intro j
    rw[List.getElem?_modify,List.getElem?_set]
    by_cases hij:i=j
    ·subst hij
     have hge:es[i]'hlen=e:=(Array.getElem?_eq_some_iff.1 hes).2
     simp[hlen,hge]
    ·simp[hij]
  ·refine ⟨fun x hx =>?_,?_⟩
   ·rw[em] at hx
    rcases List.mem_or_eq_of_mem_set hx with hx | rfl
    ·exact k4.1 x hx
    ·exact k4.1 e (List.mem_of_getElem? e2)
   ·rw[em]
    have:(es.toList.set i { e with key:=a.eval k,val:=a.eval v }).map (·.born)=es.toList.map (·.born):=by
     rw[List.map_set]
     apply List.ext_getElem?
     intro j
     rw[List.getElem?_set]
     split
     ·rename_i hij;subst hij
      simp[e2]
      exact hlen
     ·rfl
    rw[this];exact k4.2
  ·rw[em,List.map_set]
   have:(es.toList.map (·.key)).set i (a.eval k)=es.toList.map (·.key):=by
    apply List.ext_getElem?
    intro j
    rw[List.getElem?_set]
    split
    ·rename_i hij;subst hij
     simp[e2,kk2]
     exact hlen
    ·rfl
   simp only[this];exact k5
  ·rw[em,List.map_set];exact Me k6 vp1 vp2
 ·rename_i hfi
  simp only[Option.some.injEq,Prod.mk.injEq] at hl
  obtain ⟨rfl,rfl⟩:=hl
  obtain ⟨q,q1,q2⟩:=r2 hk h2 k5 hfi
  rcases q2 with ⟨_,rfl⟩ | ⟨j,e,e1,_⟩
  case inr=>cases e1
  refine step (es.push { key:=a.eval k,val:=a.eval v,born:=ck }) (ck+1) ?_ ⟨fun x hx =>?_,?_⟩ ?_ ?_
  ·simp only[Instr.mapUpdate,Sem.run_bind,run_underlying hu,Result.andThen_ok,MapKept.run_getObj_map k3,hchk,q1,MapKept.run_setObj_map _ k3]
   rfl
  ·simp only[Array.toList_push,List.mem_append,List.mem_singleton] at hx
   rcases hx with hx | rfl
   ·have:=k4.1 x hx;omega
   ·simp
  ·simp only[Array.toList_push,List.map_append,List.map_cons,List.map_nil]
   refine List.nodup_append.2 ⟨k4.2,by simp,fun x hx y hy =>?_⟩
   simp only[List.mem_singleton] at hy
   subst hy
   obtain ⟨e,he,rfl⟩:=List.mem_map.1 hx
   exact Nat.ne_of_lt (k4.1 e he)
  ·simp only[Array.toList_push,List.map_append,List.map_cons,List.map_nil];exact xU k5 (Md kp1 kp2)
  ·simp only[Array.toList_push,List.map_append,List.map_cons,List.map_nil];exact xU k6 (Md vp1 vp2)
 ·cases hl
theorem V5{t kt et:TypeId}{y:Operand}{y':aG}{ks vs:List I}{d:Nat}(ho:o.op=.range t y)(hu:c.P.underlying t=some (.map kt et))(hy:bx c.P 0 y=some y')(h:ae A y'=.cM ks vs)(hd:o.dst=some d)(hn:d<c.n)(hf:A.o d=none) :
  iw c A o ((A.aL d (.it ks vs (List.range ks.length) none)).put d (.dg d)):=by
 intro a w D E hs
 have h1:=b8 hs hy
 rw[h] at h1
 obtain ⟨cs,q1,q2⟩:=h1
 simp only[af] at q2
 obtain ⟨b,es,ck,q3,q4,q5,q6⟩:=q2
 have hv:a.eval y=.map (some b):=by simpa[bB,I.isAgg,q3] using q1.symm
 have h2:=hs.aeI (.inl hn) hf q4 q5 q6
 have h3:=h2.put (x:=.dg d) (v:=.pointer (some ⟨w.heap.size,0,none⟩)) hn ⟨_,by simp[bB,I.isAgg];rfl,by
  simp only[af,if_true]
  exact ⟨w.heap.size,rfl,rfl⟩⟩
 refine ⟨w.alloc (.mapIter (some b) ck #[] ck),.inl ⟨.pointer (some ⟨w.heap.size,0,none⟩),?_,D,_,by rw[hd];exact h3⟩⟩
 simp only[execOp,ho,hv,Sem.run_bind,run_range_map w t kt et b es ck hu q4.1,Result.andThen_ok,Sem.run_pure]
theorem IP{es:Array MapEntry}{cg:Array Nat}{i:Nat} : i∈nQ es cg↔∃ e,es[i]?=some e∧cg.contains e.born=false:=by
 unfold nQ
 simp only[List.mem_filter,List.mem_range]
 constructor
 ·rintro ⟨h1,h2⟩
  rw[Array.getElem?_eq_getElem h1] at h2 ⊢
  exact ⟨_,rfl,by simpa using h2⟩
 ·rintro ⟨e,h1,h2⟩
  exact ⟨(Array.getElem?_eq_some_iff.1 h1).1,by rw[h1];simpa using h2⟩
theorem ahu{es:Array MapEntry}{ck:Nat}(hst:pM es ck){i j:Nat}{e f:MapEntry}(hi:es[i]?=some e)(hj:es[j]?=some f)(h:e.born=f.born):i=j:=by
 have hn:=hst.2
 rw[←Array.getElem?_toList] at hi hj
 have h1:(es.toList.map (·.born))[i]?=some e.born:=by rw[List.getElem?_map,hi];rfl
 have h2:(es.toList.map (·.born))[j]?=some e.born:=by rw[List.getElem?_map,hj,h];rfl
 have hil:i<(es.toList.map (·.born)).length:=(List.getElem?_eq_some_iff.1 h1).1
 have hjl:j<(es.toList.map (·.born)).length:=(List.getElem?_eq_some_iff.1 h2).1
 exact (List.getElem?_inj hil hn).1 (h1.trans h2.symm)
theorem ad5{es:Array MapEntry}{cg:Array Nat}{ck i:Nat}{e:MapEntry}(hst:pM es ck)(hi:es[i]?=some e):nQ es (cg.push e.born)=(nQ es cg).filter (· != i):=by
 unfold nQ
 rw[List.filter_filter]
 refine List.filter_congr fun j hj =>?_
 have hjl:j<es.size:=by simpa using hj
 rw[Array.getElem?_eq_getElem hjl]
 simp only[Array.contains_push]
 by_cases hij:j=i
 ·subst hij
  rw[Array.getElem?_eq_getElem hjl,Option.some.injEq] at hi
  simp[hi]
 ·have:(es[j].born==e.born)=false:=by
   simp only[beq_eq_false_iff_ne,ne_eq]
   exact fun h=>hij (ahu hst (Array.getElem?_eq_getElem hjl) hi h)
  have h2:(j != i)=true:=by simpa using hij
  simp[this,h2]
theorem aeK{y:Operand}{y':aG}{ks vs:List I}{left:List Nat}{cur:Option Nat}{n:Nat}(ho:o.op=.next y false)(hy:bx c.P 0 y=some y')(h:ae A y'=.dg n)(hn:A.o n=some (.it ks vs left cur))(hdn:∀ k,o.dst=some k→k<c.n){a:Act}{w:World}{D:aH}{E:aS}(hs:aN c A a w D E) :
  ∃ w' v,(execOp a.eval o).run c.P w=.ok (.value v) w'∧((left=[]∧ct c (A.aI o.dst (.tuple [.bool false])) (a.put o.dst v) w') ∨
   ∃ i k x,i∈left∧ks[i]?=some k∧vs[i]?=some x∧ct c ((A.aL n (.it ks vs (left.filter (· != i)) (some i))).aI o.dst (.tuple [.bool true,k,x])) (a.put o.dst v) w'):=by
 have h1:=b8 hs hy
 rw[h] at h1
 obtain ⟨cs,q1,q2⟩:=h1
 simp only[af] at q2
 obtain ⟨r,q3,q4⟩:=q2
 have hv:a.eval y=.pointer (some ⟨r,0,none⟩):=by simpa[bB,I.isAgg,q4] using q1.symm
 have hob:=hs.bR n
 rw[hn] at hob
 obtain ⟨r',b,es,ck,since,cg,last,k1,k2,k3,k4,k5,k6,k7,k8,k9,k9',k10⟩:=hob
 rw[k1] at q3;cases q3
 rcases run_next_at (P:=c.P) w o.type r b since last cg es ck k3 k4.1 k7 k8.1 with ⟨h0,hrun⟩ | ⟨e,he,w1,hal,hrun⟩
 ·refine ⟨w,.tuple #[.bool false],by simp only[execOp,ho,hv,Sem.run_bind,hrun,Result.andThen_ok,Sem.run_pure],.inl ⟨?_,D,E,hs.aI hdn ?_⟩⟩
  ·rw[k9]
   refine List.eq_nil_iff_forall_not_mem.2 fun i hi =>?_
   obtain ⟨e,h1,h2⟩:=IP.1 hi
   have hm:e∈leftOf es cg:=by
    unfold leftOf
    simp only[Array.mem_filter]
    exact ⟨Array.mem_of_getElem? h1,by simpa using h2⟩
   rw[Array.eq_empty_of_size_eq_zero h0] at hm
   simp at hm
  ·simp only[aR,aD]
   exact ⟨[.bool false],rfl,.bool false,[],[.bool false],rfl,by simp[bB,I.isAgg],by simp[af],rfl⟩
 ·have hmem:e∈es.toList∧cg.contains e.born=false:=by
   unfold leftOf at he
   simp only[Array.toList_filter,List.mem_filter] at he
   exact ⟨he.1,by simpa using he.2⟩
  obtain ⟨i,hi⟩:=List.getElem?_of_mem hmem.1
  have hie:es[i]?=some e:=by rw[←Array.getElem?_toList];exact hi
  obtain ⟨k,hk1,hk2⟩:=mw (j:=i) (v:=e.key) k5 (by simp only[List.getElem?_map,hi,Option.map_some])
  obtain ⟨x,hx1,hx2⟩:=mw (j:=i) (v:=e.val) k6 (by simp only[List.getElem?_map,hi,Option.map_some])
  have hsw:aN c A a w1 D E:=by
   rcases hal with rfl | rfl
   ·exact hs
   ·exact hs.grow (w':=w.drew) (D':=D) ⟨rfl,rfl,rfl,Nat.le_refl _,fun _ _=>rfl⟩ (fun _ _ h=>h) (fun _ _ h _=>h) (fun b o hd=>hs.c9 b o hd)
  have hw1:w1.heap=w.heap:=by rcases hal with rfl | rfl <;>rfl
  have k3':w1.heap[r]?=some (.mapIter (some b) since cg last):=by rw[hw1];exact k3
  have hset:=hsw.Mj (x:=.it ks vs (left.filter (· != i)) (some i)) (o':=.mapIter (some b) since (cg.push e.born) ck) k1 rfl rfl k3' rfl (fun q=>by simp) k2
   (fun hl hh hno=>by
    have hm:nX w1 D b es ck:=⟨by rw[hw1];exact k4.1,k4.2.1,k4.2.2⟩
    have hob:=hsw.bR n
    rw[hn] at hob
    refine ⟨r,b,es,ck,since,cg.push e.born,ck,k1,k2,hh,hm.bC hl,aD.bC hl _ _ ?_,aD.bC hl _ _ ?_,k7,?_,?_,fun j hj =>?_,hno⟩
    ·obtain ⟨dR,b2,es2,ck2,si2,se2,la2,g1,g2,g3,g4,g5,g6,_⟩:=hob
     rw[k1] at g1;cases g1
     rw[k3'] at g3;cases g3
     have:=g4.1;rw[hw1,k4.1] at this;cases this
     exact g5
    ·obtain ⟨dR,b2,es2,ck2,si2,se2,la2,g1,g2,g3,g4,g5,g6,_⟩:=hob
     rw[k1] at g1;cases g1
     rw[k3'] at g3;cases g3
     have:=g4.1;rw[hw1,k4.1] at this;cases this
     exact g6
    ·exact ⟨k8.2,k8.2⟩
    ·rw[k9,ad5 k4.2.2 hie]
    ·cases hj
     exact ⟨e,hie,by simp,rfl⟩)
  have hset':aN c (A.aL n (.it ks vs (left.filter (· != i)) (some i))) a (ChangeMaps.setBlock w1 r (.mapIter (some b) since (cg.push e.born) ck)) D E:=hset
  refine ⟨_,.tuple #[.bool true,e.key,e.val],by simp only[execOp,ho,hv,Sem.run_bind,hrun,Result.andThen_ok,Sem.run_pure],.inr ⟨i,k,x,?_,hk1,hx1,D,E,hset'.aI hdn ?_⟩⟩
  ·rw[k9];exact IP.2 ⟨e,hie,hmem.2⟩
  ·have hob2:=hset'.bR n
   simp only[ab.aL,if_true] at hob2
   obtain ⟨dR,b2,es2,ck2,si2,se2,la2,g1,g2,g3,g4,g5,g6,_⟩:=hob2
   rw[k1] at g1;cases g1
   have hr2:(ChangeMaps.setBlock w1 r (.mapIter (some b) since (cg.push e.born) ck)).heap[r]?=some (.mapIter (some b) since (cg.push e.born) ck):=World.putObj_heap_same (w:=w1) (fK k3')
   rw[hr2] at g3;cases g3
   have hb2:(ChangeMaps.setBlock w1 r (.mapIter (some b) since (cg.push e.born) ck)).heap[b]?=some (.map es ck):=by
    have:b≠r:=fun e=>by rw[e] at k4;rw[k4.1] at k3;cases k3
    refine (World.putObj_heap_other (w:=w1) this).trans ?_
    rw[hw1];exact k4.1
   have:=g4.1;rw[hb2] at this;cases this
   obtain ⟨kk,a1,a2⟩:=mw (j:=i) (v:=e.key) g5 (by simp only[List.getElem?_map,hi,Option.map_some])
   rw[hk1] at a1;cases a1
   obtain ⟨xx,b1,b2⟩:=mw (j:=i) (v:=e.val) g6 (by simp only[List.getElem?_map,hi,Option.map_some])
   rw[hx1] at b1;cases b1
   obtain ⟨c1,c2,c3⟩:=oC (pG k5 hk1) a2
   obtain ⟨d1,d2,d3⟩:=oC (pG k6 hx1) b2
   simp only[aR,aD]
   exact ⟨[.bool true,e.key,e.val],rfl,.bool true,_,[.bool true],rfl,by simp[bB,I.isAgg],by simp[af],e.key,_,c1,rfl,c2,c3,e.val,[],d1,rfl,d2,d3,rfl⟩
theorem ac4{y:Operand}{y':aG}{ks vs:List I}{left:List Nat}{i n:Nat}{k x:I}(ho:o.op=.entry y)(hy:bx c.P 0 y=some y')(h:ae A y'=.dg n)(hn:A.o n=some (.it ks vs left (some i)))(hk:ks[i]?=some k)(hx:vs[i]?=some x):dD c A o (.tuple [k,x]) :=
 .same fun a w D E hs=>by
  have h1:=b8 hs hy
  rw[h] at h1
  obtain ⟨cs,q1,q2⟩:=h1
  simp only[af] at q2
  obtain ⟨r,q3,q4⟩:=q2
  have hv:a.eval y=.pointer (some ⟨r,0,none⟩):=by simpa[bB,I.isAgg,q4] using q1.symm
  have hob:=hs.bR n
  rw[hn] at hob
  obtain ⟨r',b,es,ck,since,cg,last,k1,k2,k3,k4,k5,k6,k7,k8,k9,k9',k10⟩:=hob
  rw[k1] at q3;cases q3
  obtain ⟨e,e1,e2,rfl⟩:=k9' i rfl
  have hi:es.toList[i]?=some e:=by rw[Array.getElem?_toList];exact e1
  obtain ⟨kk,a1,a2⟩:=mw (j:=i) (v:=e.key) k5 (by simp only[List.getElem?_map,hi,Option.map_some])
  rw[hk] at a1;cases a1
  obtain ⟨xx,b1,b2⟩:=mw (j:=i) (v:=e.val) k6 (by simp only[List.getElem?_map,hi,Option.map_some])
  rw[hx] at b1;cases b1
  obtain ⟨c1,c2,c3⟩:=oC (pG k5 hk) a2
  obtain ⟨d1,d2,d3⟩:=oC (pG k6 hx) b2
  have hf:es.find? (·.born==e.born)=some e:=by rw[←Array.find?_toList];exact find_born e es.toList k4.2.2.2 (List.mem_of_getElem? hi)
  refine ⟨.tuple #[e.key,e.val],?_,?_⟩
  ·have hr:(Instr.entry (.pointer (some ⟨r,0,none⟩))).run c.P w=.ok (.tuple #[e.key,e.val]) w:=by
    simp only[Instr.entry,getObj,Sem.run_bind,Sem.run,k3,k4.1,Result.andThen,e2,bne_self_eq_false,Bool.false_eq_true,if_false,hf]
    rfl
   simp only[execOp,ho,hv,Sem.run_bind,hr,Result.andThen_ok,Sem.run_pure]
  ·simp only[aR,aD]
   exact ⟨[e.key,e.val],rfl,e.key,_,c1,rfl,c2,c3,e.val,[],d1,rfl,d2,d3,rfl⟩
theorem LQ{w:World}{D:aH}{E:aS}{z:I}{v:Value}(h:af w D E z [v]):∀ n:Nat,aF w D E (List.replicate n z) (List.replicate n v)
 |0=>by simp[aF]
 |n+1=>by simp only[List.replicate_succ,aF];exact ⟨[v],_,rfl,h,LQ h n⟩
theorem V4{t e:TypeId}{l l':Operand}{n':aG}{z:I}{n d:Nat}{k:IntKind}(ho:o.op=.makeSlice t l l')(hll:l'=l)(hu:c.P.underlying t=some (.slice e))(hl:bx c.P 0 l=some n')(h:ae A n'=.int k n)(hz:fN c.P e=some z)(hz1:z.size=1)
  (hc1:c.P.cellsOf e=1) (hby:n*c.P.bytesOf e≤281474976710656) (hmax:n≤maxLen) (hd:o.dst=some d) (hn:d<c.n) (hf:A.o d=none):iw c A o ((A.aL d (.box (.agg (List.replicate n z)))).put d (.view d [] 1 0 n)):=by
 subst hll
 intro a w D E hs
 have h1:=b8 hs hl
 rw[h] at h1
 obtain ⟨e1,_⟩:=fg h1
 obtain ⟨i,zv,hi,hzz,hzr⟩:=lL hz
 have hzc:=af.length _ _ (hzr w D E)
 rw[hz1] at hzc
 obtain ⟨u,hu1⟩:∃ u,zv.cells = #[u]:=by
  have:zv.cells.size=1:=by simpa using hzc
  obtain ⟨u,hu⟩:=Array.size_eq_one_iff.1 this
  exact ⟨u,hu⟩
 have hsz:i.size=1:=by have:=hc1;simp only[Program.cellsOf,hi,Option.map_some,Option.getD_some] at this;exact this
 have hbytes:(i.bytes:Int)*(n:Int)≤281474976710656:=by
  have:c.P.bytesOf e=i.bytes:=by simp[Program.bytesOf,hi]
  rw[this] at hby
  have h2:((i.bytes*n:Nat):Int)≤281474976710656:=by rw[Nat.mul_comm] at hby;omega
  rwa [Int.natCast_mul] at h2
 have hrun:=run_make (P:=c.P) w t e i zv hu hi hzz k k n n (by omega) (Int.le_refl _) hbytes (by have h9:=hmax;unfold maxLen at h9;omega)
 simp only[Int.toNat_natCast,hsz,Nat.mul_one] at hrun
 have hmc:(madeCells zv.cells n).toList=List.replicate n u:=by
  rw[hu1]
  simp only[madeCells]
  apply List.ext_getElem?
  intro j
  simp[List.getElem?_replicate]
  split <;>simp_all[Nat.mod_one]
 have hcells:af w D E (.agg (List.replicate n z)) (madeCells zv.cells n).toList:=by
  rw[hmc]
  simp only[af]
  refine LQ ?_ n
  have:=hzr w D E
  rw[hu1] at this
  simpa using this
 have h2:=hs.qC (T:=e) (.inl hn) hf hcells
 have h3:=h2.put (x:=.view d [] 1 0 n) (v:=.slice (some ⟨w.heap.size,0,none⟩) n n) hn ⟨_,by simp[bB,I.isAgg];rfl,by
  simp only[af,if_true]
  refine ⟨w.heap.size,_,0,I.cQ (List.replicate n z),rfl,by simp[cI.off],by simp[I.aJ,cI.part],by simp[I.de],by simpa[I.de] using hmax,by simp[I.de],fun s hs =>?_⟩
  rw[I.de] at hs
  obtain ⟨y,hy,rfl⟩:=List.mem_map.1 hs
  rw[I.lJ,(List.mem_replicate.1 hy).2,hz1]⟩
 refine ⟨_,.inl ⟨_,?_,D,_,by rw[hd];exact h3⟩⟩
 simp only[execOp,ho,e1,Sem.run_bind,hrun,Result.andThen_ok,Sem.run_pure]
end
end Go.Abs
namespace Go.Abs
open Go Go.RowKit
mutual
/-- Values that lead to no memory. -/
def I.flat:I→Bool
 | .agg fs | .tuple fs=>I.oX fs
 | .bool _ | .int _ _ | .cR _ | .nilp | .da | .dL | .raw _ | .undef | .c8=>true
 |_=>false
def I.oX:List I→Bool
 | []=>true
 |x::xs=>x.flat&&I.oX xs
end
mutual
theorem af.flat{w w':World}{D D':aH}{E E':aS} : ∀ (x:I) (cs:List Value),x.flat=true→af w D E x cs→af w' D' E' x cs
 | .agg fs,cs,hf,hr=>by simp only[af,I.flat] at *;exact aF.flat fs cs hf hr
 | .bool b,cs,_,hr=>by simpa only[af] using hr
 | .int k n,cs,_,hr=>by simpa only[af] using hr
 | .cR s,cs,_,hr=>by simpa only[af] using hr
 | .nilp,cs,_,hr=>by simpa only[af] using hr
 | .da,cs,_,hr=>by simpa only[af] using hr
 | .dL,cs,_,hr=>by simpa only[af] using hr
 | .raw _,cs,_,hr=>by simpa only[af] using hr
 | .undef,_,_,hr=>by simp only[af] at hr
 | .c8,_,_,hr=>by simp only[af] at hr
 | .tuple _,_,_,hr=>by simp only[af] at hr
 | .nils _,_,hf,_ | .c0 _,_,hf,_ | .slice _ _,_,hf,_ | .ref _,_,hf,_ | .func _ _,_,hf,_ | .iface _ _,_,hf,_ | .ptr _ _,_,hf,_ | .own _ _,_,hf,_ | .view _ _ _ _ _,_,hf,_ | .mref _,_,hf,_ | .dg _,_,hf,_ | .cM _ _,_,hf,_=>by simp[I.flat] at hf
theorem aF.flat{w w':World}{D D':aH}{E E':aS} : ∀ (xs:List I) (cs:List Value),I.oX xs=true→aF w D E xs cs→aF w' D' E' xs cs
 | [],cs,_,hr=>by simpa only[aF] using hr
 |x::xs,cs,hf,hr=>by
  simp only[aF,I.oX,Bool.and_eq_true] at *
  obtain ⟨c1,c2,h1,h2,h3⟩:=hr
  exact ⟨c1,c2,h1,af.flat x c1 hf.1 h2,aF.flat xs c2 hf.2 h3⟩
end
theorem aD.flat{w w':World}{D D':aH}{E E':aS} : ∀ (xs:List I) (vs:List Value),I.oX xs=true→aD w D E xs vs→aD w' D' E' xs vs
 | [],vs,_,hr=>by simpa only[aD] using hr
 |x::xs,vs,hf,hr=>by
  simp only[aD,I.oX,Bool.and_eq_true] at *
  obtain ⟨v,rest,cs,h1,h2,h3,h4⟩:=hr
  exact ⟨v,rest,cs,h1,h2,af.flat x cs hf.1 h3,aD.flat xs rest hf.2 h4⟩
theorem aR.flat{w w':World}{D D':aH}{E E':aS}{x:I}{v:Value}(hf:x.flat=true)(hr:aR w D E x v):aR w' D' E' x v:=by
 cases x <;>simp only[aR] at * <;>first
  |exact hr
  |(obtain ⟨vs,h1,h2⟩:=hr;exact ⟨vs,h1,aD.flat _ _ (by simpa[I.flat] using hf) h2⟩)
  |(obtain ⟨cs,h1,h2⟩:=hr;exact ⟨cs,h1,af.flat _ _ hf h2⟩)
def dz:aS:=fun _=>none
def aB(P:Program)(f:FuncId)(args:List I)(r:I):Prop :=
 gG P f=true∧∀ (w:World) (D:aH) (vs:List Value),(∀ b o,D b o→b<w.heap.size)→aD w D dz args vs →
  Calls P f vs.toArray w fun e w'=>∃ v D',e=.returned v∧aR w' D' dz r v∧Below w.heap.size w w'∧(∀ b o,D' b o→b<w'.heap.size)∧∀ b o,D' b o→b<w.heap.size→D b o
def cD(P:Program)(f:FuncId)(args:List I)(os:List (Nat×ah))(post:cS):Prop :=
 gG P f=true∧pS (Calls P f) (fun _ _ _=>True) args os post
def bd(p:Nat→Bool):List (Nat×ah)→Prop
 | []=>True
 |(_,v)::r=>v.only p=true∧bd p r
def c4(ns:List Nat)(os:List (Nat×ah)):List (Nat×ah):=os.filter fun q => !ns.contains q.1
def gI(ns:List Nat)(ts:List (Nat×I)):List (Nat×I):=ts.map fun q=>(q.1,if q.2.only (fun n => !ns.contains n) then q.2 else .c8)
def iG(ns:List Nat)(os:List (Nat×ah)):List (Nat×ah):=os.filter fun q=>ns.contains q.1
def jD(ρ:List (Nat×Nat))(os:List (Nat×ah)):List Nat:=os.map fun q=>bA ρ q.1
def iX(aw:Bool)(A0:ab)(ρ:List (Nat×Nat))(os:List (Nat×ah)):List I→List I→Prop
 | [],[]=>True
 |x::xs,c::cs=>((x=c.aK (bA ρ)∧c.only (al os)=true∧c.b9=true)∨a6 aw A0 x=some c)∧iX aw A0 ρ os xs cs
 |_,_=>False
structure av where
 dst:Option Nat
 op:bZ
 guard:Option (Nat×Bool)
 deriving Inhabited
inductive cF where
 |done (A:ab)
 |fail
 |call (f:FuncId) (avs:List I) (a1 a2:Option (List I)) (dst:Option Nat) (rest:List av) (A:ab)
 |oO (v:Value) (avs:List I) (dst:Option Nat) (rest:List av) (A:ab)
 |kc (f:FuncId) (avs:List I) (dst:Option Nat) (rest:List av) (A:ab)
 |any (p:Nat→Prop) (k:Nat→cF)
def cJ(x:Option I)(k:I→cF):cF:=match x with
 |some v=>k v
 |none=>.fail
def xm(s:Option Nat)(v old:I):Prop:=v.b9=true∧bU s v=true∧v.aJ=old.aJ
def xe(e esz bytes l sz:Nat)(ys:List I)(T sz':Nat)(es:List I):Prop:=l=es.length∧sz=esz∧T=e∧sz'=esz∧ys≠[]∧es.length+ys.length≤maxLen∧(es.length+ys.length)*bytes≤140737488355328
def qp(ys:List I):List Int:=ys.filterMap fun y=>match y with | .int .i64 i=>some i | _=>none
def xf(e esz bytes l:Nat)(ys:List I)(T:Nat)(xs:List Int)(z:I):Prop:=l=xs.length∧esz=1∧T=e∧z=.int .i64 0∧ys=(qp ys).map (.int .i64)∧ys≠[]∧xs.length+ys.length≤maxLen∧(xs.length+ys.length)*bytes≤140737488355328
def jL:I→Bool
 | .slice _ es=>es.isEmpty
 | .c0 _=>true
 |_=>false
open Classical in
noncomputable def gD(A:ab)(dst:Option Nat)(esz bytes:Nat)(z:I)(es ys:List I)(k:ab→cF):cF :=
 match dst with
 |some d=>match A.o d with
  |none=>if (es.length+ys.length)*bytes≤140737488355328∧es.length+ys.length≤maxLen then
    .any (fun m=>es.length+ys.length+m≤maxLen) (fun m=>k ((A.aL d (.box (.agg (es++(ys++List.replicate m z))))).aI dst (.view d [] esz 0 (es.length+ys.length)))) else .fail
  |some _=>.fail
 |none=>.fail
open Classical in
noncomputable def fm(A:ab)(dst:Option Nat)(esz bytes:Nat)(z:I)(s:I):Option (List I)→Option (List I)→(ab→cF)→cF
 |some es,some ys,k=>if ys=[] then k (A.aI dst s) else match s with
  | .nils _=>gD A dst esz bytes z es ys k
  | .c0 _=>gD A dst esz bytes z es ys k
  | .view n p sz lo l=>match A.o n with
   |some (.box b)=>match b.at p with
    |some (.agg fs)=>if lo+l+ys.length≤fs.length then
      (if sz=esz∧I.cQ ys=I.cQ ((fs.drop (lo+l)).take ys.length) then k ((A.aL n (.box (iQ b p (lo+l) fs ys))).aI dst (.view n p esz lo (l+ys.length))) else .fail)
      else gD A dst esz bytes z es ys k
    |_=>.fail
   |_=>.fail
  |_=>.fail
 |_,_,_=>.fail
open Classical in
noncomputable def ud(A:ab)(dst:Option Nat)(esz bytes:Nat)(z:I)(m:Nat)(s:I):Option (List I)→(ab→cF)→cF
 |some es,k=>match s with
  | .view n p _ lo l=>match A.o n with
   |some (.box b)=>match b.at p with
    |some (.agg fs)=>if 0<m∧fs.length<lo+l+m then gD A dst esz bytes z es (List.replicate m z) k else .fail
    |_=>.fail
   |_=>.fail
  |_=>.fail
 |_,_=>.fail
open Classical in
noncomputable def mL(A:ab)(esz:Nat)(z:I)(k:ab→cF):I→cF
 | .view n p sz lo l=>match A.o n with
  |some (.box b)=>match b.at p with
   |some (.agg fs)=>if sz=esz∧I.cQ (List.replicate l z)=I.cQ ((fs.drop lo).take l) then k (A.aL n (.box (iQ b p lo fs (List.replicate l z)))) else .fail
   |_=>.fail
  |_=>.fail
 | .nils _=>k A
 | .c0 _=>k A
 |_=>.fail
open Classical in
noncomputable def rP(A:ab)(dst:Option Nat)(esz:Nat)(k:ab→cF):I→Option (List I)→cF
 | .view n p sz lo l,some ys=>match A.o n with
  |some (.box b)=>match b.at p with
   |some (.agg fs)=>if sz=esz∧I.cQ (ys.take (min ys.length l))=I.cQ ((fs.drop lo).take (min ys.length l)) then k ((A.aL n (.box (iQ b p lo fs (ys.take (min ys.length l))))).aI dst (.int .i64 (min ys.length l:Nat))) else .fail
   |_=>.fail
  |_=>.fail
 |_,_=>.fail
open Classical in
noncomputable def aY(A:ab)(dst:Option Nat)(op:bZ)(rest:List av)(k:ab→cF):cF :=
 match op with
 | .alloc z=>match dst with
  |some d=>match A.o d with
   |none=>k ((A.aL d (.box z)).put d (.ptr d []))
   |some _=>.fail
  |none=>.fail
 | .box x=>match dst with
  |some d=>match A.o d with
   |none=>if (ae A x).b9 then k ((A.aL d (.box (ae A x))).put d (.ptr d [])) else .fail
   |some _=>.fail
  |none=>.fail
 | .br s x v=>match dst with
  |none=>match ae A x with
   | .ptr n p=>match A.o n with
    |some (.box b)=>match b.at p with
     |some old=>if xm s (ae A v) old then k (A.aL n (.box (b.dx p (ae A v)))) else .fail
     |none=>.fail
    |_=>.fail
   |_=>.fail
  |some _=>.fail
 | .dF e esz bytes z s x=>match ae A s with
  | .own n l=>match ae A x with
   | .slice sz ys=>match A.o n with
    |some (.bS T sz' es)=>if xe e esz bytes l sz ys T sz' es then k ((A.aL n (.bS e esz (es++ys))).aI dst (.own n (es.length+ys.length))) else .fail
    |some (.cO T xs)=>if xf e esz bytes l ys T xs z then k ((A.aL n (.cO e (xs++qp ys))).aI dst (.own n (xs.length+ys.length))) else .fail
    |_=>.fail
   |_=>.fail
  |s'=>fm A dst esz bytes z s' (en A esz s') (en A esz (ae A x)) k
 | .lR _ esz bytes z s n=>match ae A n with
  | .int _ m=>ud A dst esz bytes z m.toNat (ae A s) (en A esz (ae A s)) k
  |_=>.fail
 | .nilS neg x=>if jL (ae A x) then .any (fun m=>m<2) (fun m=>k (A.aI dst (.bool (m==0)))) else cJ (a8 A (.nilS neg x)) fun v=>k (A.aI dst v)
 | .iY esz z x=>match dst with
  |none=>mL A esz z k (ae A x)
  |some _=>.fail
 | .kX esz x y=>rP A dst esz k (ae A x) (en A esz (ae A y))
 | .call f args=>.call f (args.map (ae A)) (bY true A (args.map (ae A))) (bY false A (args.map (ae A))) dst rest A
 | .eG x args=>match ae A x with
  | .func f caps=>.call f (args.map (ae A)++caps) (bY true A (args.map (ae A)++caps)) (bY false A (args.map (ae A)++caps)) dst rest A
  | .raw v=>.oO v (args.map (ae A)) dst rest A
  |_=>.fail
 | .kc f args=>.kc f (args.map (ae A)) dst rest A
 | .jB=>match dst with
  |some d=>match A.o d with
   |none=>k ((A.aL d (.cu [] [])).put d (.mref d))
   |some _=>.fail
  |none=>.fail
 | .jY _ bytes z n=>match dst with
  |some d=>match A.o d with
   |none=>match ae A n with
    | .int _ n=>if 0≤n∧n.toNat*bytes≤281474976710656∧n.toNat≤maxLen then k ((A.aL d (.box (.agg (List.replicate n.toNat z)))).put d (.view d [] 1 0 n.toNat)) else .fail
    |_=>.fail
   |some _=>.fail
  |none=>.fail
 | .gp ty m key v=>match dst with
  |none=>match ae A m with
   | .mref n=>match A.o n with
    |some (.cu ks vs)=>match fR ty (ae A key) (ae A v) ks vs with
     |some (ks',vs')=>k (A.aL n (.cu ks' vs'))
     |none=>.fail
    |_=>.fail
   |_=>.fail
  |some _=>.fail
 | .j7 x=>match dst with
  |some d=>match A.o d with
   |none=>match ae A x with
    | .cM ks vs=>k ((A.aL d (.it ks vs (List.range ks.length) none)).put d (.dg d))
    |_=>.fail
   |some _=>.fail
  |none=>.fail
 | .jg x=>match ae A x with
  | .dg n=>match A.o n with
   |some (.it ks vs left cur)=>if left=[] then k (A.aI dst (.tuple [.bool false])) else
     .any (fun i=>i∈left) fun i=>match ks[i]?,vs[i]? with
      |some kk,some x=>k ((A.aL n (.it ks vs (left.filter (· != i)) (some i))).aI dst (.tuple [.bool true,kk,x]))
      |_,_=>.fail
   |_=>.fail
  |_=>.fail
 |op=>cJ (a8 A op) fun v=>k (A.aI dst v)
noncomputable def az:List av→ab→cF
 | [],A=>.done A
 |g::rest,A=>match g.guard with
  |none=>aY A g.dst g.op rest (az rest)
  |some (t,b)=>match A.t t with
   | .bool b'=>if b'=b then aY A g.dst g.op rest (az rest) else az rest (A.aI g.dst .undef)
   | .undef=>az rest (A.aI g.dst .undef)
   |_=>.fail
def Oy(P:Program)(A:ab)(f:FuncId)(avs:List I)(r:I):Prop :=
 ∀ (c:cK) (a:Act) (w:World) (D:aH) (E:aS) (vs:List Value),c.P=P→aN c A a w D E→fH (aR w D E) avs vs→∃ v,(callFunc f vs.toArray).run P w=.ok (.value v) w∧aR w D E r v
inductive a7 (P:Program) (Y:Value→List I→List (Nat×ah)→cS→Prop) (dr:Bool) (K:ab→Prop):cF→Prop where
 |done {A:ab} : K A→a7 P Y dr K (.done A)
 |flat {f:FuncId} {avs cargs:List I} {a2:Option (List I)} {dst:Option Nat} {rest:List av} {A:ab} (r:I):aB P f cargs r→r.flat=true→a7 P Y dr K (az rest (A.aI dst r))→a7 P Y dr K (.call f avs (some cargs) a2 dst rest A)
 |lead {f:FuncId} {avs cargs:List I} {a1:Option (List I)} {dst:Option Nat} {rest:List av} {A:ab} (r:I):aB P f cargs r→a7 P Y dr K (az rest (A.aI dst r))→a7 P Y dr K (.call f avs a1 (some cargs) dst rest A)
 |ib {f:FuncId} {avs cargs:List I} {a1 a2:Option (List I)} {dst:Option Nat} {rest:List av} {ts:List (Nat×I)} {os0:List (Nat×ah)} (ns:List Nat) (r:I):dr=false→aB P f cargs r→bY true (au ts (iG ns os0)) avs=some cargs →
   bd (fun n => !ns.contains n) (c4 ns os0)→a7 P Y dr K (az rest ((au (gI ns ts) (c4 ns os0)).aI dst r))→a7 P Y dr K (.call f avs a1 a2 dst rest (au ts os0))
 |bR {f:FuncId} {avs:List I} {a1 a2:Option (List I)} {dst:Option Nat} {rest:List av} {ts:List (Nat×I)} {os0:List (Nat×ah)} (aw:Bool) (ρ:List (Nat×Nat)) (os:List (Nat×ah)) (cargs:List I) (post:cS):dr=false→cD P f cargs os post →
   fT ρ os os0→iX aw (au ts (c4 (jD ρ os) os0)) ρ os avs cargs→(∀ r os',post r os'→er aw ρ os os0 r os') →
   (∀ r os',post r os'→a7 P Y dr K (az rest ((au ts (dI ρ os'++os0)).aI dst (r.aK (bA ρ)))))→a7 P Y dr K (.call f avs a1 a2 dst rest (au ts os0))
 |yj {v:Value} {avs:List I} {dst:Option Nat} {rest:List av} {ts:List (Nat×I)} {os0:List (Nat×ah)} (os:List (Nat×ah)) (cargs:List I) (post:cS):dr=false→Y v cargs os post →
   fT [] os os0→iX false (au ts (c4 (jD [] os) os0)) [] os avs cargs→(∀ r os',post r os'→er false [] os os0 r os') →
   (∀ r os',post r os'→a7 P Y dr K (az rest ((au ts (dI [] os'++os0)).aI dst (r.aK (bA [])))))→a7 P Y dr K (.oO v avs dst rest (au ts os0))
 |ext {f:FuncId} {avs:List I} {dst:Option Nat} {rest:List av} {A:ab} (r:I):dr=false→Oy P A f avs r→a7 P Y dr K (az rest (A.aI dst r))→a7 P Y dr K (.kc f avs dst rest A)
 |any {p:Nat→Prop} {k:Nat→cF} : dr=false→(∀ m,p m→a7 P Y dr K (k m))→a7 P Y dr K (.any p k)
def BL(n:Nat):Option Nat→Bool
 |some d=>decide (d<n)
 |none=>true
def oN(P:Program)(n:Nat)(bQ:Array Oper)(o:Oper):Option av :=
 match du P o with
 |none=>none
 |some g=>if BL n o.dst=true then
   match o.guard with
   |none=>some ⟨o.dst,g,none⟩
   |some (j,b)=>match (bQ[j]?).bind (·.dst) with
    |some t=>some ⟨o.dst,g,some (t,b)⟩
    |none=>none
  else none
def kh(P:Program)(n:Nat)(bQ:Array Oper):List Oper→Option (List av)
 | []=>some []
 |o::l=>match oN P n bQ o,kh P n bQ l with
  |some g,some gs=>some (g::gs)
  |_,_=>none
end Go.Abs
namespace Go.Abs
open Go Go.RowKit
section
variable {c:cK} {A:ab} {o:Oper} {x:I}
theorem agu{g:bZ}(hg:du c.P o=some g)(h:a8 A g=some x):dD c A o x:=by
 unfold du at hg
 split at hg
 -- move
 ·rename_i y ho
  simp only[Option.map_eq_some_iff] at hg
  obtain ⟨z,hz,rfl⟩:=hg
  simp only[a8,Option.some.injEq] at h
  subst h
  exact Ij (.inl ho) hz
 ·rename_i y ho
  simp only[Option.map_eq_some_iff] at hg
  obtain ⟨z,hz,rfl⟩:=hg
  simp only[a8,Option.some.injEq] at h
  subst h
  exact Ij (.inr ho) hz
 -- pick
 ·rename_i q y z ho
  split at hg
  ·rename_i q' y' z' h1 h2 h3
   simp only[Option.some.injEq] at hg
   subst hg
   simp only[a8] at h
   split at h
   ·rename_i t ht
    simp only[Option.some.injEq] at h
    subst h
    exact adn ho h1 h2 h3 ht
   ·cases h
  ·cases hg
 -- binOp
 ·rename_i op t y z yt ho
  split at hg
  ·rename_i k y' z' hu h1 h2
   simp only[Option.some.injEq] at hg
   subst hg
   exact Ih ho h1 h2 h
  ·rename_i y' z' hu h1 h2
   simp only[Option.some.injEq] at hg
   subst hg
   exact Ih ho h1 h2 h
  ·rename_i e y' z' hu h1 h2
   split at hg
   ·rename_i s
    split at hg
    ·rename_i hop
     simp only[Option.some.injEq] at hg
     subst hg
     have ho':o.op=.binOp (if (op==.neq)=true then .neq else .eql) t y z yt:=by
      rcases hop with rfl | rfl <;>simpa using ho
     simp only[a8] at h
     split at h
     ·rename_i s' hs'
      simp only[Option.some.injEq] at h
      subst h
      have:=vW (r:=true) ho' hu h1 h2 (.inl ⟨s',hs',rfl⟩)
      rw[show (if (op==BinOp.neq)=true then !true else true) = !(op==BinOp.neq) from by cases (op==BinOp.neq) <;>rfl] at this
      exact this
     ·rename_i s' es hs'
      split at h
      ·cases h
      ·rename_i hne
       simp only[Option.some.injEq] at h
       subst h
       have:=vW (r:=false) ho' hu h1 h2 (.inr (.inl ⟨s',es,hs',by simpa using hne,rfl⟩))
       rw[show (if (op==BinOp.neq)=true then !false else false)=(op==BinOp.neq) from by cases (op==BinOp.neq) <;>rfl] at this
       exact this
     ·rename_i n p s' lo k hs'
      simp only[Option.some.injEq] at h
      subst h
      have:=vW (r:=false) ho' hu h1 h2 (.inr (.inr ⟨n,p,s',lo,k,hs',rfl⟩))
      rw[show (if (op==BinOp.neq)=true then !false else false)=(op==BinOp.neq) from by cases (op==BinOp.neq) <;>rfl] at this
      exact this
     ·cases h
    ·cases hg
   ·cases hg
  ·rename_i e y' z' hu h1 h2
   split at hg
   ·rename_i hop
    simp only[Option.some.injEq] at hg
    subst hg
    have ho':o.op=.binOp (if (op==.neq)=true then .neq else .eql) t y z yt:=by
     rcases hop with rfl | rfl <;>simpa using ho
    simp only[a8] at h
    cases hb1:iF (ae A y') with
    |none=>rw[hb1] at h;cases h
    |some b1=>cases hb2:iF (ae A z') with
     |none=>rw[hb1,hb2] at h;cases h
     |some b2 =>
      rw[hb1,hb2] at h
      simp only[mh] at h
      split at h
      ·rename_i hor
       simp only[Option.some.injEq] at h
       subst h
       exact ado ho' hu h1 h2 hb1 hb2 (by simpa using hor)
      ·cases h
   ·cases hg
  ·rename_i d y' z' _ _ _ _ hu h1 h2
   split at hg
   ·rename_i hop
    simp only[Option.map_eq_some_iff] at hg
    obtain ⟨ty,hty,rfl⟩:=hg
    have ho':o.op=.binOp (if (op==.neq)=true then .neq else .eql) t y z yt:=by
     rcases hop.1 with rfl | rfl <;>simpa using ho
    simp only[a8,Option.map_eq_some_iff] at h
    obtain ⟨r,hr,rfl⟩:=h
    exact ac5 ho' h1 h2 hop.2 hty hr
   ·cases hg
  ·cases hg
 -- unOp
 ·rename_i op t y ho
  simp only[Option.map_eq_some_iff] at hg
  obtain ⟨z,hz,rfl⟩:=hg
  simp only[a8] at h
  split at h
  ·rename_i b hb
   simp only[Option.some.injEq] at h
   subst h
   exact adm ho hz hb
  ·rename_i k n hb
   simp only[Option.some.injEq] at h
   subst h
   exact adl ho hz hb
  ·rename_i k n hb
   simp only[Option.some.injEq] at h
   subst h
   exact ac3 ho hz hb
  ·cases h
 -- nilCheck
 ·rename_i y ho
  simp only[Option.map_eq_some_iff] at hg
  obtain ⟨z,hz,rfl⟩:=hg
  simp only[a8] at h
  cases hy:ae A z <;>rw[hy] at h <;>simp only[mc,Option.some.injEq] at h <;>try (cases h;done)
  ·subst h;rw[←hy];exact Ik ho hz (.inr ⟨_,hy⟩)
  ·subst h;rw[←hy];exact Ik ho hz (.inl ⟨_,_,hy⟩)
 -- makeMap
 ·simp only[Option.some.injEq] at hg
  subst hg
  simp[a8] at h
 -- lookup
 ·rename_i t m k ok ho
  split at hg
  ·rename_i kt et m' k' hu h1 h2
   split at hg
   ·rename_i ty z hk hz
    split at hg
    ·rename_i hp
     simp only[Option.some.injEq] at hg
     subst hg
     simp only[a8] at h
     cases hm:fZ A (ae A m') with
     |none=>rw[hm] at h;cases h
     |some q =>
      obtain ⟨ks,vs⟩:=q
      rw[hm] at h
      simp only[qx] at h
      cases hl:fY ty z (ae A k') ks vs with
      |none=>rw[hl] at h;cases h
      |some q =>
       obtain ⟨v,b⟩:=q
       rw[hl] at h
       simp only[qy,Option.some.injEq] at h
       subst h
       exact adj ho hu hk hz hp h1 h2 hm hl
    ·cases hg
   ·cases hg
  ·cases hg
 -- mapUpdate,insert
 iterate 2
  ·split at hg
   ·split at hg
    ·simp only[Option.some.injEq] at hg
     subst hg
     simp[a8] at h
    ·cases hg
   ·cases hg
 -- makeSlice
 ·split at hg
  ·split at hg
   ·split at hg
    ·simp only[Option.some.injEq] at hg
     subst hg
     simp[a8] at h
    ·cases hg
   ·cases hg
  ·cases hg
 -- range
 ·split at hg
  ·simp only[Option.map_eq_some_iff] at hg
   obtain ⟨z,_,rfl⟩:=hg
   simp[a8] at h
  ·cases hg
 -- next
 ·simp only[Option.map_eq_some_iff] at hg
  obtain ⟨z,_,rfl⟩:=hg
  simp[a8] at h
 -- entry
 ·rename_i y ho
  simp only[Option.map_eq_some_iff] at hg
  obtain ⟨z,hz,rfl⟩:=hg
  simp only[a8] at h
  split at h
  ·rename_i n hn
   split at h
   ·rename_i ks vs left cur hob
    cases cur with
    |none=>cases h
    |some i =>
     simp only[oS] at h
     split at h
     ·rename_i kk xx hk hx
      simp only[Option.some.injEq] at h
      subst h
      exact ac4 ho hz hn hob hk hx
     ·cases h
   ·cases h
  ·cases h
 -- convert
 ·rename_i nq dst y ho
  split at hg
  ·rename_i k0 k y' h1 h2 h3
   simp only[Option.some.injEq] at hg
   subst hg
   simp only[a8] at h
   split at h
   ·rename_i k1 n hn
    simp only[Option.some.injEq] at h
    subst h
    exact ac2 ho h1 h2 h3 hn
   ·cases h
  ·cases hg
 -- load
 ·rename_i t y ho
  split at hg
  ·rename_i s y' h1 h2
   simp only[Option.some.injEq] at hg
   subst hg
   simp only[a8] at h
   split at h
   ·rename_i v hv
    split at h
    ·rename_i hok
     simp only[Option.some.injEq] at h
     subst h
     exact adi ho h1 h2 hv hok
    ·cases h
   ·cases h
  ·cases hg
 -- fieldAddr
 ·rename_i t y f ho
  split at hg
  ·rename_i fs y' hu h1
   split at hg
   ·rename_i fd hf
    split at hg
    ·cases hg
    ·rename_i hz
     simp only[Option.some.injEq] at hg
     subst hg
     simp only[a8] at h
     split at h
     ·rename_i gs hgs
      split at h
      ·rename_i v hv
       split at h
       ·rename_i hoff
        simp only[Option.some.injEq] at h
        subst h
        exact ac8 ho hu hf hz h1 hgs hv hoff
       ·cases h
      ·cases h
     ·rename_i n p hp
      split at h
      ·rename_i gs hgs
       split at h
       ·rename_i hoff
        simp only[Option.some.injEq] at h
        subst h
        exact ac7 ho hu hf hz h1 hp hgs hoff.1 hoff.2
       ·cases h
      ·cases h
     ·cases h
   ·cases hg
  ·cases hg
 -- field
 ·rename_i t y f ho
  split at hg
  ·rename_i fs y' hu h1
   split at hg
   ·rename_i fd hf
    simp only[Option.map_eq_some_iff] at hg
    obtain ⟨s,hs,rfl⟩:=hg
    simp only[a8] at h
    split at h
    ·rename_i gs hgs
     split at h
     ·rename_i v hv
      split at h
      ·rename_i hoff
       simp only[Option.some.injEq] at h
       subst h
       exact ac9 ho hu hf hs h1 hgs hv hoff.1 hoff.2
      ·cases h
     ·cases h
    ·cases h
   ·cases hg
  ·cases hg
 -- indexAddr
 ·rename_i t y i ho
  split at hg
  ·rename_i n e y' i' hu h1 h2
   split at hg
   ·rename_i hinfo
    obtain ⟨ti,hti⟩:=Option.isSome_iff_exists.1 hinfo
    simp only[Option.some.injEq] at hg
    subst hg
    simp only[a8] at h
    split at h
    ·rename_i kk k hk
     split at h
     ·rename_i hb
      split at h
      ·rename_i gs hgs
       split at h
       ·rename_i hev
        simp only[Option.map_eq_some_iff] at h
        obtain ⟨v,hv,rfl⟩:=h
        exact adb ho hu hti h1 h2 hgs hk hb hev hv
       ·cases h
      ·rename_i m p hp
       split at h
       ·rename_i gs hgs
        split at h
        ·rename_i hev
         simp only[Option.some.injEq] at h
         subst h
         exact ada ho hu hti h1 h2 hp hk hb hgs hev
        ·cases h
       ·cases h
      ·cases h
     ·cases h
    ·cases h
   ·cases hg
  ·rename_i e y' i' hu h1 h2
   split at hg
   ·rename_i hinfo
    obtain ⟨ti,hti⟩:=Option.isSome_iff_exists.1 hinfo
    simp only[Option.some.injEq] at hg
    subst hg
    simp only[a8] at h
    split at h
    ·rename_i kk k hk
     split at h
     ·rename_i sz es hes
      split at h
      ·rename_i hb
       obtain ⟨rfl,hb⟩:=hb
       simp only[Option.map_eq_some_iff] at h
       obtain ⟨v,hv,rfl⟩:=h
       exact ade ho hu hti h1 h2 hes hk hb hv
      ·cases h
     ·rename_i m l hm
      split at h
      ·rename_i T sz es hes
       split at h
       ·rename_i hb
        obtain ⟨rfl,rfl,hb⟩:=hb
        simp only[Option.map_eq_some_iff] at h
        obtain ⟨v,hv,rfl⟩:=h
        exact adf ho hu hti h1 h2 hm hes hk hb hv
       ·cases h
      ·cases h
     ·rename_i m p sz lo l hm
      split at h
      ·rename_i fs hfs
       split at h
       ·rename_i hb
        simp only[Option.some.injEq] at h
        subst h
        exact adg ho hu hti h1 h2 hb.1 hm hfs hk hb.2
       ·cases h
      ·cases h
     ·cases h
    ·cases h
   ·cases hg
  ·cases hg
 -- index
 ·rename_i t y i ho
  split at hg
  ·rename_i n e y' i' hu h1 h2
   simp only[Option.map_eq_some_iff] at hg
   obtain ⟨s,hs,rfl⟩:=hg
   simp only[a8] at h
   split at h
   ·rename_i kk k hk
    split at h
    ·rename_i hb
     split at h
     ·rename_i gs hgs
      split at h
      ·rename_i hev
       split at h
       ·rename_i v hv
        split at h
        ·rename_i hok
         simp only[Option.some.injEq] at h
         subst h
         exact adh ho hu hs h1 h2 hgs hk hb hev hv hok
        ·cases h
       ·cases h
      ·cases h
     ·cases h
    ·cases h
   ·cases h
  ·cases hg
 -- slice
 ·rename_i t y lo hi mx ho
  split at hg
  ·rename_i n e y' hu h1
   split at hg
   ·split at hg
    ·rename_i hinfo
     obtain ⟨ti,hti⟩:=Option.isSome_iff_exists.1 hinfo
     simp only[Option.some.injEq] at hg
     subst hg
     simp only[a8] at h
     split at h
     ·rename_i m p hp
      split at h
      ·rename_i gs hgs
       split at h
       ·rename_i hev
        simp only[Option.some.injEq] at h
        subst h
        exact adq ho hu hti h1 hp hgs hev.1 hev.2.1 hev.2.2
       ·cases h
      ·cases h
     ·rename_i gs hgs
      split at h
      ·rename_i hev
       simp only[Option.some.injEq] at h
       subst h
       exact adr ho hu hti h1 hgs hev.1 hev.2.1
      ·cases h
     ·cases h
    ·cases hg
   ·cases hg
  ·rename_i e y' hu h1
   split at hg
   ·rename_i lo' hi' mx' q1 q2 q3
    split at hg
    ·rename_i hc
     obtain ⟨ti,hti⟩:=Option.isSome_iff_exists.1 hc.2
     simp only[Option.some.injEq] at hg
     subst hg
     simp only[a8] at h
     split at h
     ·rename_i sz es hes
      split at h
      ·rename_i hsz
       subst hsz
       exact vX ho hu hti h1 q1 q2 q3 hc.1 (.inl hes) h
      ·cases h
     ·rename_i sz hes
      split at h
      ·rename_i hsz
       subst hsz
       exact vX ho hu hti h1 q1 q2 q3 hc.1 (.inr (.inl ⟨hes,rfl⟩)) h
      ·cases h
     ·rename_i sz hes
      split at h
      ·rename_i hsz
       subst hsz
       exact vX ho hu hti h1 q1 q2 q3 hc.1 (.inr (.inr ⟨hes,rfl⟩)) h
      ·cases h
     ·rename_i n p sz l0 k hv
      split at h
      ·rename_i fs hfs
       split at h
       ·rename_i hsz
        exact adp ho hu hti h1 q1 q2 q3 hc.1 hsz hv hfs h
       ·cases h
      ·cases h
     ·cases h
    ·cases hg
   ·cases hg
  ·cases hg
 -- build
 ·rename_i t parts ho
  split at hg
  ·rename_i zs ps hz hp
   split at hg
   ·rename_i fs hu
    split at hg
    ·rename_i hc
     simp only[Option.some.injEq] at hg
     subst hg
     simp only[a8,Option.map_eq_some_iff] at h
     obtain ⟨zs',h,rfl⟩:=h
     exact Ii ho hz hp (.inl ⟨fs,hu,hc.1,hc.2⟩) h
    ·cases hg
   ·rename_i n e hu
    split at hg
    ·rename_i hc
     simp only[Option.some.injEq] at hg
     subst hg
     simp only[a8,Option.map_eq_some_iff] at h
     obtain ⟨zs',h,rfl⟩:=h
     exact Ii ho hz hp (.inr ⟨n,e,hu,hc.1,hc.2.1,hc.2.2⟩) h
    ·cases hg
   ·cases hg
  ·cases hg
 -- buildSlice
 ·rename_i t len parts ho
  split at hg
  ·rename_i e hu
   split at hg
   ·rename_i ps hp
    split at hg
    ·rename_i h0
     obtain ⟨rfl,rfl,h0⟩:=h0
     obtain ⟨ti,hti⟩:=Option.isSome_iff_exists.1 h0
     simp only[Option.some.injEq] at hg
     subst hg
     simp only[a8,Option.some.injEq] at h
     subst h
     exact ac1 ho hu hti
    split at hg
    ·rename_i hc
     obtain ⟨c1,c2,c3,iz,kS⟩:=hc
     simp only[Option.some.injEq] at hg
     subst hg
     simp only[a8] at h
     split at h
     ·rename_i es hes
      split at h
      ·rename_i hev
       simp only[Option.some.injEq] at h
       subst h
       refine ac0 ho hu hp c1 c2 c3 iz kS hes (fun y hy =>?_) hev.2
       have:=List.all_eq_true.1 hev.1 y hy
       simpa using this
      ·cases h
     ·cases h
    ·cases hg
   ·cases hg
  ·cases hg
 -- extract
 ·rename_i y i ho
  simp only[Option.map_eq_some_iff] at hg
  obtain ⟨z,hz,rfl⟩:=hg
  simp only[a8] at h
  split at h
  ·rename_i fs hfs
   exact ac6 ho hz hfs h
  ·cases h
 -- makeFunc
 ·rename_i f first caps ho
  split at hg
  ·rename_i hfirst
   simp only[Option.map_eq_some_iff] at hg
   obtain ⟨ys,hys,rfl⟩:=hg
   simp only[a8] at h
   split at h
   ·rename_i hv
    simp only[Option.some.injEq] at h
    subst h
    have hf:first = #[]:=by simpa using hfirst
    rw[hf] at ho
    refine adk ho hys (fun y hy =>?_)
    have:=List.all_eq_true.1 hv (ae A y) (List.mem_map.2 ⟨y,hy,rfl⟩)
    exact this
   ·cases h
  ·cases hg
 -- alloc
 ·simp only[Option.map_eq_some_iff] at hg
  obtain ⟨z,_,rfl⟩:=hg
  simp[a8] at h
 -- box
 ·simp only[Option.map_eq_some_iff] at hg
  obtain ⟨z,_,rfl⟩:=hg
  simp[a8] at h
 -- store
 ·split at hg
  ·split at hg
   ·simp only[Option.some.injEq] at hg
    subst hg
    simp[a8] at h
   ·cases hg
  ·cases hg
 -- call
 ·split at hg
  ·simp only[Option.map_eq_some_iff] at hg
   obtain ⟨z,_,rfl⟩:=hg
   simp[a8] at h
  ·simp only[Option.map_eq_some_iff] at hg
   obtain ⟨z,_,rfl⟩:=hg
   simp[a8] at h
 ·split at hg
  ·simp only[Option.some.injEq] at hg
   subst hg
   simp[a8] at h
  ·cases hg
 -- len
 ·rename_i args tys ho
  split at hg
  ·rename_i y ty hargs htys
   have ho':o.op=.call { callee:=.builtin .len,args := #[y],argTypes := #[ty] } :=by
    rw[ho]
    have e1:args = #[y]:=by apply Array.ext';simpa using hargs
    have e2:tys = #[ty]:=by apply Array.ext';simpa using htys
    rw[e1,e2]
   split at hg
   ·rename_i e hu
    simp only[Option.map_eq_some_iff] at hg
    obtain ⟨y',hy,rfl⟩:=hg
    simp only[a8] at h
    split at h
    ·rename_i sz es hes
     simp only[Option.some.injEq] at h
     subst h
     refine oZ ho' hu (.inl ⟨e,rfl⟩) hy (fun a w D E hs v hv =>?_)
     rw[hes] at hv
     obtain ⟨ad,cap,e1,e2,e3,_⟩:=nk hv
     exact ⟨Nat.le_trans e2 e3,fun _=>⟨ad,cap,e1⟩,fun e=>by cases e⟩
    ·rename_i sz hes
     simp only[Option.some.injEq] at h
     subst h
     refine oZ (n:=0) ho' hu (.inl ⟨e,rfl⟩) hy (fun a w D E hs v hv =>?_)
     rw[hes] at hv
     obtain ⟨cs,q1,q2⟩:=hv
     simp only[af] at q2
     exact ⟨by simp[maxLen],fun _=>⟨none,0,by simpa[bB,I.isAgg,q2] using q1.symm⟩,fun e=>by cases e⟩
    ·rename_i sz hes
     simp only[Option.some.injEq] at h
     subst h
     refine oZ (n:=0) ho' hu (.inl ⟨e,rfl⟩) hy (fun a w D E hs v hv =>?_)
     rw[hes] at hv
     obtain ⟨cs,q1,q2⟩:=hv
     simp only[af] at q2
     obtain ⟨ad,q2⟩:=q2
     exact ⟨by simp[maxLen],fun _=>⟨ad,0,by simpa[bB,I.isAgg,q2] using q1.symm⟩,fun e=>by cases e⟩
    ·rename_i m l hm
     split at h
     ·rename_i T sz es hes
      split at h
      ·rename_i hl
       subst hl
       simp only[Option.some.injEq] at h
       subst h
       refine oZ ho' hu (.inl ⟨e,rfl⟩) hy (fun a w D E hs v hv =>?_)
       rw[hm] at hv
       rcases hs.own hes hv with ⟨rfl,_,rfl⟩ | ⟨b,cap,cs,pre,rest,_,rfl,_,_,_,_,_,k8,k9,_⟩
       ·exact ⟨by simp[maxLen],fun _=>⟨none,0,rfl⟩,fun e=>by cases e⟩
       ·exact ⟨Nat.le_trans k8 k9,fun _=>⟨_,_,rfl⟩,fun e=>by cases e⟩
      ·cases h
     ·cases h
    ·rename_i n p sz lo k hm
     simp only[Option.some.injEq] at h
     subst h
     refine oZ ho' hu (.inl ⟨e,rfl⟩) hy (fun a w D E hs v hv =>?_)
     rw[hm] at hv
     obtain ⟨cs,q1,q2⟩:=hv
     simp only[af] at q2
     obtain ⟨b,aJ,off,l,_,_,_,q2,q3,q4,_⟩:=q2
     exact ⟨by omega,fun _=>⟨_,_,by simpa[bB,I.isAgg,q2] using q1.symm⟩,fun e=>by cases e⟩
    ·cases h
   ·rename_i hu
    simp only[Option.map_eq_some_iff] at hg
    obtain ⟨y',hy,rfl⟩:=hg
    simp only[a8] at h
    split at h
    ·rename_i s hs'
     simp only[Option.some.injEq] at h
     subst h
     refine oZ ho' hu (.inr rfl) hy (fun a w D E hs v hv =>?_)
     rw[hs'] at hv
     obtain ⟨e1,e2⟩:=np hv
     exact ⟨e2,(fun e=>by obtain ⟨_,e⟩:=e;cases e),fun _=>⟨s,e1,rfl⟩⟩
    ·cases h
   ·cases hg
  ·cases hg
 -- append
 ·split at hg
  ·split at hg
   ·split at hg
    ·simp only[Option.map_eq_some_iff] at hg
     obtain ⟨z,_,rfl⟩:=hg
     simp[a8] at h
    ·split at hg
     ·simp only[Option.map_eq_some_iff] at hg
      obtain ⟨z,_,rfl⟩:=hg
      simp[a8] at h
     ·cases hg
   ·cases hg
  ·cases hg
 -- cap
 ·rename_i args tys ho
  split at hg
  ·rename_i y ty hargs htys
   have ho':o.op=.call { callee:=.builtin .cap,args := #[y],argTypes := #[ty] } :=by
    rw[ho]
    have e1:args = #[y]:=by apply Array.ext';simpa using hargs
    have e2:tys = #[ty]:=by apply Array.ext';simpa using htys
    rw[e1,e2]
   split at hg
   ·rename_i e hu
    simp only[Option.map_eq_some_iff] at hg
    obtain ⟨y',hy,rfl⟩:=hg
    simp only[a8] at h
    split at h
    ·rename_i sz hes
     simp only[Option.some.injEq] at h
     subst h
     refine vV ho' hu hy (fun a w D E hs v hv =>?_)
     rw[hes] at hv
     obtain ⟨cs,q1,q2⟩:=hv
     simp only[af] at q2
     exact ⟨by simp[maxLen],_,_,by simpa[bB,I.isAgg,q2] using q1.symm⟩
    ·rename_i sz hes
     simp only[Option.some.injEq] at h
     subst h
     refine vV ho' hu hy (fun a w D E hs v hv =>?_)
     rw[hes] at hv
     obtain ⟨cs,q1,q2⟩:=hv
     simp only[af] at q2
     obtain ⟨ad,q2⟩:=q2
     exact ⟨by simp[maxLen],_,_,by simpa[bB,I.isAgg,q2] using q1.symm⟩
    ·rename_i n p sz lo k hm
     split at h
     ·rename_i fs hfs
      simp only[Option.some.injEq] at h
      subst h
      refine vV ho' hu hy (fun a w D E hs v hv =>?_)
      rw[hm] at hv
      obtain ⟨_,b,cs,T,off,c1,c2,c3,_,_,_,_,_,_,_,_,_,_,_,q1,q2⟩:=hs.view hv hfs
      exact ⟨by omega,_,_,q2⟩
     ·cases h
    ·cases h
   ·cases hg
  ·cases hg
 -- clear
 ·split at hg
  ·split at hg
   ·simp only[Option.map_eq_some_iff] at hg
    obtain ⟨z,_,rfl⟩:=hg
    simp[a8] at h
   ·cases hg
  ·cases hg
 -- copy
 ·split at hg
  ·split at hg
   ·split at hg
    ·simp only[Option.some.injEq] at hg
     subst hg
     simp[a8] at h
    ·cases hg
   ·cases hg
  ·cases hg
 ·cases hg
theorem fH.append{α β:Type}{R:α→β→Prop} : ∀ {xs:List α} {ys:List β} {xs':List α} {ys':List β},fH R xs ys→fH R xs' ys'→fH R (xs++xs') (ys++ys')
 |_,_,_,_,.nil,h=>h
 |_,_,_,_,.cons h1 h2,h=>.cons h1 (h2.append h)
theorem xT{w:World}{D:aH}{E:aS} : ∀ {xs:List I} {vs:List Value},aD w D E xs vs→fH (aR w D E) xs vs
 | [],vs,h=>by simp only[aD] at h;subst h;exact .nil
 |x::xs,vs,h=>by
  simp only[aD] at h
  obtain ⟨v,rest,cs,rfl,h1,h2,h3⟩:=h
  exact .cons (mb h1 h2) (xT h3)
theorem Rj {P : Program} {f : FuncId} (h : gG P f = true) : ∃ fn, P.funcs[f]? = some fn ∧ ¬ fn.name = "runtime.NumGoroutine" ∧ ¬ fn.body = none := by
 unfold gG at h
 cases hf:P.funcs[f]? with
 |none=>simp[hf] at h
 |some fn =>
  simp only[hf,Option.any_some,Bool.and_eq_true,bne_iff_ne,ne_eq] at h
  refine ⟨fn,rfl,by simpa using h.1,?_⟩
  cases hb:fn.body <;>simp_all
theorem xP{P:Program}{w:World}{f:FuncId}{args:Array Value}(h:gG P f=true):(callFunc f args).run P w=.ok (.enter f args) w:=by
 obtain ⟨fn,h1,h2,h3⟩:=Rj h
 simp[callFunc,h1,h2,h3]
theorem aB.ahL{f:FuncId}{avs cargs:List I}{r:I}{vs:List Value}{a:Act}{w:World}{D:aH}{E:aS}(hs:aN c A a w D E)(h:aB c.P f cargs r)(hf:r.flat=true)(hc:bY true A avs=some cargs)(hv:fH (aR w D E) avs vs) :
  Calls c.P f vs.toArray w fun e w'=>∃ v D',e=.returned v∧aN c A a w' D' E∧aR w' D' E r v:=by
 have hw:gY true A D E (fun b _=>b<w.heap.size):=by
  refine ⟨fun b o hd=>hs.c9 b o hd,fun n T sz es b cap hn aq o _=>hs.fI aq rfl,fun _ n x b aJ hn aq o _=>hs.fI aq rfl,fun _ n ks vs b hn aq=>hs.fI aq rfl⟩
 have hrv:=l5 (E':=dz) hs (fun _ _ h=>h) hw avs cargs vs (my _ _ hv (qg hc)) hc
 refine (h.2 w _ vs (fun _ _ hd=>hd) hrv).mono fun e w' ⟨v,D',he,h1,h2,h3,h4⟩=>⟨v,D,he,?_,aR.flat hf h1⟩
 exact hs.grow h2 (fun _ _ hd=>hd) (fun _ _ hd _=>hd) (fun b o hd=>Nat.lt_of_lt_of_le (hs.c9 b o hd) h2.size)
theorem aB.ahN{f:FuncId}{avs cargs:List I}{r:I}{vs:List Value}{a:Act}{w:World}{D:aH}{E:aS}(hs:aN c A a w D E)(h:aB c.P f cargs r)(hc:bY false A avs=some cargs)(hv:fH (aR w D E) avs vs) :
  Calls c.P f vs.toArray w fun e w'=>∃ v D',e=.returned v∧aN c A a w' D' E∧aR w' D' E r v:=by
 obtain ⟨hs1,hw⟩:=hs.oo
 have hrv:=l5 (E':=dz) hs (fun _ _ h=>h) hw avs cargs vs (my _ _ hv (qg hc)) hc
 refine (h.2 w _ vs hs1.c9 hrv).mono fun e w' ⟨v,D',he,h1,h2,h3,h4⟩=>⟨v,fun b o=>oe A D E b o∨(w.heap.size≤b∧D' b o),he,?_,?_⟩
 ·refine hs1.grow h2 (fun _ _ hd=>.inl hd) ?_ ?_
  ·rintro b o (hd | ⟨hle,_⟩) hlt
   ·exact hd
   ·omega
  ·rintro b o (hd | ⟨_,hd⟩)
   ·exact Nat.lt_of_lt_of_le (hs1.c9 b o hd) h2.size
   ·exact h3 b o hd
 ·refine aR.bC (E:=dz) ⟨fun b o hd =>?_,fun _ _ _ _ h=>h,fun n b aJ hn=>by simp[dz] at hn,fun n aA l hn=>by simp[dz] at hn,fun n b hn=>by simp[dz] at hn,fun n b hn=>by simp[dz] at hn,fun _ _ _ _ h=>h⟩ h1
  rcases Nat.lt_or_ge b w.heap.size with hlt | hge
  ·exact .inl (h4 b o hd hlt)
  ·exact .inr ⟨hge,hd⟩
theorem IV(p:Nat→Bool)(os:List (Nat×ah))(n:Nat):aj (os.filter fun q=>p q.1) n=if p n then aj os n else none:=by
 induction os with
 |nil=>simp[aj]
 |cons q os ih =>
  obtain ⟨k,v⟩:=q
  simp only[List.filter_cons]
  by_cases hk:p k=true
  ·simp only[hk,if_true,aj,ih]
   by_cases hn:n=k
   ·subst hn;simp only[hk,if_true]
   ·simp only[if_neg hn]
  ·simp only[hk,Bool.false_eq_true,if_false,ih,aj]
   by_cases hn:n=k
   ·subst hn;simp[hk]
   ·simp only[if_neg hn]
theorem m3(ns:List Nat)(os:List (Nat×ah))(n:Nat):aj (c4 ns os) n=if ns.contains n then none else aj os n:=by
 rw[c4,IV (fun n => !ns.contains n)]
 cases ns.contains n <;>rfl
theorem nR(ns:List Nat)(os:List (Nat×ah))(n:Nat):aj (iG ns os) n=if ns.contains n then aj os n else none:=IV _ _ _
theorem xn{p:Nat→Bool} : ∀ {os:List (Nat×ah)},bd p os→∀ k x,aj os k=some x→x.only p=true
 | [],_,k,x,hx=>by simp[aj] at hx
 |(j,v)::r,h,k,x,hx=>by
  simp only[bd] at h
  simp only[aj] at hx
  split at hx
  ·simp only[Option.some.injEq] at hx;subst hx;exact h.1
  ·exact xn h.2 k x hx
theorem IW(ns:List Nat):∀ (ts:List (Nat×I)) (t:Nat),cj (gI ns ts) t=if (cj ts t).only (fun n => !ns.contains n) then cj ts t else .c8
 | [],t=>by simp[gI,cj,I.only]
 |(k,v)::r,t=>by
  simp only[gI,List.map_cons,cj]
  by_cases h:t=k
  ·simp only[if_pos h]
  ·simp only[if_neg h];exact IW ns r t
theorem aN.Cp{a:Act}{w:World}{D:aH}{E:aS}{ts:List (Nat×I)}{os0:List (Nat×ah)}(h:aN c (au ts os0) a w D E)(ns:List Nat)(ho:bd (fun n => !ns.contains n) (c4 ns os0)) :
  ∃ D' E',aN c (au (gI ns ts) (c4 ns os0)) a w D' E'∧gY true (au ts (iG ns os0)) D E D':=by
 have h1:=h.oo.1
 have hw1:=h.oo.2
 obtain ⟨D1,hD1⟩:∃ D1,D1=oe (au ts os0) D E:=⟨_,rfl⟩
 rw[←hD1] at h1 hw1
 obtain ⟨D2,hD2⟩:∃ D2:aH,D2=fun b o=>D1 b o∨(∃ n x aJ,ns.contains n=true∧aj os0 n=some (.box x)∧E n=some (.aw b aJ)∧o<x.size)∨∃ n ks vs,ns.contains n=true∧aj os0 n=some (.cu ks vs)∧E n=some (.cu b)∧o=0:=⟨_,rfl⟩
 obtain ⟨E2,hE2⟩:∃ E2:aS,E2=fun n=>if ns.contains n then none else E n:=⟨_,rfl⟩
 have e2:∀ n,(!ns.contains n)=true→E2 n=E n:=fun n hn=>by rw[hE2];simp at hn;simp[hn]
 have hl:dE w D1 E2 w D2 E2:=⟨fun b o hd=>by rw[hD2];exact .inl hd,fun _ _ _ _ h=>h,fun _ _ _ h=>h,fun _ aA l h=>⟨aA,l,h,Nat.le_refl _,fun _=>rfl⟩,fun _ _ h=>h,fun _ _ h=>h,fun _ _ _ _ h=>h⟩
 have po:∀ b o,D2 b o→D1 b o∨∃ n e q,ns.contains n=true∧E n=some e∧e.aA=some b∧c.e7 b∧w.heap[b]?=some q:=fun b o hd=>by
  rw[hD2] at hd
  rcases hd with hd | ⟨n,x,aJ,k1,k2,k3,k4⟩ | ⟨n,ks,vs,k1,k2,k3,_⟩
  ·exact .inl hd
  ·obtain ⟨b',cs,T,q1,q2,q3,_⟩:=h.box (n:=n) (x:=x) (by simpa[au] using k2)
   rw[k3] at q1
   simp only[Option.some.injEq,bO.aw.injEq] at q1
   obtain ⟨rfl,rfl⟩:=q1
   exact .inr ⟨n,_,_,k1,k3,rfl,q2,q3⟩
  ·obtain ⟨b',es,ck,q1,q2,q3,_⟩:=h.map (n:=n) (ks:=ks) (vs:=vs) (by simpa[au] using k2)
   rw[k3] at q1
   cases q1
   exact .inr ⟨n,_,_,k1,k3,rfl,q2,q3⟩
 refine ⟨D2,E2,⟨h1.sz,h1.eK,fun t =>?_,h1.dN,fun b o hd hm =>?_,fun b o hd =>?_,fun n =>?_,fun n m e e' b g1 g2 g3 g4 =>?_,fun n e hn =>?_,h1.eU,fun b o hd=>hl.cY b o (h1.cG b o hd),h1.eY,h1.fr⟩,?_⟩
 ·simp only[au,IW]
  have ht:=h1.eb t
  simp only[au] at ht
  split
  ·rename_i hp
   exact aR.bC hl (aR.dn e2 hp ht)
  ·simp[aR]
 ·rcases po b o hd with hd | ⟨n,e,q,_,_,_,k,_⟩
  ·exact h1.cY b o hd hm
  ·exact absurd k hm
 ·rcases po b o hd with hd | ⟨n,e,q,_,_,_,_,k⟩
  ·exact h1.c9 b o hd
  ·exact fK k
 ·simp only[au,m3]
  by_cases hn:ns.contains n=true
  ·simp only[hn,if_true,cZ];rw[hE2];simp only[hn,if_true]
  ·have hnb:(!ns.contains n)=true:=by simpa using hn
   simp only[hn,Bool.false_eq_true,if_false]
   have hob:=h1.bR n
   simp only[au] at hob
   cases hx:aj os0 n with
   |none=>rw[hx] at hob;simp only[cZ] at hob ⊢;rw[e2 n hnb];exact hob
   |some x =>
    have hon:=xn ho n x (by rw[m3,if_neg hn];exact hx)
    have nD:∀ e b,E n=some e→e.aA=some b→∀ o,D2 b o→D1 b o:=fun e b he hb o hd=>by
     rcases po b o hd with hd | ⟨m,e',q,k1,k3,k2,_⟩
     ·exact hd
     ·have:=h.cN n m e _ b he k3 hb k2
      subst this
      exact absurd k1 hn
    rw[hx] at hob
    cases x with
    |box x =>
     obtain ⟨b,cs,T,k1,k2,k3,k4,k5⟩:=hob
     exact ⟨b,cs,T,(e2 n hnb).trans k1,k2,k3,af.bC hl _ _ (af.dn e2 _ _ (by simpa[ah.only] using hon) k4),fun o hd=>k5 o (nD _ b k1 rfl o hd)⟩
    |bS T sz es =>
     obtain ⟨aA,k1,k2,k3⟩:=hob
     refine ⟨aA,(e2 n hnb).trans k1,k2,?_⟩
     cases aA with
     |none=>exact k3
     |some bc =>
      obtain ⟨b,cap⟩:=bc
      obtain ⟨cs,pre,rest,q1,q2,q3,q4,q5,q6,q7,q8⟩:=k3
      exact ⟨cs,pre,rest,q1,q2,q3,aF.bC hl _ _ (aF.dn e2 _ _ (by simpa[ah.only] using hon) q4),q5,q6,q7,fun o hd=>q8 o (nD _ b k1 rfl o hd)⟩
    |cO T xs =>
     obtain ⟨aA,k1,k2,k3⟩:=hob
     refine ⟨aA,(e2 n hnb).trans k1,k2,?_⟩
     cases aA with
     |none=>exact k3
     |some bc =>
      obtain ⟨b,cap⟩:=bc
      obtain ⟨cs,r,q1,q2,q3,q4,q5,q6,q7⟩:=k3
      exact ⟨cs,r,q1,q2,q3,q4,q5,q6,fun o hd=>q7 o (nD _ b k1 rfl o hd)⟩
    |dB x =>
     obtain ⟨b,k1,k2,k3,k4,k5⟩:=hob
     exact ⟨b,(e2 n hnb).trans k1,k2,k3,k4,fun o hd=>k5 o (nD _ b k1 rfl o hd)⟩
    |cu ks vs =>
     obtain ⟨b,es,ck,k1,k2,k3,k4,k5,k6,k7⟩:=hob
     simp only[ah.only,Bool.and_eq_true] at hon
     exact ⟨b,es,ck,(e2 n hnb).trans k1,k2,k3,k4,aD.bC hl _ _ (aD.dn e2 _ _ hon.1 k5),aD.bC hl _ _ (aD.dn e2 _ _ hon.2 k6),fun o hd=>k7 o (nD _ b k1 rfl o hd)⟩
    |it ks vs left cur =>
     obtain ⟨r,b,es,ck,si,se,la,k1,k2,k3,k4,k5,k6,k7,k8,k9,k9',k10⟩:=hob
     simp only[ah.only,Bool.and_eq_true] at hon
     exact ⟨r,b,es,ck,si,se,la,(e2 n hnb).trans k1,k2,k3,k4.bC hl,aD.bC hl _ _ (aD.dn e2 _ _ hon.1 k5),aD.bC hl _ _ (aD.dn e2 _ _ hon.2 k6),k7,k8,k9,k9',fun o hd=>k10 o (nD _ r k1 rfl o hd)⟩
 ·have cut:∀ n e,E2 n=some e→E n=some e:=fun n e he=>by
   rw[hE2] at he
   simp only at he
   split at he
   ·cases he
   ·exact he
  exact h.cN n m e e' b (cut n e g1) (cut m e' g2) g3 g4
 ·by_cases hm:ns.contains n=true
  ·left;rw[hE2];simp only[hm,if_true]
  ·rw[e2 n (by simpa using hm)];exact h.dP n e hn
 ·refine ⟨fun b o hd=>by rw[hD2];exact .inl (hw1.cY b o hd),fun n T sz es b cap hn aq o hlt =>?_,fun _ n x b aJ hn aq o hlt =>?_,fun _ n ks vs b hn aq =>?_⟩
  ·simp only[au,nR] at hn
   split at hn
   ·rw[hD2];exact .inl (hw1.bS n T sz es b cap hn aq o hlt)
   ·cases hn
  ·simp only[au,nR] at hn
   split at hn
   ·rename_i hk
    rw[hD2];exact .inr (.inl ⟨n,x,aJ,hk,hn,aq,hlt⟩)
   ·cases hn
  ·simp only[au,nR] at hn
   split at hn
   ·rename_i hk
    rw[hD2];exact .inr (.inr ⟨n,ks,vs,hk,hn,aq,rfl⟩)
   ·cases hn
theorem aB.ahM{f:FuncId}{avs cargs:List I}{r:I}{vs:List Value}{a:Act}{w:World}{D:aH}{E:aS}{ts:List (Nat×I)}{os0:List (Nat×ah)}(hs:aN c (au ts os0) a w D E)(ns:List Nat)(ho:bd (fun n => !ns.contains n) (c4 ns os0))
  (h:aB c.P f cargs r) (hc:bY true (au ts (iG ns os0)) avs=some cargs) (hv:fH (aR w D E) avs vs) :
  Calls c.P f vs.toArray w fun e w'=>∃ v D' E',e=.returned v∧aN c (au (gI ns ts) (c4 ns os0)) a w' D' E'∧aR w' D' E' r v:=by
 obtain ⟨D1,E1,hs1,hw⟩:=hs.Cp ns ho
 have hu:ec (au ts (iG ns os0)) (au ts os0):=fun n x hx=>by
  simp only[au,nR] at hx ⊢
  split at hx
  ·exact hx
  ·cases hx
 have hrv:=l5 (E':=dz) hs hu hw avs cargs vs (my _ _ hv (qg hc)) hc
 refine (h.2 w _ vs hs1.c9 hrv).mono fun e w' ⟨v,D',he,h1,h2,h3,h4⟩=>⟨v,fun b o=>D1 b o∨(w.heap.size≤b∧D' b o),E1,he,?_,?_⟩
 ·refine hs1.grow h2 (fun _ _ hd=>.inl hd) ?_ ?_
  ·rintro b o (hd | ⟨hle,_⟩) hlt
   ·exact hd
   ·omega
  ·rintro b o (hd | ⟨_,hd⟩)
   ·exact Nat.lt_of_lt_of_le (hs1.c9 b o hd) h2.size
   ·exact h3 b o hd
 ·refine aR.bC (E:=dz) ⟨fun b o hd =>?_,fun _ _ _ _ h=>h,fun n b aJ hn=>by simp[dz] at hn,fun n aA l hn=>by simp[dz] at hn,fun n b hn=>by simp[dz] at hn,fun n b hn=>by simp[dz] at hn,fun _ _ _ _ h=>h⟩ h1
  rcases Nat.lt_or_ge b w.heap.size with hlt | hge
  ·exact .inl (h4 b o hd hlt)
  ·exact .inr ⟨hge,hd⟩
theorem uf{a:Act}{w:World}{D D1:aH}{E:aS}{ts:List (Nat×I)}{os0 os:List (Nat×ah)}{ρ:List (Nat×Nat)}{aw:Bool}{A0:ab}(hs:aN c (au ts os0) a w D E)(hu:ec A0 (au ts os0))(hD:∀ b o,D b o→D1 b o)(hw:gY aw A0 D E D1) :
  ∀ (avs cargs:List I) (vs:List Value),iX aw A0 ρ os avs cargs→fH (aR w D E) avs vs→aD w D1 (aq ρ os E) cargs vs
 | [],[],vs,_,hv=>by cases hv;simp[aD]
 | [],_::_,_,h,_=>by simp[iX] at h
 |_::_,[],_,h,_=>by simp[iX] at h
 |x::xs,y::ys,vs,h,hv=>by
  cases hv with
  |cons hv hvs =>
  rename_i v vs
  simp only[iX] at h
  have ih:=uf hs hu hD hw xs ys vs h.2 hvs
  have hl:dE w D (aq ρ os E) w D1 (aq ρ os E):=⟨hD,fun _ _ _ _ h=>h,fun _ _ _ h=>h,fun _ aA l h=>⟨aA,l,h,Nat.le_refl _,fun _=>rfl⟩,fun _ _ h=>h,fun _ _ h=>h,fun _ _ _ _ h=>h⟩
  have h1:∃ cs,bB y v cs∧af w D1 (aq ρ os E) y cs:=by
   rcases h.1 with ⟨k1,k2,k3⟩ | k
   ·rw[k1] at hv
    have h2:=aR.bC hl ((aR.aK (w:=w) (D:=D) (p:=al os) (ρ:=bA ρ) (E:=aq ρ os E) (E':=E) (fun n hn=>by simp only[aq,hn,if_true]) k2).1 hv)
    cases y <;>simp only[aR] at h2 <;>first | (simp[I.b9] at k3;done) | exact h2
   ·have h2:aD w D E [x] [v]:=my [x] [v] (.cons hv .nil) (by
     intro z hz
     simp only[List.mem_singleton] at hz
     subst hz
     cases z <;>simp_all[a6,I.b9])
    have h3:=l5 (E':=aq ρ os E) hs hu hw [x] [y] [v] h2 (by simp[bY,k])
    simp only[aD] at h3
    obtain ⟨v',rest,cs,e,k1,k2,_⟩:=h3
    simp only[List.cons.injEq] at e
    obtain ⟨rfl,_⟩:=e
    exact ⟨cs,k1,k2⟩
  obtain ⟨cs,k1,k2⟩:=h1
  simp only[aD]
  exact ⟨v,vs,cs,rfl,k1,k2,ih⟩
theorem ec.drop(ts:List (Nat×I))(ns:List Nat)(os0:List (Nat×ah)):ec (au ts (c4 ns os0)) (au ts os0):=fun n x hx=>by
 simp only[au,m3] at hx ⊢
 split at hx
 ·cases hx
 ·exact hx
theorem pS.use{run:Array Value→World→(Ending→World→Prop)→Prop}{since:World→aH→aS→Prop}{avs cargs:List I}{post:cS}{vs:List Value}{a:Act}{w:World}{D:aH}{E:aS}{ts:List (Nat×I)}{os0 os:List (Nat×ah)}{ρ:List (Nat×Nat)}
  (hs:aN c (au ts os0) a w D E) (h:pS run since cargs os post) (aw:Bool) (hmono:∀ {vs w R R'},run vs w R→(∀ e w,R e w→R' e w)→run vs w R') (hsince:(aw=true→∀ D E,since w D E)∧(aw=false→since w (oe (au ts os0) D E) (aq ρ os E)))
  (hg:fT ρ os os0) (ha:iX aw (au ts (c4 (jD ρ os) os0)) ρ os avs cargs) (hb:∀ r os',post r os'→er aw ρ os os0 r os') (hv:fH (aR w D E) avs vs) :
  run vs.toArray w fun e w'=>∃ v r os' D2 E2,e=.returned v∧post r os'∧aN c (au ts (dI ρ os'++os0)) a w' D2 E2∧aR w' D2 E2 (r.aK (bA ρ)) v∧∀ m e,aq ρ os E m=some e→al os' m=true→∃ e',E2 (bA ρ m)=some e'∧e.le e':=by
 have notName:∀ n,(jD ρ os).contains n=false→∀ m,al os m=true→bA ρ m≠n:=fun n hn m hm he=>by
  obtain ⟨q,hq,rfl⟩:=wq.1 hm
  have:(jD ρ os).contains n=true:=by simp only[jD,List.contains_iff_mem,List.mem_map];exact ⟨q,hq,he⟩
  rw[this] at hn;cases hn
 have other:∀ {D:aH},aN c (au ts os0) a w D E→∀ n e b x,aj (c4 (jD ρ os) os0) n=some x→E n=some e→e.aA=some b→¬ di (aq ρ os E) b:=fun hs n e b x hx he hb ho=>by
  obtain ⟨m,e',h1,h2,hb',_⟩:=hs.sg hg ho
  rw[m3] at hx
  split at hx
  ·cases hx
  ·rename_i hc
   have:=hs.cN n (bA ρ m) e _ b he h2 hb hb'
   exact notName n (by simpa using hc) m h1 this.symm
 cases aw with
 |true =>
  obtain ⟨D1,hD1⟩:∃ D1:aH,D1=fun b o=>D b o∨(b<w.heap.size∧¬ di (aq ρ os E) b):=⟨_,rfl⟩
  have hD:∀ b o,D b o→D1 b o:=fun b o hd=>by rw[hD1];exact .inl hd
  have hw:gY true (au ts (c4 (jD ρ os) os0)) D E D1:=by
   refine ⟨hD,fun n T sz es b cap hn aq o _ =>?_,fun _ n x b aJ hn aq o _ =>?_,fun _ n ks vs b hn aq =>?_⟩
   ·rw[hD1];exact .inr ⟨hs.fI aq rfl,other hs n _ b _ hn aq rfl⟩
   ·rw[hD1];exact .inr ⟨hs.fI aq rfl,other hs n _ b _ hn aq rfl⟩
   ·rw[hD1];exact .inr ⟨hs.fI aq rfl,other hs n _ b _ hn aq rfl⟩
  have hrv:=uf hs (ec.drop ts _ os0) hD hw avs cargs vs ha hv
  refine hmono (h w D1 (aq ρ os E) vs (hsince.1 rfl _ _) (fun b o hd=>by
   rw[hD1] at hd
   rcases hd with hd | hd
   ·exact hs.c9 b o hd
   ·exact hd.1) (hs.Iq hg hD fun b o hd ho=>by
    rw[hD1] at hd
    rcases hd with hd | hd
    ·exact hd
    ·exact absurd ho hd.2) hrv) ?_
  rintro e w' ⟨v,D',E',r,os',he,hp,h1,h2,h3,h4,h5,h6,h7,h8⟩
  obtain ⟨D2,E2,k1,k2⟩:=hs.oL hg hD (fun h=>by cases h) (hb r os' hp) h1 h2 h3 h5 h4 h8 h6 h7
  exact ⟨v,r,os',D2,E2,he,hp,k1,k2⟩
 |false =>
  obtain ⟨hs1,hw⟩:=hs.oo
  have hw':gY false (au ts (c4 (jD ρ os) os0)) D E (oe (au ts os0) D E):=⟨hw.cY,fun n T sz es b cap hn aq o hlt=>hw.bS n T sz es b cap (ec.drop ts _ os0 n _ hn) aq o hlt,(fun hb=>by cases hb),fun hb=>by cases hb⟩
  have hrv:=uf hs (ec.drop ts _ os0) hw.cY hw' avs cargs vs ha hv
  refine hmono (h w _ (aq ρ os E) vs (hsince.2 rfl) hs1.c9 (hs1.Iq hg (fun _ _ h=>h) fun b o hd _=>hd) hrv) ?_
  rintro e w' ⟨v,D',E',r,os',he,hp,h1,h2,h3,h4,h5,h6,h7,h8⟩
  obtain ⟨D2,E2,k1,k2⟩:=hs1.oL hg (fun _ _ h=>h) (fun _ _ _ h=>h) (hb r os' hp) h1 h2 h3 h5 h4 h8 h6 h7
  exact ⟨v,r,os',D2,E2,he,hp,k1,k2⟩
theorem aN.since{A:ab}{a:Act}{w:World}{D:aH}{E E':aS}(h:aN c A a w D E)(aq:∀ n,E' n=E n∨E' n=none):yS c w D E' :=
 ⟨h.dN,h.cG,h.cY,fun n e hn=>by
  rcases aq n with k | k
  ·rw[k];exact h.dP n e hn
  ·exact .inl k,h.fr⟩
theorem nI(c:cK)(f:FuncId):c.bn.fn f:=by unfold cK.bn;split <;>trivial
theorem BI(c:cK):c.bn.depth.isSome=true→1≤9:=fun _=>by omega
theorem lP{a:Act}{w:World} : ∀ f,o.about c.P w a.eval=some f→c.bn.fn f:=fun f _=>nI c f
theorem mA{g:bZ}(hg:du c.P o=some g)(r:Option Nat)(ρ:Operand→Value):o.semAt r ρ=execOp ρ o:=by
 cases r with
 |none=>rfl
 |some l =>
  refine Oper.semAt_some l ρ o fun cl h =>?_
  unfold du at hg
  rw[h] at hg
  simp at hg
theorem Rl{f:FuncId}{args:Array Value}{w:World}{R:Ending→World→Prop}(h:Calls c.P f args w R):CallsIn c.bn (9-1) c.P f args w R:=by
 have h1:CallsIn Fence.wide (9-1) c.P f args w R:=callsIn_wide.2 h
 unfold cK.bn
 split
 ·exact h1
 ·exact h1
theorem rC.mono{P:Program}{v:Value}{vs:Array Value}{w:World}{R R':Ending→World→Prop}(h:rC P v vs w R)(hr:∀ e w,R e w→R' e w):rC P v vs w R':=by
 obtain ⟨l,h1,fn,tmps,assign,body,h2,h3⟩:=h
 exact ⟨l,h1,fn,tmps,assign,body,h2,h3.mono hr⟩
theorem agW{l:Nat}{f:FuncId}{tmps:Array Value}{assign body:Code}{w:World}{R:Ending→World→Prop}(h:RoundIn Fence.wide 9 c.P l f tmps assign body w R):RoundIn c.bn (9-1) c.P l f tmps assign body w R:=by
 have h1:RoundIn Fence.wide (9-1) c.P l f tmps assign body w R:=⟨h.1,fun cc cs _=>h.2 cc cs (room_wide _)⟩
 unfold cK.bn
 split
 ·exact h1
 ·exact h1
theorem iw.wp{B:ab}{g:bZ}(hg:du c.P o=some g)(h:iw c A o B){a:Act}{w:World}{K:Act→World→Prop}{Q:Exit→Act→World→Prop}(hs:ct c A a w)(hK:∀ a w,ct c B a w→K a w):o.wpIn c.bn 9 c.P a w K Q:=by
 obtain ⟨D,E,hs⟩:=hs
 obtain ⟨w',h⟩:=h a w D E hs
 refine ⟨lP,?_⟩
 rw[mA hg]
 rcases h with ⟨v,h1,h2⟩ | ⟨h1,h2⟩
 ·rw[h1];exact hK _ _ h2
 ·rw[h1];exact hK _ _ h2
theorem Bj{dr:Bool}{K:ab→Prop}{f:FuncId}{avs:List I}{a1 a2:Option (List I)}{vs:List Value}{dst:Option Nat}{rest:List av}{a:Act}{w:World}{Kw:Act→World→Prop}{Q:Exit→Act→World→Prop}{g:bZ}(hg:du c.P o=some g)(h1:bY true A avs=a1)(h2:bY false A avs=a2)
  (hs:∀ D E,aN c A a w D E→fH (aR w D E) avs vs) (hsim:ct c A a w) (hwp:a7 c.P c.Y dr K (.call f avs a1 a2 dst rest A)) (hd:o.dst=dst) (hdn:∀ k,dst=some k→k<c.n)
  (hrun:gG c.P f=true→(execOp a.eval o).run c.P w=.ok (.enter f vs.toArray) w)
  (hK:∀ B a' w',a7 c.P c.Y dr K (az rest B)→ct c B a' w'→Kw a' w'):o.wpIn c.bn 9 c.P a w Kw Q:=by
 obtain ⟨D,E,hsw⟩:=hsim
 have oy:∀ {R:Ending→World→Prop},gG c.P f=true→Calls c.P f vs.toArray w R→(∀ e w',R e w'→∃ v,e=.returned v∧Kw (a.put o.dst v) w')→o.wpIn c.bn 9 c.P a w Kw Q:=fun {R} hc hcl hR=>by
  refine ⟨lP,?_⟩
  rw[mA hg,hrun hc,Oper.uponIn_enter]
  refine ⟨BI c,Rl (hcl.mono fun e w' he =>?_)⟩
  obtain ⟨v,rfl,hv⟩:=hR e w' he
  exact hv
 cases hwp with
 |flat r hspec hflat hrest =>
  refine oy hspec.1 (hspec.ahL hsw hflat h1 (hs D E hsw)) ?_
  rintro e w' ⟨v,D',he,hs',hv⟩
  refine ⟨v,he,?_⟩
  rw[hd]
  exact hK _ _ _ hrest ⟨D',E,hs'.aI hdn hv⟩
 |lead r hspec hrest =>
  refine oy hspec.1 (hspec.ahN hsw h2 (hs D E hsw)) ?_
  rintro e w' ⟨v,D',he,hs',hv⟩
  refine ⟨v,he,?_⟩
  rw[hd]
  exact hK _ _ _ hrest ⟨D',E,hs'.aI hdn hv⟩
 |ib ns r hdr hspec hf ho hrest =>
  refine oy hspec.1 (hspec.ahM hsw ns ho hf (hs D E hsw)) ?_
  rintro e w' ⟨v,D',E',he,hs',hv⟩
  refine ⟨v,he,?_⟩
  rw[hd]
  exact hK _ _ _ hrest ⟨D',E',hs'.aI hdn hv⟩
 |bR aw ρ os cargs post hdr hspec hgv ha hb hrest =>
  refine oy hspec.1 (hspec.2.use hsw aw (fun h=>h.mono) ⟨fun _ _ _=>trivial,fun _=>trivial⟩ hgv ha hb (hs D E hsw)) ?_
  rintro e w' ⟨v,r,os',D2,E2,he,hp,hs',hv,_⟩
  refine ⟨v,he,?_⟩
  rw[hd]
  exact hK _ _ _ (hrest r os' hp) ⟨D2,E2,hs'.aI hdn hv⟩
theorem Rk{dr:Bool}{K:ab→Prop}{v:Value}{avs:List I}{vs:List Value}{dst:Option Nat}{rest:List av}{a:Act}{w:World}{Kw:Act→World→Prop}{Q:Exit→Act→World→Prop}{g:bZ}(hg:du c.P o=some g)
  (hs:∀ D E,aN c A a w D E→fH (aR w D E) avs vs) (hsim:ct c A a w) (hwp:a7 c.P c.Y dr K (.oO v avs dst rest A)) (hd:o.dst=dst) (hdn:∀ k,dst=some k→k<c.n)
  (hrun:∀ l,v=.func (.yield l) #[] #[]→(execOp a.eval o).run c.P w=(Instr.yield l vs.toArray).run c.P w)
  (hK:∀ B a' w',a7 c.P c.Y dr K (az rest B)→ct c B a' w'→Kw a' w'):o.wpIn c.bn 9 c.P a w Kw Q:=by
 obtain ⟨D,E,hsw⟩:=hsim
 cases hwp with
 |yj os cargs post hdr hY hgv ha hb hrest =>
  have hyr:=(hsw.eY _ _ _ _ hY).use (ρ:=[]) hsw false (fun h=>h.mono) ⟨(fun h=>by cases h),fun _=>hsw.oo.1.since (fun n=>by simp only[aq,bA];split <;>simp)⟩ hgv ha hb (hs D E hsw)
  obtain ⟨l,rfl,fn,tmps,assign,body,h2,h3⟩:=hyr
  refine ⟨lP,?_⟩
  rw[mA hg,hrun l rfl,h2,Oper.uponIn_round]
  refine ⟨BI c,agW (h3.mono fun e w' he =>?_)⟩
  obtain ⟨v,r,os',D2,E2,rfl,hp,hs',hv,_⟩:=he
  rw[hd]
  exact hK _ _ _ (hrest r os' hp) ⟨D2,E2,hs'.aI hdn hv⟩
end
section
variable {c:cK} {A:ab} {o:Oper}
theorem uo{P:Program}{n:Nat}{bQ:Array Oper}{g:av}(h:oN P n bQ o=some g):du P o=some g.op∧g.dst=o.dst∧(∀ k,o.dst=some k→k<n) ∧
  ((o.guard=none∧g.guard=none)∨∃ j b t,o.guard=some (j,b)∧(bQ[j]?).bind (·.dst)=some t∧g.guard=some (t,b)):=by
 unfold oN at h
 split at h
 ·cases h
 rename_i g' hg'
 split at h
 case isFalse=>cases h
 rename_i hd
 have hdst:∀ k,o.dst=some k→k<n:=by
  intro k hk
  rw[hk] at hd
  simpa[BL] using hd
 split at h
 ·rename_i hgd
  simp only[Option.some.injEq] at h
  subst h
  exact ⟨hg',rfl,hdst,.inl ⟨hgd,rfl⟩⟩
 ·rename_i j b hgd
  split at h
  ·rename_i t ht
   simp only[Option.some.injEq] at h
   subst h
   exact ⟨hg',rfl,hdst,.inr ⟨j,b,t,hgd,ht,rfl⟩⟩
  ·cases h
theorem Ie{dr:Bool}{K:ab→Prop}{op:bZ}{dst:Option Nat}{rest:List av}{a:Act}{w:World}{Kw:Act→World→Prop}{Q:Exit→Act→World→Prop}(hop:du c.P o=some op)(hd:o.dst=dst)(hdn:∀ k,dst=some k→k<c.n)
  (hsim:ct c A a w) (hK:∀ B a' w',a7 c.P c.Y dr K (az rest B)→ct c B a' w'→Kw a' w') (h:a7 c.P c.Y dr K (cJ (a8 A op) fun v=>az rest (A.aI dst v))):o.wpIn c.bn 9 c.P a w Kw Q:=by
 cases hv:a8 A op with
 |some v =>
  rw[hv] at h
  exact ((agu hop hv).does (by rw[hd];exact hdn)).wp hop hsim (fun a' w' hs=>by rw[hd] at hs;exact hK _ a' w' h hs)
 |none=>rw[hv] at h;cases h
theorem acC{dr:Bool}{K:ab→Prop}{dst:Option Nat}{rest:List av}{a:Act}{w:World}{Kw:Act→World→Prop}{Q:Exit→Act→World→Prop}{z:I}(hop:du c.P o=some (.alloc z))(hd:o.dst=dst)(hdn:∀ k,dst=some k→k<c.n)
  (hwp:a7 c.P c.Y dr K (aY A dst (.alloc z) rest (az rest))) (hsim:ct c A a w) (hK:∀ B a' w',a7 c.P c.Y dr K (az rest B)→ct c B a' w'→Kw a' w'):o.wpIn c.bn 9 c.P a w Kw Q:=by
 have hop0:=hop
 simp only[aY] at hwp
 split at hwp
 case h_2=>cases hwp
 rename_i d
 split at hwp
 case h_2=>cases hwp
 rename_i hf
 unfold du at hop
 split at hop <;>try (first | (simp at hop;done) | ((repeat' split at hop) <;>simp at hop;done))
 rename_i t ho
 simp only[Option.map_eq_some_iff,bZ.alloc.injEq] at hop
 obtain ⟨z',hz,rfl⟩:=hop
 exact (VV ho hz hd (hdn d rfl) hf).wp hop0 hsim (fun a' w' hs=>hK _ a' w' hwp hs)
theorem acF{dr:Bool}{K:ab→Prop}{dst:Option Nat}{rest:List av}{a:Act}{w:World}{Kw:Act→World→Prop}{Q:Exit→Act→World→Prop}{x:aG}(hop:du c.P o=some (.box x))(hd:o.dst=dst)(hdn:∀ k,dst=some k→k<c.n)
  (hwp:a7 c.P c.Y dr K (aY A dst (.box x) rest (az rest))) (hsim:ct c A a w) (hK:∀ B a' w',a7 c.P c.Y dr K (az rest B)→ct c B a' w'→Kw a' w'):o.wpIn c.bn 9 c.P a w Kw Q:=by
 have hop0:=hop
 simp only[aY] at hwp
 split at hwp
 case h_2=>cases hwp
 rename_i d
 split at hwp
 case h_2=>cases hwp
 rename_i hf
 split at hwp
 case isFalse=>cases hwp
 rename_i hv
 unfold du at hop
 split at hop <;>try (first | (simp at hop;done) | ((repeat' split at hop) <;>simp at hop;done))
 rename_i t y ho
 simp only[Option.map_eq_some_iff,bZ.box.injEq] at hop
 obtain ⟨z',hz,rfl⟩:=hop
 exact (V0 ho hz hv hd (hdn d rfl) hf).wp hop0 hsim (fun a' w' hs=>hK _ a' w' hwp hs)
theorem acQ{dr:Bool}{K:ab→Prop}{dst:Option Nat}{rest:List av}{a:Act}{w:World}{Kw:Act→World→Prop}{Q:Exit→Act→World→Prop}{s:Option Nat}{x v:aG}(hop:du c.P o=some (.br s x v))(hd:o.dst=dst)(hdn:∀ k,dst=some k→k<c.n)
  (hwp:a7 c.P c.Y dr K (aY A dst (.br s x v) rest (az rest))) (hsim:ct c A a w) (hK:∀ B a' w',a7 c.P c.Y dr K (az rest B)→ct c B a' w'→Kw a' w'):o.wpIn c.bn 9 c.P a w Kw Q:=by
 have hop0:=hop
 simp only[aY] at hwp
 split at hwp
 case h_2=>cases hwp
 split at hwp
 case h_2=>cases hwp
 rename_i n p hp
 split at hwp
 case h_2=>cases hwp
 rename_i b hb
 split at hwp
 case h_2=>cases hwp
 rename_i old hat
 split at hwp
 case isFalse=>cases hwp
 rename_i hok
 unfold du at hop
 split at hop <;>try (first | (simp at hop;done) | ((repeat' split at hop) <;>simp at hop;done))
 rename_i t y z ho
 split at hop
 case h_2=>cases hop
 rename_i s' x' v' h1 h2 h3
 split at hop
 case isFalse=>cases hop
 rename_i hk
 simp only[Option.some.injEq,bZ.br.injEq] at hop
 obtain ⟨rfl,rfl,rfl⟩:=hop
 exact (V6 ho h1 hk h2 h3 hp hb hat hok.1 hok.2.1 hok.2.2 hd).wp hop0 hsim (fun a' w' hs=>hK _ a' w' hwp hs)
theorem acG{dr:Bool}{K:ab→Prop}{dst:Option Nat}{rest:List av}{a:Act}{w:World}{Kw:Act→World→Prop}{Q:Exit→Act→World→Prop}{f:FuncId}{args:List aG}(hop:du c.P o=some (.call f args))(hd:o.dst=dst)(hdn:∀ k,dst=some k→k<c.n)
  (hwp:a7 c.P c.Y dr K (aY A dst (.call f args) rest (az rest))) (hsim:ct c A a w) (hK:∀ B a' w',a7 c.P c.Y dr K (az rest B)→ct c B a' w'→Kw a' w'):o.wpIn c.bn 9 c.P a w Kw Q:=by
 have hop0:=hop
 simp only[aY] at hwp
 unfold du at hop
 split at hop <;>try (first | (simp at hop;done) | ((repeat' split at hop) <;>simp at hop;done))
 rename_i f' xs ts ho
 split at hop
 case isFalse=>simp at hop
 simp only[Option.map_eq_some_iff,bZ.call.injEq] at hop
 obtain ⟨ys,hys,rfl,rfl⟩:=hop
 refine Bj (vs:=xs.toList.map a.eval) hop0 rfl rfl (fun D E hs=>oJ hs xs.toList ts.toList ys hys) hsim hwp hd hdn (fun hc =>?_) hK
 have e:xs.map a.eval=(xs.toList.map a.eval).toArray:=by apply Array.ext';simp
 simp only[execOp,ho,resolve,Act.eval,Deferred.ofValue,Sem.run_bind,Sem.run_pure,Result.andThen_ok,invoke,Array.append_empty,Array.empty_append,xP hc]
 rw[←e]
theorem acR{dr:Bool}{K:ab→Prop}{dst:Option Nat}{rest:List av}{a:Act}{w:World}{Kw:Act→World→Prop}{Q:Exit→Act→World→Prop}{f:FuncId}{args:List aG}(hop:du c.P o=some (.kc f args))(hd:o.dst=dst)(hdn:∀ k,dst=some k→k<c.n)
  (hwp:a7 c.P c.Y dr K (aY A dst (.kc f args) rest (az rest))) (hsim:ct c A a w) (hK:∀ B a' w',a7 c.P c.Y dr K (az rest B)→ct c B a' w'→Kw a' w'):o.wpIn c.bn 9 c.P a w Kw Q:=by
 have hop0:=hop
 simp only[aY] at hwp
 unfold du at hop
 split at hop <;>try (first | (simp at hop;done) | ((repeat' split at hop) <;>simp at hop;done))
 rename_i f' xs ts ho
 split at hop
 case isTrue=>simp at hop
 simp only[Option.map_eq_some_iff,bZ.kc.injEq] at hop
 obtain ⟨ys,hys,rfl,rfl⟩:=hop
 obtain ⟨D,E,hs⟩:=hsim
 cases hwp with
 |ext r hdr hx hw =>
  obtain ⟨v,g1,g2⟩:=hx c a w D E (xs.toList.map a.eval) rfl hs (oJ hs xs.toList ts.toList ys hys)
  have e:xs.map a.eval=(xs.toList.map a.eval).toArray:=by apply Array.ext';simp
  have hrun:(execOp a.eval o).run c.P w=.ok (.value v) w:=by
   simp only[execOp,ho,resolve,Act.eval,Deferred.ofValue,Sem.run_bind,Sem.run_pure,Result.andThen_ok,invoke,Array.append_empty,Array.empty_append]
   rw[←e] at g1
   exact g1
  refine ⟨lP,?_⟩
  rw[mA hop0,hrun,Oper.uponIn_value]
  exact hK _ _ _ hw ⟨D,E,by rw[hd];exact hs.aI hdn g2⟩
theorem acK{dr:Bool}{K:ab→Prop}{dst:Option Nat}{rest:List av}{a:Act}{w:World}{Kw:Act→World→Prop}{Q:Exit→Act→World→Prop} (hop:du c.P o=some (.jB))(hd:o.dst=dst)(hdn:∀ k,dst=some k→k<c.n)
  (hwp:a7 c.P c.Y dr K (aY A dst (.jB) rest (az rest))) (hsim:ct c A a w) (hK:∀ B a' w',a7 c.P c.Y dr K (az rest B)→ct c B a' w'→Kw a' w'):o.wpIn c.bn 9 c.P a w Kw Q:=by
 have hop0:=hop
 simp only[aY] at hwp
 split at hwp
 case h_2=>cases hwp
 rename_i d
 split at hwp
 case h_2=>cases hwp
 rename_i hf
 unfold du at hop
 split at hop <;>try (first | (simp at hop;done) | ((repeat' split at hop) <;>simp at hop;done))
 rename_i t ho
 exact (V3 ho hd (hdn d rfl) hf).wp hop0 hsim (fun a' w' hs=>hK _ a' w' hwp hs)
theorem acL{dr:Bool}{K:ab→Prop}{dst:Option Nat}{rest:List av}{a:Act}{w:World}{Kw:Act→World→Prop}{Q:Exit→Act→World→Prop}{e:TypeId}{bytes:Nat}{z:I}{n:aG}(hop:du c.P o=some (.jY e bytes z n))(hd:o.dst=dst)(hdn:∀ k,dst=some k→k<c.n)
  (hwp:a7 c.P c.Y dr K (aY A dst (.jY e bytes z n) rest (az rest))) (hsim:ct c A a w) (hK:∀ B a' w',a7 c.P c.Y dr K (az rest B)→ct c B a' w'→Kw a' w'):o.wpIn c.bn 9 c.P a w Kw Q:=by
 have hop0:=hop
 simp only[aY] at hwp
 split at hwp
 case h_2=>cases hwp
 rename_i d
 split at hwp
 case h_2=>cases hwp
 rename_i hf
 split at hwp
 case h_2=>cases hwp
 rename_i k m hn
 split at hwp
 case isFalse=>cases hwp
 rename_i hc
 unfold du at hop
 split at hop <;>try (first | (simp at hop;done) | ((repeat' split at hop) <;>simp at hop;done))
 rename_i t l l' ho
 split at hop
 case h_2=>cases hop
 rename_i e' n' hu hl
 split at hop
 case h_2=>cases hop
 rename_i z' hz
 split at hop
 case isFalse=>cases hop
 rename_i hc2
 simp only[Option.some.injEq,bZ.jY.injEq] at hop
 obtain ⟨rfl,rfl,rfl,rfl⟩:=hop
 obtain ⟨j,rfl⟩:=Int.eq_ofNat_of_zero_le hc.1
 simp only[Int.toNat_natCast] at hc hwp
 exact (V4 ho (ag1 hc2.1) hu hl hn hz hc2.2.1 hc2.2.2 hc.2.1 hc.2.2 hd (hdn d rfl) hf).wp hop0 hsim (fun a' w' hs=>hK _ a' w' hwp hs)
theorem acM{dr:Bool}{K:ab→Prop}{dst:Option Nat}{rest:List av}{a:Act}{w:World}{Kw:Act→World→Prop}{Q:Exit→Act→World→Prop}{ty:cH}{m k v:aG}(hop:du c.P o=some (.gp ty m k v))(hd:o.dst=dst)(hdn:∀ k,dst=some k→k<c.n)
  (hwp:a7 c.P c.Y dr K (aY A dst (.gp ty m k v) rest (az rest))) (hsim:ct c A a w) (hK:∀ B a' w',a7 c.P c.Y dr K (az rest B)→ct c B a' w'→Kw a' w'):o.wpIn c.bn 9 c.P a w Kw Q:=by
 have hop0:=hop
 simp only[aY] at hwp
 split at hwp
 case h_2=>cases hwp
 split at hwp
 case h_2=>cases hwp
 rename_i n hm
 split at hwp
 case h_2=>cases hwp
 rename_i ks vs hn
 split at hwp
 case h_2=>cases hwp
 rename_i ks' vs' hl
 unfold du at hop
 split at hop <;>try (first | (simp at hop;done) | ((repeat' split at hop) <;>simp at hop;done))
 all_goals
  rename_i t mo ko vo ho
  split at hop
  case h_2=>cases hop
  rename_i kt et m' k' hu h1 h2
  split at hop
  case h_2=>cases hop
  rename_i ty' v' hk h3
  simp only[Option.some.injEq,bZ.gp.injEq] at hop
  obtain ⟨rfl,rfl,rfl,rfl⟩:=hop
 ·exact (BK (.inl ho) hu hk h1 h2 h3 hm hn hl hd).wp hop0 hsim (fun a' w' hs=>hK _ a' w' hwp hs)
 ·exact (BK (.inr ho) hu hk h1 h2 h3 hm hn hl hd).wp hop0 hsim (fun a' w' hs=>hK _ a' w' hwp hs)
theorem acP{dr:Bool}{K:ab→Prop}{dst:Option Nat}{rest:List av}{a:Act}{w:World}{Kw:Act→World→Prop}{Q:Exit→Act→World→Prop}{x:aG}(hop:du c.P o=some (.j7 x))(hd:o.dst=dst)(hdn:∀ k,dst=some k→k<c.n)
  (hwp:a7 c.P c.Y dr K (aY A dst (.j7 x) rest (az rest))) (hsim:ct c A a w) (hK:∀ B a' w',a7 c.P c.Y dr K (az rest B)→ct c B a' w'→Kw a' w'):o.wpIn c.bn 9 c.P a w Kw Q:=by
 have hop0:=hop
 simp only[aY] at hwp
 split at hwp
 case h_2=>cases hwp
 rename_i d
 split at hwp
 case h_2=>cases hwp
 rename_i hf
 split at hwp
 case h_2=>cases hwp
 rename_i ks vs hx
 unfold du at hop
 split at hop <;>try (first | (simp at hop;done) | ((repeat' split at hop) <;>simp at hop;done))
 rename_i t y ho
 split at hop
 case h_2=>cases hop
 rename_i kt et hu
 simp only[Option.map_eq_some_iff,bZ.j7.injEq] at hop
 obtain ⟨z,hz,rfl⟩:=hop
 exact (V5 ho hu hz hx hd (hdn d rfl) hf).wp hop0 hsim (fun a' w' hs=>hK _ a' w' hwp hs)
theorem acO{dr:Bool}{K:ab→Prop}{dst:Option Nat}{rest:List av}{a:Act}{w:World}{Kw:Act→World→Prop}{Q:Exit→Act→World→Prop}{x:aG}(hop:du c.P o=some (.jg x))(hd:o.dst=dst)(hdn:∀ k,dst=some k→k<c.n)
  (hwp:a7 c.P c.Y dr K (aY A dst (.jg x) rest (az rest))) (hsim:ct c A a w) (hK:∀ B a' w',a7 c.P c.Y dr K (az rest B)→ct c B a' w'→Kw a' w'):o.wpIn c.bn 9 c.P a w Kw Q:=by
 have hop0:=hop
 simp only[aY] at hwp
 split at hwp
 case h_2=>cases hwp
 rename_i n hx
 split at hwp
 case h_2=>cases hwp
 rename_i ks vs left cur hn
 unfold du at hop
 split at hop <;>try (first | (simp at hop;done) | ((repeat' split at hop) <;>simp at hop;done))
 rename_i y ho
 simp only[Option.map_eq_some_iff,bZ.jg.injEq] at hop
 obtain ⟨z,hz,rfl⟩:=hop
 obtain ⟨D,E,hs⟩:=hsim
 obtain ⟨w',v,hrun,hor⟩:=aeK ho hz hx hn (by rw[hd];exact hdn) hs
 refine ⟨lP,?_⟩
 rw[mA hop0,hrun,Oper.uponIn_value]
 rw[hd] at hor
 split at hwp
 ·rename_i hl
  rcases hor with ⟨_,hor⟩ | ⟨i,k,x,hi,_⟩
  ·exact hK _ _ _ hwp (by rw[hd];exact hor)
  ·rw[hl] at hi;cases hi
 ·rename_i hl
  rcases hor with ⟨h,_⟩ | ⟨i,k,x,hi,hk,hx,hor⟩
  ·exact absurd h hl
  ·cases hwp with
   |any hdr hall =>
    have:=hall i hi
    simp only[hk,hx] at this
    exact hK _ _ _ this (by rw[hd];exact hor)
theorem acH{dr:Bool}{K:ab→Prop}{dst:Option Nat}{rest:List av}{a:Act}{w:World}{Kw:Act→World→Prop}{Q:Exit→Act→World→Prop}{x:aG}{args:List aG}(hop:du c.P o=some (.eG x args))(hd:o.dst=dst)(hdn:∀ k,dst=some k→k<c.n)
  (hwp:a7 c.P c.Y dr K (aY A dst (.eG x args) rest (az rest))) (hsim:ct c A a w) (hK:∀ B a' w',a7 c.P c.Y dr K (az rest B)→ct c B a' w'→Kw a' w'):o.wpIn c.bn 9 c.P a w Kw Q:=by
 have hop0:=hop
 simp only[aY] at hwp
 unfold du at hop
 split at hop <;>try (first | (simp at hop;done) | ((repeat' split at hop) <;>simp at hop;done))
 rename_i y xs ts _ ho
 split at hop
 case h_2=>cases hop
 rename_i y' ys h1 h2
 simp only[Option.some.injEq,bZ.eG.injEq] at hop
 obtain ⟨rfl,rfl⟩:=hop
 obtain ⟨D,E,hs⟩:=hsim
 have hv:=b8 hs h1
 split at hwp
 ·rename_i f caps hx
  rw[hx] at hv
  obtain ⟨cs,q1,q2⟩:=hv
  simp only[af] at q2
  obtain ⟨vs,q3,q4⟩:=q2
  have hval:a.eval y=.func (.func f) #[] vs.toArray:=by simpa[bB,I.isAgg,q3] using q1.symm
  refine Bj (vs:=xs.toList.map a.eval++vs) hop0 rfl rfl (fun D' E' hs'=>(oJ hs' xs.toList ts.toList ys h2).append ?_) ⟨D,E,hs⟩ hwp hd hdn (fun hc =>?_) hK
  ·have hv':=b8 hs' h1
   rw[hx] at hv'
   obtain ⟨cs',q1',q2'⟩:=hv'
   simp only[af] at q2'
   obtain ⟨vs',q3',q4'⟩:=q2'
   have hval':a.eval y=.func (.func f) #[] vs'.toArray:=by simpa[bB,I.isAgg,q3'] using q1'.symm
   rw[hval] at hval'
   simp only[Value.func.injEq,true_and,Array.mk.injEq] at hval'
   subst hval'
   exact xT q4'
  ·have e:xs.map a.eval=(xs.toList.map a.eval).toArray:=by apply Array.ext';simp
   simp only[execOp,ho,resolve,hval,Deferred.ofValue,Sem.run_bind,Sem.run_pure,Result.andThen_ok,invoke,Array.empty_append,xP hc]
   rw[e]
   simp
 ·rename_i u hx
  rw[hx] at hv
  obtain ⟨cs,q1,q2⟩:=hv
  simp only[af] at q2
  have hval:a.eval y=u:=by simpa[bB,I.isAgg,q2.1] using q1.symm
  refine Rk (vs:=xs.toList.map a.eval) hop0 (fun D' E' hs'=>oJ hs' xs.toList ts.toList ys h2) ⟨D,E,hs⟩ hwp hd hdn (fun l hl =>?_) hK
  subst hl
  have e:xs.map a.eval=(xs.toList.map a.eval).toArray:=by apply Array.ext';simp
  simp only[execOp,ho,resolve,hval,Deferred.ofValue,Sem.run_bind,Sem.run_pure,Result.andThen_ok,invoke,Array.empty_append]
  rw[e]
 ·cases hwp
theorem acN{dr:Bool}{K:ab→Prop}{dst:Option Nat}{rest:List av}{a:Act}{w:World}{Kw:Act→World→Prop}{Q:Exit→Act→World→Prop}{neg:Bool}{x:aG}(hop:du c.P o=some (.nilS neg x))(hd:o.dst=dst)(hdn:∀ k,dst=some k→k<c.n)
  (hwp:a7 c.P c.Y dr K (aY A dst (.nilS neg x) rest (az rest))) (hsim:ct c A a w) (hK:∀ B a' w',a7 c.P c.Y dr K (az rest B)→ct c B a' w'→Kw a' w'):o.wpIn c.bn 9 c.P a w Kw Q:=by
 have hop0:=hop
 simp only[aY] at hwp
 split at hwp
 case isFalse=>exact Ie hop hd hdn hsim hK hwp
 rename_i hu
 cases hwp with
 |any hdr hall =>
 unfold du at hop
 split at hop <;>try (first | (simp at hop;done) | ((repeat' split at hop) <;>simp at hop;done))
 rename_i bop t y z yt ho
 split at hop
 ·simp at hop
 ·simp at hop
 ·rename_i e y' z' hut h1 h2
  split at hop
  ·rename_i s
   split at hop
   ·rename_i hopp
    simp only[Option.some.injEq,bZ.nilS.injEq] at hop
    obtain ⟨rfl,rfl⟩:=hop
    have ho':o.op=.binOp (if (bop==.neq)=true then .neq else .eql) t y z yt:=by
     rcases hopp with rfl | rfl <;>simpa using ho
    obtain ⟨D,E,hs⟩:=hsim
    have hund:∃ sz,ae A y'=.slice sz []∨ae A y'=.c0 sz:=by
     generalize ae A y'=q at hu
     cases q <;>simp only[jL,Bool.false_eq_true,List.isEmpty_iff] at hu
     ·rename_i sz;exact ⟨sz,.inr rfl⟩
     ·rename_i sz es;subst hu;exact ⟨sz,.inl rfl⟩
    obtain ⟨b,hrun⟩:=aeL ho' hut h1 h2 hund hs
    refine ⟨lP,?_⟩
    rw[mA hop0,hrun,Oper.uponIn_value]
    have hb:=hall (if b then 0 else 1) (by cases b <;>simp)
    refine hK _ _ _ hb ⟨D,E,?_⟩
    rw[hd]
    have e:((if b=true then (0:Nat) else 1)==0)=b:=by cases b <;>rfl
    rw[e]
    exact hs.aI hdn (nW b)
   ·cases hop
  ·cases hop
 ·split at hop <;>simp at hop
 ·split at hop <;>simp at hop
 ·cases hop
theorem acD{dr:Bool}{K:ab→Prop}{dst:Option Nat}{rest:List av}{a:Act}{w:World}{Kw:Act→World→Prop}{Q:Exit→Act→World→Prop}{e:TypeId}{esz bytes:Nat}{z:I}{s x:aG}(hop:du c.P o=some (.dF e esz bytes z s x))(hd:o.dst=dst)(hdn:∀ k,dst=some k→k<c.n)
  (hwp:a7 c.P c.Y dr K (aY A dst (.dF e esz bytes z s x) rest (az rest))) (hsim:ct c A a w) (hK:∀ B a' w',a7 c.P c.Y dr K (az rest B)→ct c B a' w'→Kw a' w'):o.wpIn c.bn 9 c.P a w Kw Q:=by
 have hop0:=hop
 simp only[aY] at hwp
 unfold du at hop
 split at hop <;>try (first | (simp at hop;done) | ((repeat' split at hop) <;>simp at hop;done))
 rename_i args tys ho
 split at hop
 case h_2=>cases hop
 rename_i y q t t' ha ht
 split at hop
 case h_2=>cases hop
 rename_i e' s' x' k1 k2 k3
 split at hop
 case isFalse=>split at hop <;>simp at hop
 rename_i hk
 simp only[Option.map_eq_some_iff,bZ.dF.injEq] at hop
 obtain ⟨zz,hz1,rfl,rfl,rfl,rfl,rfl,rfl⟩:=hop
 obtain ⟨rfl,hk2,hk3⟩:=hk
 have ha':args = #[y,q]:=by apply Array.ext';simpa using ha
 have ht':tys = #[t,t]:=by apply Array.ext';simpa using ht
 subst ha' ht'
 rw[hz1] at hk3
 simp only[Option.map_some,Option.some.injEq] at hk3
 have hinfo:(c.P.info? e').isSome=true:=by
  obtain ⟨ti,_,hti,_⟩:=lL hz1
  rw[hti];rfl
 have grow:∀ es ys,en A (c.P.cellsOf e') (ae A s')=some es→en A (c.P.cellsOf e') (ae A x')=some ys→ys≠[]→(∀ a w D E,aN c A a w D E→∀ ad l cp,a.eval y=.slice ad l cp→cp<l+ys.length) →
   a7 c.P c.Y dr K (gD A dst (c.P.cellsOf e') (c.P.bytesOf e') zz es ys (az rest))→o.wpIn c.bn 9 c.P a w Kw Q:=fun es ys hse hsx hne hfull h=>by
  simp only[gD] at h
  split at h
  case h_2=>cases h
  rename_i d
  split at h
  case h_2=>cases h
  rename_i hf
  split at h
  case isFalse=>cases h
  rename_i hb
  cases h with
  |any hdr hall =>
   obtain ⟨D,E,hs⟩:=hsim
   obtain ⟨v,w',m,g1,g2,g3⟩:=OU ho k1 k2 k3 hz1 hk3 hse hsx hb.1 hd (hdn d rfl) hf hne hs (hfull a w D E hs) hb.2
   refine ⟨lP,?_⟩
   rw[mA hop0,g1,Oper.uponIn_value,hd]
   rw[hd] at g3
   exact hK _ _ _ (hall m g2) g3
 split at hwp
 ·rename_i n l hs'
  split at hwp
  case h_2=>cases hwp
  rename_i sz ys hx'
  split at hwp
  case h_3=>cases hwp
  case h_2 =>
   rename_i T xs hn
   split at hwp
   case isFalse=>cases hwp
   rename_i hok
   obtain ⟨h1,h2,h3,h4,h5,h6,h7,h8⟩:=hok
   subst h3 h4
   have hl5:ys.length=(qp ys).length:=(congrArg List.length h5).trans (by simp)
   rw[hl5] at h7 h8 hwp
   rw[h5] at hx'
   have hd':=VX (o:=o) ho k1 k2 k3 hz1 h2 hs' hn h1 hx' (fun e=>h6 (by rw[h5,e];rfl)) h7 h8 (by rw[hd];exact hdn)
   exact hd'.wp hop0 hsim (fun a' w' hs=>by rw[hd] at hs;exact hK _ a' w' hwp hs)
  rename_i T sz' es hn
  split at hwp
  case isFalse=>cases hwp
  rename_i hok
  obtain ⟨h1,h2,h3,h4,h5,h6,h7⟩:=hok
  subst h2 h3 h4
  have hd':=VW (o:=o) ho k1 k2 k3 hz1 hk3 hk2 hs' hn h1 hx' rfl h5 h6 h7 (by rw[hd];exact hdn)
  exact hd'.wp hop0 hsim (fun a' w' hs=>by rw[hd] at hs;exact hK _ a' w' hwp hs)
 ·simp only[fm] at hwp
  split at hwp
  case h_2=>cases hwp
  rename_i es ys hse hsx
  split at hwp
  ·rename_i hne
   subst hne
   exact ((VZ ho k1 hinfo k2 k3 hse hsx).does (by rw[hd];exact hdn)).wp hop0 hsim (fun a' w' hs=>by rw[hd] at hs;exact hK _ a' w' hwp hs)
  ·rename_i hne
   have hpos:0<ys.length:=List.length_pos_iff.2 hne
   split at hwp
   ·rename_i z0 hsv
    refine grow es ys hse hsx hne (fun a w D E hs ad l cp hv =>?_) hwp
    have h0:=b8 hs k2
    rw[hsv] at h0
    obtain ⟨cs,q1,q2⟩:=h0
    simp only[af] at q2
    have:a.eval y=.slice none 0 0:=by simpa[bB,I.isAgg,q2] using q1.symm
    rw[this] at hv
    simp only[Value.slice.injEq] at hv
    omega
   ·rename_i z0 hsv
    refine grow es ys hse hsx hne (fun a w D E hs ad l cp hv =>?_) hwp
    have h0:=b8 hs k2
    rw[hsv] at h0
    obtain ⟨cs,q1,q2⟩:=h0
    simp only[af] at q2
    obtain ⟨ad',q2⟩:=q2
    have:a.eval y=.slice ad' 0 0:=by simpa[bB,I.isAgg,q2] using q1.symm
    rw[this] at hv
    simp only[Value.slice.injEq] at hv
    omega
   ·rename_i n p sz lo l hsv
    split at hwp
    case h_2=>cases hwp
    rename_i b hn
    split at hwp
    case h_2=>cases hwp
    rename_i fs hat
    split at hwp
    ·rename_i hroom
     split at hwp
     case isFalse=>cases hwp
     rename_i hok
     obtain ⟨rfl,hsh⟩:=hok
     exact (VY ho k1 hinfo k2 k3 hsv hn hat hsx hroom hsh (by rw[hd];exact hdn)).wp hop0 hsim (fun a' w' hs=>by rw[hd] at hs;exact hK _ a' w' hwp hs)
    ·rename_i hroom
     refine grow es ys hse hsx hne (fun a w D E hs ad l' cp hv =>?_) hwp
     have h0:=b8 hs k2
     rw[hsv] at h0
     obtain ⟨_,bb,cs,T,off,c1,c2,c3,_,_,_,_,_,_,_,_,_,_,r1,dR,ta⟩:=hs.view (fs:=fs) h0 (by simp only[cz,hn,hat])
     rw[ta] at hv
     simp only[Value.slice.injEq] at hv
     omega
   ·cases hwp
theorem acE{dr:Bool}{K:ab→Prop}{dst:Option Nat}{rest:List av}{a:Act}{w:World}{Kw:Act→World→Prop}{Q:Exit→Act→World→Prop}{e:TypeId}{esz bytes:Nat}{z:I}{s n:aG}(hop:du c.P o=some (.lR e esz bytes z s n))(hd:o.dst=dst)(hdn:∀ k,dst=some k→k<c.n)
  (hwp:a7 c.P c.Y dr K (aY A dst (.lR e esz bytes z s n) rest (az rest))) (hsim:ct c A a w) (hK:∀ B a' w',a7 c.P c.Y dr K (az rest B)→ct c B a' w'→Kw a' w'):o.wpIn c.bn 9 c.P a w Kw Q:=by
 have hop0:=hop
 simp only[aY] at hwp
 unfold du at hop
 split at hop <;>try (first | (simp at hop;done) | ((repeat' split at hop) <;>simp at hop;done))
 rename_i args tys ho
 split at hop
 case h_2=>cases hop
 rename_i y q t t' ha ht
 split at hop
 case h_2=>cases hop
 rename_i e' s' x' k1 k2 k3
 split at hop
 case isTrue=>simp at hop
 split at hop
 case isFalse=>cases hop
 rename_i hk
 simp only[Option.map_eq_some_iff,bZ.lR.injEq] at hop
 obtain ⟨zz,hz1,rfl,rfl,rfl,rfl,rfl,rfl⟩:=hop
 obtain ⟨hint,hk2,hk3⟩:=hk
 have ha':args = #[y,q]:=by apply Array.ext';simpa using ha
 have ht':tys = #[t,t']:=by apply Array.ext';simpa using ht
 subst ha' ht'
 rw[hz1] at hk3
 simp only[Option.map_some,Option.some.injEq] at hk3
 obtain ⟨kt,hkt⟩:∃ kt,c.P.underlying t'=some (.int kt):=by
  cases hu:c.P.underlying t' with
  |none=>rw[hu] at hint;cases hint
  |some dsc=>cases dsc <;>rw[hu] at hint <;>first | exact ⟨_,rfl⟩ | cases hint
 split at hwp
 case h_2=>cases hwp
 rename_i kx bh hx'
 simp only[ud] at hwp
 split at hwp
 case h_2=>cases hwp
 rename_i es hse
 split at hwp
 case h_2=>cases hwp
 rename_i nn p sz lo l hsv
 split at hwp
 case h_2=>cases hwp
 rename_i bb hn
 split at hwp
 case h_2=>cases hwp
 rename_i fs hat
 split at hwp
 case isFalse=>cases hwp
 rename_i hroom
 simp only[gD] at hwp
 split at hwp
 case h_2=>cases hwp
 rename_i d
 split at hwp
 case h_2=>cases hwp
 rename_i hf
 split at hwp
 case isFalse=>cases hwp
 rename_i hb
 rw[List.length_replicate] at hb
 cases hwp with
 |any hdr hall =>
  obtain ⟨D,E,hs⟩:=hsim
  obtain ⟨v,w',m,g1,g2,g3⟩:=OX ho k1 k2 k3 hkt hx' rfl hroom.1 hk2 hz1 hk3 hse hb.1 hd (hdn d rfl) hf hs (fun ad l' cp hv=>by
   have h0:=b8 hs k2
   rw[hsv] at h0
   have hsv':=hse
   obtain ⟨_,b1,cs,T,off,c1,c2,c3,_,_,_,_,_,_,_,_,_,_,r1,dR,ta⟩:=hs.view (fs:=fs) h0 (by simp only[cz,hn,hat])
   rw[ta] at hv
   simp only[Value.slice.injEq] at hv
   have hel:es.length=l:=by
    rw[hsv] at hse
    simp only[en,cz,hn,hat] at hse
    split at hse
    ·simp only[Option.some.injEq] at hse
     rw[←hse,List.length_take,List.length_drop]
     omega
    ·cases hse
   omega) hb.2
  refine ⟨lP,?_⟩
  rw[mA hop0,g1,Oper.uponIn_value,hd]
  rw[hd] at g3
  have:=hall m (by rw[List.length_replicate];exact g2)
  rw[List.length_replicate] at this
  exact hK _ _ _ this g3
theorem acI{dr:Bool}{K:ab→Prop}{dst:Option Nat}{rest:List av}{a:Act}{w:World}{Kw:Act→World→Prop}{Q:Exit→Act→World→Prop}{esz:Nat}{z:I}{x:aG}(hop:du c.P o=some (.iY esz z x))(hd:o.dst=dst)(hdn:∀ k,dst=some k→k<c.n)
  (hwp:a7 c.P c.Y dr K (aY A dst (.iY esz z x) rest (az rest))) (hsim:ct c A a w) (hK:∀ B a' w',a7 c.P c.Y dr K (az rest B)→ct c B a' w'→Kw a' w'):o.wpIn c.bn 9 c.P a w Kw Q:=by
 have hop0:=hop
 simp only[aY] at hwp
 split at hwp
 case h_2=>cases hwp
 unfold du at hop
 split at hop <;>try (first | (simp at hop;done) | ((repeat' split at hop) <;>simp at hop;done))
 rename_i args tys ho
 split at hop
 case h_2=>cases hop
 rename_i y t ha ht
 split at hop
 case h_2=>cases hop
 rename_i e' x' k1 k2
 simp only[Option.map_eq_some_iff,bZ.iY.injEq] at hop
 obtain ⟨zz,hz1,rfl,rfl,rfl⟩:=hop
 have ha':args = #[y]:=by apply Array.ext';simpa using ha
 have ht':tys = #[t]:=by apply Array.ext';simpa using ht
 subst ha' ht'
 have nothing:a7 c.P c.Y dr K (az rest A)→(∀ a w D E,aN c A a w D E→∃ ad cp,a.eval y=.slice ad 0 cp)→o.wpIn c.bn 9 c.P a w Kw Q:=fun h hv=>by
  obtain ⟨D,E,hs⟩:=hsim
  obtain ⟨ad,cp,hv⟩:=hv a w D E hs
  refine ⟨lP,?_⟩
  have hrun:(execOp a.eval o).run c.P w=.ok (.value (.tuple #[])) w:=by
   cases ad <;>simp[execOp,ho,resolve,invoke,builtin,Builtin.clear_,run_underlying k1,hv]
  rw[mA hop0,hrun,Oper.uponIn_value,hd]
  exact hK _ _ _ h ⟨D,E,hs⟩
 unfold mL at hwp
 split at hwp
 ·rename_i n p sz lo l hv
  split at hwp
  case h_2=>cases hwp
  rename_i b hn
  split at hwp
  case h_2=>cases hwp
  rename_i fs hat
  split at hwp
  case isFalse=>cases hwp
  rename_i hok
  obtain ⟨rfl,hsh⟩:=hok
  exact (V1 ho k1 k2 hz1 hv hn hat hsh hd).wp hop0 hsim (fun a' w' hs=>hK _ a' w' hwp hs)
 ·rename_i z0 hv
  refine nothing hwp fun a w D E hs =>?_
  have h0:=b8 hs k2
  rw[hv] at h0
  obtain ⟨cs,q1,q2⟩:=h0
  simp only[af] at q2
  exact ⟨none,0,by simpa[bB,I.isAgg,q2] using q1.symm⟩
 ·rename_i z0 hv
  refine nothing hwp fun a w D E hs =>?_
  have h0:=b8 hs k2
  rw[hv] at h0
  obtain ⟨cs,q1,q2⟩:=h0
  simp only[af] at q2
  obtain ⟨ad,q2⟩:=q2
  exact ⟨ad,0,by simpa[bB,I.isAgg,q2] using q1.symm⟩
 ·cases hwp
theorem acJ{dr:Bool}{K:ab→Prop}{dst:Option Nat}{rest:List av}{a:Act}{w:World}{Kw:Act→World→Prop}{Q:Exit→Act→World→Prop}{esz:Nat}{x y:aG}(hop:du c.P o=some (.kX esz x y))(hd:o.dst=dst)(hdn:∀ k,dst=some k→k<c.n)
  (hwp:a7 c.P c.Y dr K (aY A dst (.kX esz x y) rest (az rest))) (hsim:ct c A a w) (hK:∀ B a' w',a7 c.P c.Y dr K (az rest B)→ct c B a' w'→Kw a' w'):o.wpIn c.bn 9 c.P a w Kw Q:=by
 have hop0:=hop
 simp only[aY] at hwp
 unfold du at hop
 split at hop <;>try (first | (simp at hop;done) | ((repeat' split at hop) <;>simp at hop;done))
 rename_i args tys ho
 split at hop
 case h_2=>cases hop
 rename_i u v t t' ha ht
 split at hop
 case h_2=>cases hop
 rename_i e' x' y' k1 k2 k3
 split at hop
 case isFalse=>cases hop
 rename_i hk
 simp only[Option.some.injEq,bZ.kX.injEq] at hop
 obtain ⟨rfl,rfl,rfl⟩:=hop
 obtain ⟨rfl,hinfo⟩:=hk
 have ha':args = #[u,v]:=by apply Array.ext';simpa using ha
 have ht':tys = #[t,t]:=by apply Array.ext';simpa using ht
 subst ha' ht'
 unfold rP at hwp
 split at hwp
 ·rename_i n p sz lo l ys hv hsx
  split at hwp
  case h_2=>cases hwp
  rename_i b hn
  split at hwp
  case h_2=>cases hwp
  rename_i fs hat
  split at hwp
  case isFalse=>cases hwp
  rename_i hok
  obtain ⟨rfl,hsh⟩:=hok
  exact (V2 ho k1 hinfo k2 k3 hv hn hat hsx rfl hsh (by rw[hd];exact hdn)).wp hop0 hsim (fun a' w' hs=>by rw[hd] at hs;exact hK _ a' w' hwp hs)
 ·cases hwp
theorem vR{dr:Bool}{K:ab→Prop}{op:bZ}{dst:Option Nat}{rest:List av}{a:Act}{w:World}{Kw:Act→World→Prop}{Q:Exit→Act→World→Prop}(hop:du c.P o=some op)(hd:o.dst=dst)(hdn:∀ k,dst=some k→k<c.n)
  (hwp:a7 c.P c.Y dr K (aY A dst op rest (az rest))) (hsim:ct c A a w) (hK:∀ B a' w',a7 c.P c.Y dr K (az rest B)→ct c B a' w'→Kw a' w'):o.wpIn c.bn 9 c.P a w Kw Q:=by
 cases op with
 |alloc z=>exact acC hop hd hdn hwp hsim hK
 |box x=>exact acF hop hd hdn hwp hsim hK
 |br s x v=>exact acQ hop hd hdn hwp hsim hK
 |call f args=>exact acG hop hd hdn hwp hsim hK
 |kc f args=>exact acR hop hd hdn hwp hsim hK
 |jB=>exact acK hop hd hdn hwp hsim hK
 |jY e bytes z n=>exact acL hop hd hdn hwp hsim hK
 |gp ty m k v=>exact acM hop hd hdn hwp hsim hK
 |j7 x=>exact acP hop hd hdn hwp hsim hK
 |jg x=>exact acO hop hd hdn hwp hsim hK
 |eG x args=>exact acH hop hd hdn hwp hsim hK
 |nilS neg x=>exact acN hop hd hdn hwp hsim hK
 |dF e esz bytes z s x=>exact acD hop hd hdn hwp hsim hK
 |lR e esz bytes z s n=>exact acE hop hd hdn hwp hsim hK
 |iY esz z x=>exact acI hop hd hdn hwp hsim hK
 |kX esz x y=>exact acJ hop hd hdn hwp hsim hK
 |_=>exact Ie hop hd hdn hsim hK (by simpa only[aY] using hwp)
theorem vY{j t:Nat}{bQ:Array Oper}{a:Act}{w:World}{b b':Bool}(hs:ct c A a w)(hg:o.guard=some (j,b))(ht:(bQ[j]?).bind (·.dst)=some t)(hv:A.t t=.bool b'):Region.wanted o (yielded bQ a.tmps)=(b'==b):=by
 obtain ⟨D,E,hs⟩:=hs
 have h:=hs.eb t
 rw[hv] at h
 have h:=lH h
 have hy:yielded bQ a.tmps j=some b':=by
  unfold yielded
  rw[ht]
  simp only[Option.bind_some]
  simp only[Array.getD_eq_getD_getElem?] at h
  cases hh:a.tmps[t]? with
  |none=>simp[hh,undef] at h
  |some v=>simp only[hh,Option.getD_some] at h;subst h;rfl
 unfold Region.wanted
 rw[hg]
 simp only[hy]
 cases b <;>cases b' <;>rfl
theorem vZ{j t:Nat}{bQ:Array Oper}{a:Act}{w:World}{b:Bool}(hs:ct c A a w)(hg:o.guard=some (j,b))(ht:(bQ[j]?).bind (·.dst)=some t)(hv:A.t t=.undef):Region.wanted o (yielded bQ a.tmps)=false:=by
 obtain ⟨D,E,hs⟩:=hs
 have h:=hs.eb t
 rw[hv] at h
 simp only[aR] at h
 have hy:yielded bQ a.tmps j=none:=by
  unfold yielded
  rw[ht]
  simp only[Option.bind_some]
  simp only[Array.getD_eq_getD_getElem?] at h
  cases hh:a.tmps[t]? with
  |none=>rfl
  |some v=>simp only[hh,Option.getD_some] at h;subst h;rfl
 unfold Region.wanted
 rw[hg]
 simp only[hy]
 rfl
theorem ct.pD{a:Act}{w:World}(h:ct c A a w){d:Option Nat}(hd:∀ k,d=some k→k<c.n):ct c (A.aI d .undef) (a.put d undef) w:=by
 obtain ⟨D,E,h⟩:=h
 exact ⟨D,E,h.aI hd (by simp[aR])⟩
theorem sh{dr:Bool}{K:ab→Prop}{bQ:Array Oper}{Q:Exit→Act→World→Prop}(hQ:∀ B a w,K B→ct c B a w→Q .normal a w):∀ (l:List Oper) (gs:List av) (A:ab) (a:Act) (w:World),kh c.P c.n bQ l=some gs→a7 c.P c.Y dr K (az gs A) →
  ct c A a w→wpListIn c.bn 9 c.P bQ Q l a w
 | [],gs,A,a,w,hc,hwp,hs=>by
  simp only[kh,Option.some.injEq] at hc
  subst hc
  simp only[az] at hwp
  cases hwp with
  |done hk=>exact hQ A a w hk hs
 |o::l,gs,A,a,w,hc,hwp,hs=>by
  simp only[kh] at hc
  split at hc
  case h_2=>cases hc
  rename_i g gs' hg hgs
  simp only[Option.some.injEq] at hc
  subst hc
  obtain ⟨h1,h2,h3,h4⟩:=uo hg
  have step:a7 c.P c.Y dr K (aY A g.dst g.op gs' (az gs'))→o.wpIn c.bn 9 c.P a w (wpListIn c.bn 9 c.P bQ Q l) Q:=fun h =>
   vR h1 h2.symm (by rw[h2];exact h3) h hs (fun B a' w' hw hs'=>sh hQ l gs' B a' w' hgs hw hs')
  simp only[wpListIn]
  simp only[az] at hwp
  rcases h4 with ⟨h5,h6⟩ | ⟨j,b,t,h5,h6,h7⟩
  ·rw[h6] at hwp
   have hw:Region.wanted o (yielded bQ a.tmps)=true:=by simp[Region.wanted,h5]
   rw[hw,if_pos rfl]
   exact step hwp
  ·rw[h7] at hwp
   simp only at hwp
   split at hwp
   ·rename_i b' hb'
    rw[vY hs h5 h6 hb']
    split at hwp
    ·rename_i hbb
     subst hbb
     simp only[BEq.rfl,if_true]
     exact step hwp
    ·rename_i hbb
     have:(b'==b)=false:=by simpa using hbb
     rw[this]
     simp only[Bool.false_eq_true,if_false]
     exact ⟨fun f _=>nI c f,sh hQ l gs' _ _ w hgs hwp (by rw[h2];exact hs.pD h3)⟩
   ·rename_i hb'
    rw[vZ hs h5 h6 hb']
    simp only[Bool.false_eq_true,if_false]
    exact ⟨fun f _=>nI c f,sh hQ l gs' _ _ w hgs hwp (by rw[h2];exact hs.pD h3)⟩
   ·cases hwp
end
def aG.sl:aG→List Nat
 | .t n=>[n]
 | .c _=>[]
def sR:Option aG→List Nat
 |some x=>x.sl
 |none=>[]
def jI(l:List aG):List Nat:=l.flatMap aG.sl
def bZ.cX:bZ→List Nat
 | .mv x=>x.sl
 | .pick c a b=>c.sl++(a.sl++b.sl)
 | .bin _ x y=>x.sl++y.sl
 | .eqv _ _ x y=>x.sl++y.sl
 | .nilS _ x=>x.sl
 | .conv _ x=>x.sl
 | .un _ x=>x.sl
 | .ld _ x=>x.sl
 | .fa _ _ x=>x.sl
 | .fl _ _ _ x=>x.sl
 | .ia _ _ x i=>x.sl++i.sl
 | .is _ x i=>x.sl++i.sl
 | .ix _ _ _ x i=>x.sl++i.sl
 | .len x=>x.sl
 | .lenT x=>x.sl
 | .va _ _ x=>x.sl
 | .sl _ x lo hi mx=>x.sl++(sR lo++(sR hi++sR mx))
 | .bld _ ps=>jI (ps.map (·.2))
 | .bs _ ps=>jI ps
 | .ext x _=>x.sl
 | .mk _ caps=>jI caps
 | .alloc _=>[]
 | .box x=>x.sl
 | .br _ x v=>x.sl++v.sl
 | .dF _ _ _ _ s x=>s.sl++x.sl
 | .lR _ _ _ _ s x=>s.sl++x.sl
 | .cap x=>x.sl
 | .bs0 _=>[]
 | .iY _ _ x=>x.sl
 | .kX _ x y=>x.sl++y.sl
 | .call _ args=>jI args
 | .eG x args=>x.sl++jI args
 | .kc _ args=>jI args
 | .nilC x=>x.sl
 | .ptrE _ x y=>x.sl++y.sl
 | .jY _ _ _ n=>n.sl
 | .jB=>[]
 | .lk _ _ _ m k=>m.sl++k.sl
 | .gp _ m k v=>m.sl++(k.sl++v.sl)
 | .j7 x=>x.sl
 | .jg x=>x.sl
 | .ent x=>x.sl
def av.cX(g:av):List Nat:=g.op.cX++(match g.guard with | some (t,_)=>[t] | none=>[])
def bZ.gi:bZ→Nat
 | .mv _ | .pick .. | .bin .. | .eqv .. | .nilS .. | .conv .. | .un .. | .fl .. | .ix .. | .lenT _ | .bld .. | .ext .. | .mk .. | .nilC _ | .ptrE .. =>0
 | .ld .. | .fa .. | .ia .. | .is .. | .len _ | .va .. | .bs .. | .sl .. | .cap _ | .bs0 _ | .lk .. | .ent _=>1
 | .call .. | .eG .. =>2
 | .alloc _ | .box _=>3
 | .br .. =>4
 | .dF .. | .lR .. | .iY .. | .kX .. | .kc .. | .jY .. | .jB | .gp .. | .j7 _ | .jg _=>5
def uC(a b:Nat):Bool:=(decide (a≤2)&&decide (b≤3))||(a==0&&b==4)
def mZ(g h:av):Bool:=uC g.op.gi h.op.gi&&(match g.dst with
  |some d => !h.cX.contains d&&h.dst != some d
  |none=>true)&&(match h.dst with
  |some d => !g.cX.contains d
  |none=>true)
def dX(A A':ab)(l:List Nat):Prop:=∀ k∈l,A'.t k=A.t k
section
variable {A A':ab}
theorem c6{x:aG}(h:dX A A' x.sl):ae A' x=ae A x:=by
 cases x with
 |t n=>exact h n (by simp[aG.sl])
 |c x=>rfl
theorem dX.l{l m:List Nat}(h:dX A A' (l++m)):dX A A' l:=fun k hk=>h k (List.mem_append_left _ hk)
theorem dX.r{l m:List Nat}(h:dX A A' (l++m)):dX A A' m:=fun k hk=>h k (List.mem_append_right _ hk)
theorem lY:∀ {l:List aG},dX A A' (jI l)→l.map (ae A')=l.map (ae A)
 | [],_=>rfl
 |x::l,h=>by
  simp only[jI,List.flatMap_cons] at h
  simp only[List.map_cons,c6 h.l,lY (l:=l) h.r]
theorem oU{x:Option aG}(h:dX A A' (sR x)):x.map (ae A')=x.map (ae A):=by
 cases x with
 |none=>rfl
 |some x=>simp only[Option.map_some,c6 (x:=x) h]
theorem B5:∀ {l:List (Nat×aG)},dX A A' (jI (l.map (·.2)))→(l.map fun p=>(p.1,ae A' p.2))=l.map fun p=>(p.1,ae A p.2)
 | [],_=>rfl
 |x::l,h=>by
  simp only[jI,List.map_cons,List.flatMap_cons] at h
  simp only[List.map_cons,c6 h.l,B5 (l:=l) h.r]
theorem qB{f g:I→Option I}(h:∀ x v,f x=some v→g x=some v):∀ {xs vs:List I},fD f xs=some vs→fD g xs=some vs
 | [],vs,hx=>by simpa only[fD] using hx
 |x::xs,vs,hx=>by
  simp only[fD] at hx ⊢
  cases h1:f x with
  |none=>rw[h1] at hx;cases hx
  |some y=>cases h2:fD f xs with
   |none=>rw[h1,h2] at hx;cases hx
   |some ys=>rw[h1,h2] at hx;rw[h x y h1,qB h h2];exact hx
theorem uY(hu:ec A A'):∀ (k:Nat) (x v:I),dU A k x=some v→dU A' k x=some v
 |0,_,_,h=>by simp[dU] at h
 |k+1,x,v,h=>by
  have ih:=uY hu k
  simp only[dU] at h ⊢
  split at h
  ·rename_i hc;rw[if_pos hc];exact h
  ·rename_i hc
   rw[if_neg hc]
   cases x <;>simp only[] at h ⊢ <;>try (cases h;done)
   case agg fs =>
    simp only[Option.map_eq_some_iff] at h ⊢
    obtain ⟨a,h1,h2⟩:=h
    exact ⟨a,qB ih h1,h2⟩
   case func f fs =>
    simp only[Option.map_eq_some_iff] at h ⊢
    obtain ⟨a,h1,h2⟩:=h
    exact ⟨a,qB ih h1,h2⟩
   case ptr n p =>
    cases hd:cz A (.ptr n p) with
    |none=>rw[hd] at h;cases h
    |some y =>
     rw[hd] at h;rw[jw hu hd]
     simp only[Option.map_eq_some_iff] at h ⊢
     obtain ⟨a,h1,h2⟩:=h
     exact ⟨a,ih _ _ h1,h2⟩
   case view n p sz lo l =>
    cases hd:cz A (.ptr n p) with
    |none=>rw[hd] at h;cases h
    |some y=>rw[hd] at h;rw[jw hu hd];exact h
   case mref n =>
    cases ho:A.o n with
    |none=>rw[ho] at h;cases h
    |some y =>
     rw[ho] at h;rw[hu n y ho]
     cases y <;>try (cases h;done)
     simp only at h ⊢
     split at h
     ·rename_i hk
      rw[if_pos hk]
      simp only[Option.map_eq_some_iff] at h ⊢
      obtain ⟨a,h1,h2⟩:=h
      exact ⟨a,qB ih h1,h2⟩
     ·cases h
   case own n l =>
    cases ho:A.o n with
    |none=>rw[ho] at h;cases h
    |some y=>rw[ho] at h;rw[hu n y ho];exact h
mutual
theorem Ci(hu:ec A A'){aw:Bool} : ∀ {x v:I},a6 aw A x=some v→a6 aw A' x=some v
 | .ptr n p,v,h=>by
  simp only[a6] at h ⊢
  cases aw <;>simp only[Bool.false_eq_true,if_false,if_true] at h ⊢
  ·exact h
  ·cases hd:cz A (.ptr n p) with
   |none=>rw[hd] at h;cases h
   |some y =>
    rw[hd] at h;rw[jw hu hd]
    simp only at h ⊢
    split at h
    ·rename_i hc;rw[if_pos hc];exact h
    ·rename_i hc
     rw[if_neg hc]
     simp only[Option.map_eq_some_iff] at h ⊢
     obtain ⟨a,h1,h2⟩:=h
     exact ⟨a,uY hu 9 _ _ h1,h2⟩
 | .mref n,v,h=>by
  simp only[a6] at h ⊢
  cases aw <;>simp only[Bool.false_eq_true,if_false,if_true] at h ⊢
  ·exact h
  ·cases ho:A.o n with
   |none=>rw[ho] at h;cases h
   |some y =>
    rw[ho] at h;rw[hu n y ho]
    cases y <;>try (cases h;done)
    simp only at h ⊢
    split at h
    ·rename_i hk
     rw[if_pos hk]
     simp only[Option.map_eq_some_iff] at h ⊢
     obtain ⟨a,h1,h2⟩:=h
     exact ⟨a,qB (uY hu 9) h1,h2⟩
    ·cases h
 | .dg _,_,h=>by simp[a6] at h
 | .cM _ _,_,h=>by simpa only[a6] using h
 | .own n k,v,h=>by
  simp only[a6] at h ⊢
  cases ho:A.o n with
  |none=>rw[ho] at h;cases h
  |some y=>rw[ho] at h;rw[hu n y ho];exact h
 | .view n p sz lo k,v,h=>by
  simp only[a6] at h ⊢
  cases aw <;>simp only[Bool.false_eq_true,if_false,if_true] at h ⊢
  ·exact h
  ·cases hd:cz A (.ptr n p) with
   |none=>rw[hd] at h;cases h
   |some y=>rw[hd] at h;rw[jw hu hd];exact h
 | .func f caps,v,h=>by
  simp only[a6,Option.map_eq_some_iff] at h ⊢
  obtain ⟨a,h1,h2⟩:=h
  exact ⟨a,lj hu h1,h2⟩
 | .agg fs,v,h=>by
  simp only[a6,Option.map_eq_some_iff] at h ⊢
  obtain ⟨a,h1,h2⟩:=h
  exact ⟨a,lj hu h1,h2⟩
 | .nils _,_,h | .c0 _,_,h | .tuple _,_,h | .undef,_,h | .c8,_,h | .bool _,_,h | .int _ _,_,h | .cR _,_,h | .nilp,_,h | .da,_,h | .dL,_,h | .raw _,_,h | .slice _ _,_,h | .ref _,_,h | .iface _ _,_,h=>by simpa only[a6] using h
theorem lj(hu:ec A A'){aw:Bool} : ∀ {xs vs:List I},bY aw A xs=some vs→bY aw A' xs=some vs
 | [],vs,h=>by simpa only[bY] using h
 |x::xs,vs,h=>by
  simp only[bY] at h ⊢
  cases h1:a6 aw A x with
  |none=>rw[h1] at h;cases h
  |some y=>cases h2:bY aw A xs with
   |none=>rw[h1,h2] at h;cases h
   |some ys=>rw[h1,h2] at h;rw[Ci hu h1,lj hu h2];exact h
end
theorem xA{op:bZ}(hc:op.gi=0)(h:dX A A' op.cX):a8 A' op=a8 A op:=by
 cases op <;>simp only[bZ.gi] at hc <;>try (cases hc;done)
 all_goals simp only[bZ.cX] at h
 case mv x=>simp only[a8,c6 h]
 case pick c a b=>simp only[a8,c6 h.l,c6 h.r.l,c6 h.r.r]
 case bin _ x y=>simp only[a8,c6 h.l,c6 h.r]
 case eqv _ _ x y=>simp only[a8,c6 h.l,c6 h.r]
 case nilS x=>simp only[a8,c6 h]
 case conv x=>simp only[a8,c6 h]
 case un x=>simp only[a8,c6 h]
 case fl x=>simp only[a8,c6 h]
 case ix x i=>simp only[a8,c6 h.l,c6 h.r]
 case lenT x=>simp only[a8,c6 h]
 case bld zs ps=>simp only[a8,B5 h]
 case ext x i=>simp only[a8,c6 h]
 case mk f caps=>simp only[a8,lY h]
 case nilC x=>simp only[a8,c6 h]
 case ptrE neg x y=>simp only[a8,c6 h.l,c6 h.r]
theorem aek(hu:ec A A'){m:I}{q:List I×List I}(h:fZ A m=some q):fZ A' m=some q:=by
 cases m with
 |mref n =>
  simp only[fZ] at h ⊢
  cases hd:A.o n with
  |none=>simp only[hd] at h;cases h
  |some y=>simp only[hd] at h;simp only[hu n y hd];exact h
 |raw v=>cases v <;>first | (cases h;done) | (rename_i m;cases m <;>first | exact h | cases h)
 |cM ks vs=>exact h
 |_=>simp only[fZ] at h;cases h
theorem J4{op:bZ}(hu:ec A A')(h:dX A A' op.cX){v:I}(hv:a8 A op=some v):a8 A' op=some v:=by
 by_cases hc:op.gi=0
 ·rw[xA hc h];exact hv
 cases op <;>try (exact absurd rfl hc)
 all_goals simp only[bZ.cX] at h
 case ld s x =>
  simp only[a8,c6 h] at hv ⊢
  cases hd:cz A (ae A x) with
  |none=>rw[hd] at hv;cases hv
  |some y=>rw[hd] at hv;rw[jw hu hd];exact hv
 case fa f off x =>
  simp only[a8,c6 h] at hv ⊢
  generalize ae A x=z at *
  cases z <;>try (first | exact hv | (rename_i y;cases y <;>exact hv))
  rename_i n p
  cases hd:cz A (.ptr n p) with
  |none=>simp only[hd] at hv;cases hv
  |some y=>simp only[hd] at hv;simp only[jw hu hd];exact hv
 case ia n esz x i =>
  simp only[a8,c6 h.l,c6 h.r] at hv ⊢
  generalize ae A x=z at *
  cases z <;>try (first | exact hv | (rename_i y;cases y <;>exact hv))
  rename_i n p
  cases hd:cz A (.ptr n p) with
  |none=>simp only[hd] at hv;(repeat' split at hv) <;>cases hv
  |some y=>simp only[hd] at hv;simp only[jw hu hd];exact hv
 case is esz x i =>
  simp only[a8,c6 h.l,c6 h.r] at hv ⊢
  generalize ae A i=q at *
  cases q <;>try (exact hv)
  simp only at hv ⊢
  generalize ae A x=z at *
  cases z <;>try (first | exact hv | (rename_i y;cases y <;>exact hv))
  ·rename_i n p
   cases hd:A.o n with
   |none=>simp only[hd] at hv;cases hv
   |some y=>simp only[hd] at hv;simp only[hu n y hd];exact hv
  ·rename_i n p sz lo k
   simp only at hv ⊢
   cases hd:cz A (.ptr n p) with
   |none=>simp only[hd] at hv;cases hv
   |some y=>simp only[hd] at hv;simp only[jw hu hd];exact hv
 case len x =>
  simp only[a8,c6 h] at hv ⊢
  generalize ae A x=z at *
  cases z <;>try (first | exact hv | (rename_i y;cases y <;>exact hv))
  rename_i n p
  cases hd:A.o n with
  |none=>simp only[hd] at hv;cases hv
  |some y=>simp only[hd] at hv;simp only[hu n y hd];exact hv
 case cap x =>
  simp only[a8,c6 h] at hv ⊢
  generalize ae A x=z at *
  cases z <;>try (first | exact hv | (rename_i y;cases y <;>exact hv))
  rename_i n p sz lo k
  simp only at hv ⊢
  cases hd:cz A (.ptr n p) with
  |none=>simp only[hd] at hv;cases hv
  |some y=>simp only[hd] at hv;simp only[jw hu hd];exact hv
 case bs0 esz=>exact hv
 case sl esz x lo hi mx =>
  simp only[a8,c6 h.l,oU h.r.l,oU h.r.r.l,oU h.r.r.r] at hv ⊢
  generalize ae A x=z at *
  cases z <;>try (first | exact hv | (rename_i y;cases y <;>exact hv))
  rename_i n p sz l0 k
  simp only at hv ⊢
  cases hd:cz A (.ptr n p) with
  |none=>simp only[hd] at hv;cases hv
  |some y=>simp only[hd] at hv;simp only[jw hu hd];exact hv
 case va n esz x =>
  simp only[a8,c6 h] at hv ⊢
  generalize ae A x=z at *
  cases z <;>try (first | exact hv | (rename_i y;cases y <;>exact hv))
  rename_i n p
  cases hd:cz A (.ptr n p) with
  |none=>simp only[hd] at hv;cases hv
  |some y=>simp only[hd] at hv;simp only[jw hu hd];exact hv
 case lk ty z ok m k =>
  simp only[a8,c6 h.l,c6 h.r] at hv ⊢
  cases hd:fZ A (ae A m) with
  |none=>rw[hd] at hv;cases hv
  |some y=>rw[hd] at hv;rw[aek hu hd];exact hv
 case ent x =>
  simp only[a8,c6 h] at hv ⊢
  generalize ae A x=z at *
  cases z <;>try (exact hv)
  rename_i n
  simp only at hv ⊢
  cases hd:A.o n with
  |none=>simp only[hd] at hv;cases hv
  |some y=>simp only[hd] at hv;simp only[hu n y hd];exact hv
 case bs esz ps =>
  simp only[a8,lY h] at hv ⊢
  cases hd:bY false A (ps.map (ae A)) with
  |none=>rw[hd] at hv;cases hv
  |some y=>rw[hd] at hv;rw[lj hu hd];exact hv
 all_goals (simp only[a8] at hv;cases hv)
end
def pass(A:ab)(g:av):Prop:=match g.guard with | none=>True | some (t,b)=>A.t t=.bool b
def ga(A:ab)(g:av):Prop:=match g.guard with | none=>False | some (t,b)=>A.t t=.bool (!b)∨A.t t=.undef
inductive jq (P:Program) (A:ab):bZ→I→Prop where
 |pure {op:bZ} {v:I} : a8 A op=some v→jq P A op v
 |flat {f:FuncId} {args:List aG} {cargs:List I} {r:I} : bY true A (args.map (ae A))=some cargs→aB P f cargs r→r.flat=true→jq P A (.call f args) r
 |lead {f:FuncId} {args:List aG} {cargs:List I} {r:I} : bY false A (args.map (ae A))=some cargs→aB P f cargs r→jq P A (.call f args) r
 |tG {x:aG} {f:FuncId} {caps:List I} {args:List aG} {cargs:List I} {r:I} : ae A x=.func f caps→bY true A (args.map (ae A)++caps)=some cargs→aB P f cargs r→r.flat=true→jq P A (.eG x args) r
 |tH {x:aG} {f:FuncId} {caps:List I} {args:List aG} {cargs:List I} {r:I} : ae A x=.func f caps→bY false A (args.map (ae A)++caps)=some cargs→aB P f cargs r→jq P A (.eG x args) r
def rz(A:ab)(op:bZ)(x:I):Prop:=op=.alloc x∨∃ y,op=.box y∧(ae A y).b9=true∧x=ae A y
def rA(A:ab)(op:bZ)(n:Nat)(z:ah):Prop:=∃ s x v p b old,op=.br s x v∧ae A x=.ptr n p∧A.o n=some (.box b)∧b.at p=some old∧xm s (ae A v) old∧z=.box (b.dx p (ae A v))
def Oo(A:ab)(dst:Option Nat)(op:bZ)(B:ab):Prop:=op.gi=5∧∀ (rest:List av) (k:ab→cF),aY A dst op rest k=k B
theorem ahJ{A:ab}{neg:Bool}{x:aG}{v:I}(h:a8 A (.nilS neg x)=some v):jL (ae A x)=false:=by
 simp only[a8] at h
 generalize ae A x=q at *
 cases q <;>simp only[jL] <;>simp only at h <;>try (cases h;done)
 rename_i sz es
 cases es with
 |nil=>simp at h
 |cons=>rfl
inductive fc (P:Program) (g:av) (A:ab):ab→Prop where
 |skip:ga A g→fc P g A (A.aI g.dst .undef)
 |val {v:I} : pass A g→jq P A g.op v→fc P g A (A.aI g.dst v)
 |jf {d:Nat} {x:I} : pass A g→g.dst=some d→rz A g.op x→A.o d=none→fc P g A ((A.aL d (.box x)).put d (.ptr d []))
 |br {n:Nat} {z:ah} : pass A g→g.dst=none→rA A g.op n z→fc P g A (A.aL n z)
 |hX {B:ab} : pass A g→Oo A g.dst g.op B→fc P g A B
theorem uh{b' b:Bool}(h:b'≠b):b' = !b:=by cases b <;>cases b' <;>simp_all
section
variable {P:Program} {Y:Value→List I→List (Nat×ah)→cS→Prop} {K:ab→Prop}
theorem fc.Jn{A:ab}{g:av}{rest:List av}(hp:pass A g)(h:a7 P Y true K (aY A g.dst g.op rest (az rest))):∃ B,fc P g A B∧a7 P Y true K (az rest B):=by
 have pure:a7 P Y true K (cJ (a8 A g.op) fun v=>az rest (A.aI g.dst v))→∃ B,fc P g A B∧a7 P Y true K (az rest B):=by
  intro h
  cases hv:a8 A g.op with
  |none=>rw[hv] at h;cases h
  |some v=>rw[hv] at h;exact ⟨_,.val hp (.pure hv),h⟩
 obtain ⟨dst,op,gd⟩:=g
 cases op with
 |alloc z =>
  simp only[aY] at h
  split at h
  case h_2=>cases h
  split at h
  case h_2=>cases h
  rename_i hd _ ho
  exact ⟨_,.jf hp rfl (.inl rfl) ho,h⟩
 |box x =>
  simp only[aY] at h
  split at h
  case h_2=>cases h
  split at h
  case h_2=>cases h
  rename_i hd _ ho
  split at h
  case isFalse=>cases h
  rename_i hv
  exact ⟨_,.jf hp rfl (.inr ⟨x,rfl,hv,rfl⟩) ho,h⟩
 |br s x v =>
  simp only[aY] at h
  split at h
  case h_2=>cases h
  split at h
  case h_2=>cases h
  rename_i n p hx
  split at h
  case h_2=>cases h
  rename_i b hb
  split at h
  case h_2=>cases h
  rename_i old hat
  split at h
  case isFalse=>cases h
  rename_i hok
  exact ⟨_,.br hp rfl ⟨s,x,v,p,b,old,rfl,hx,hb,hat,hok,rfl⟩,h⟩
 |nilS neg x =>
  simp only[aY] at h
  split at h
  ·cases h with | any hdr=>cases hdr
  ·exact pure h
 |dF e esz bytes z s x =>
  simp only[aY] at h
  split at h
  ·rename_i n l hs'
   split at h
   case h_2=>cases h
   rename_i sz ys hx'
   split at h
   case h_3=>cases h
   case h_2 =>
    rename_i T xs hn
    split at h
    case isFalse=>cases h
    rename_i hok
    exact ⟨_,.hX hp ⟨rfl,fun rest k=>by simp only[aY,hs',hx',hn,if_pos hok]⟩,h⟩
   rename_i T sz' es hn
   split at h
   case isFalse=>cases h
   rename_i hok
   exact ⟨_,.hX hp ⟨rfl,fun rest k=>by simp only[aY,hs',hx',hn,if_pos hok]⟩,h⟩
  ·rename_i hno
   have hg:∀ (rest:List av) (k:ab→cF),aY A dst (.dF e esz bytes z s x) rest k=fm A dst esz bytes z (ae A s) (en A esz (ae A s)) (en A esz (ae A x)) k:=fun rest k=>by
    simp only[aY]
   simp only[fm] at h hg
   split at h
   case h_2=>cases h
   rename_i es ys hse hsx
   simp only[hse,hsx] at hg
   have grow:¬ a7 P Y true K (gD A dst esz bytes z es ys (az rest)):=fun h=>by
    simp only[gD] at h
    split at h
    case h_2=>cases h
    split at h
    case h_2=>cases h
    split at h
    case isFalse=>cases h
    cases h with | any hdr=>cases hdr
   split at h
   ·rename_i hne
    simp only[if_pos hne] at hg
    exact ⟨_,.hX hp ⟨rfl,hg⟩,h⟩
   ·rename_i hne
    simp only[if_neg hne] at hg
    split at h
    ·exact absurd h grow
    ·exact absurd h grow
    ·rename_i n p sz lo l hsv
     split at h
     case h_2=>cases h
     rename_i b hn
     split at h
     case h_2=>cases h
     rename_i fs hat
     split at h
     ·rename_i hroom
      split at h
      case isFalse=>cases h
      rename_i hok
      simp only[hsv,hn,hat,if_pos hroom,if_pos hok] at hg
      exact ⟨_,.hX hp ⟨rfl,hg⟩,h⟩
     ·exact absurd h grow
    ·cases h
 |kc f args =>
  simp only[aY] at h
  cases h with | ext r hdr=>cases hdr
 |lR e esz bytes z s n =>
  exfalso
  simp only[aY] at h
  split at h
  case h_2=>cases h
  simp only[ud] at h
  split at h
  case h_2=>cases h
  split at h
  case h_2=>cases h
  split at h
  case h_2=>cases h
  split at h
  case h_2=>cases h
  split at h
  case isFalse=>cases h
  simp only[gD] at h
  split at h
  case h_2=>cases h
  split at h
  case h_2=>cases h
  split at h
  case isFalse=>cases h
  cases h with | any hdr=>cases hdr
 |jB =>
  simp only[aY] at h
  split at h
  case h_2=>cases h
  rename_i d
  split at h
  case h_2=>cases h
  rename_i hf
  exact ⟨_,.hX hp ⟨rfl,fun rest k=>by simp only[aY,hf]⟩,h⟩
 |jY e bytes z n =>
  simp only[aY] at h
  split at h
  case h_2=>cases h
  rename_i d
  split at h
  case h_2=>cases h
  rename_i hf
  split at h
  case h_2=>cases h
  rename_i k m hn
  split at h
  case isFalse=>cases h
  rename_i hc
  exact ⟨_,.hX hp ⟨rfl,fun rest k=>by simp only[aY,hf,hn,if_pos hc]⟩,h⟩
 |gp ty m key v =>
  simp only[aY] at h
  split at h
  case h_2=>cases h
  split at h
  case h_2=>cases h
  rename_i n hm
  split at h
  case h_2=>cases h
  rename_i ks vs hn
  split at h
  case h_2=>cases h
  rename_i ks' vs' hl
  exact ⟨_,.hX hp ⟨rfl,fun rest k=>by simp only[aY,hm,hn,hl]⟩,h⟩
 |j7 x =>
  simp only[aY] at h
  split at h
  case h_2=>cases h
  rename_i d
  split at h
  case h_2=>cases h
  rename_i hf
  split at h
  case h_2=>cases h
  rename_i ks vs hx
  exact ⟨_,.hX hp ⟨rfl,fun rest k=>by simp only[aY,hf,hx]⟩,h⟩
 |jg x =>
  simp only[aY] at h
  split at h
  case h_2=>cases h
  rename_i n hx
  split at h
  case h_2=>cases h
  rename_i ks vs left cur hn
  split at h
  ·rename_i hl
   exact ⟨_,.hX hp ⟨rfl,fun rest k=>by simp only[aY,hx,hn,if_pos hl]⟩,h⟩
  ·cases h with | any hdr=>cases hdr
 |iY esz z x =>
  simp only[aY] at h
  split at h
  case h_2=>cases h
  have hg:∀ (rest:List av) (k:ab→cF),aY A none (.iY esz z x) rest k=mL A esz z k (ae A x):=fun rest k=>rfl
  simp only[mL] at h hg
  split at h
  ·rename_i n p sz lo l hv
   split at h
   case h_2=>cases h
   rename_i b hn
   split at h
   case h_2=>cases h
   rename_i fs hat
   split at h
   case isFalse=>cases h
   rename_i hok
   simp only[hv,hn,hat,if_pos hok] at hg
   exact ⟨_,.hX hp ⟨rfl,hg⟩,h⟩
  ·rename_i z0 hv
   simp only[hv] at hg
   exact ⟨_,.hX hp ⟨rfl,hg⟩,h⟩
  ·rename_i z0 hv
   simp only[hv] at hg
   exact ⟨_,.hX hp ⟨rfl,hg⟩,h⟩
  ·cases h
 |kX esz x y =>
  have hg:∀ (rest:List av) (k:ab→cF),aY A dst (.kX esz x y) rest k=rP A dst esz k (ae A x) (en A esz (ae A y)):=fun rest k=>rfl
  simp only[aY] at h
  simp only[rP] at h hg
  split at h
  ·rename_i n p sz lo l ys hv hsx
   split at h
   case h_2=>cases h
   rename_i b hn
   split at h
   case h_2=>cases h
   rename_i fs hat
   split at h
   case isFalse=>cases h
   rename_i hok
   simp only[hv,hsx,hn,hat,if_pos hok] at hg
   exact ⟨_,.hX hp ⟨rfl,hg⟩,h⟩
  ·cases h
 |call f args =>
  simp only[aY] at h
  generalize h1:bY true A (args.map (ae A))=a1 at h
  generalize h2:bY false A (args.map (ae A))=a2 at h
  cases h with
  |flat r hc hf hw=>exact ⟨_,.val hp (.flat h1 hc hf),hw⟩
  |lead r hc hw=>exact ⟨_,.val hp (.lead h2 hc),hw⟩
  |ib ns r hdr=>cases hdr
  |bR aw ρ os cargs post hdr=>cases hdr
 |eG x args =>
  simp only[aY] at h
  split at h
  case h_3=>cases h
  case h_2=>cases h with | yj os cargs post hdr=>cases hdr
  rename_i f caps hx
  generalize h1:bY true A (args.map (ae A)++caps)=a1 at h
  generalize h2:bY false A (args.map (ae A)++caps)=a2 at h
  cases h with
  |flat r hc hf hw=>exact ⟨_,.val hp (.tG hx h1 hc hf),hw⟩
  |lead r hc hw=>exact ⟨_,.val hp (.tH hx h2 hc),hw⟩
  |ib ns r hdr=>cases hdr
  |bR aw ρ os cargs post hdr=>cases hdr
 |_=>exact pure (by simpa only[aY] using h)
theorem fc.xc{A:ab}{g:av}{rest:List av}(h:a7 P Y true K (az (g::rest) A)):∃ B,fc P g A B∧a7 P Y true K (az rest B):=by
 simp only[az] at h
 split at h
 ·rename_i hg
  exact fc.Jn (by simp only[pass,hg]) h
 ·rename_i t b hg
  split at h
  ·rename_i b' hb
   split at h
   ·rename_i hbb
    subst hbb
    exact fc.Jn (by simp only[pass,hg];exact hb) h
   ·rename_i hbb
    refine ⟨_,.skip (by simp only[ga,hg];exact .inl (by rw[hb,uh hbb])),h⟩
  ·rename_i hb
   exact ⟨_,.skip (by simp only[ga,hg];exact .inr hb),h⟩
  ·cases h
theorem nz{A:ab}{g:av}{rest:List av}(hp:pass A g):az (g::rest) A=aY A g.dst g.op rest (az rest):=by
 simp only[az]
 cases hg:g.guard with
 |none=>rfl
 |some tb =>
  obtain ⟨t,b⟩:=tb
  simp only[pass,hg] at hp
  simp only[hp,if_true]
theorem fc.yf{A B:ab}{g:av}{rest:List av}(h:fc P g A B)(hw:a7 P Y true K (az rest B)):a7 P Y true K (az (g::rest) A):=by
 cases h with
 |skip hn =>
  simp only[az]
  cases hg:g.guard with
  |none=>simp only[ga,hg] at hn
  |some tb =>
   obtain ⟨t,b⟩:=tb
   simp only[ga,hg] at hn
   rcases hn with hn | hn
   ·simp only[hn];rw[if_neg (by cases b <;>simp)];exact hw
   ·simp only[hn];exact hw
 |val hp hv =>
  rw[nz hp]
  obtain ⟨dst,op,gd⟩:=g
  cases hv with
  |pure hv =>
   have hv':a8 A op=some _:=hv
   cases op <;>try (simp only[aY,hv',cJ] <;>first | exact hw | (simp only[a8] at hv';cases hv');done)
   all_goals first
    |(simp only[a8] at hv';cases hv';done)
    |(simp only[aY,ahJ hv',Bool.false_eq_true,if_false,hv',cJ];exact hw)
  |flat h1 h2 h3=>simp only[aY,h1];exact .flat _ h2 h3 hw
  |lead h1 h2=>simp only[aY,h1];exact .lead _ h2 hw
  |tG h0 h1 h2 h3=>simp only[aY,h0,h1];exact .flat _ h2 h3 hw
  |tH h0 h1 h2=>simp only[aY,h0,h1];exact .lead _ h2 hw
 |jf hp hd hm ho =>
  rw[nz hp]
  obtain ⟨dst,op,gd⟩:=g
  simp only at hd
  subst hd
  rcases hm with hm | ⟨y,hm,hv,rfl⟩ <;>simp only at hm <;>subst hm
  ·simp only[aY,ho];exact hw
  ·simp only[aY,ho,hv,if_true];exact hw
 |br hp hd hm =>
  rw[nz hp]
  obtain ⟨dst,op,gd⟩:=g
  simp only at hd
  subst hd
  obtain ⟨s,x,v,p,b,old,h1,h2,h3,h4,h5,rfl⟩:=hm
  simp only at h1
  subst h1
  simp only[aY,h2,h3,h4,if_pos h5]
  exact hw
 |hX hp hm =>
  rw[nz hp,hm.2]
  exact hw
theorem jq.cG{A A':ab}{op:bZ}{v:I}(h:jq P A op v)(hu:ec A A')(ha:dX A A' op.cX):jq P A' op v:=by
 cases h with
 |pure h=>exact .pure (J4 hu ha h)
 |flat h1 h2 h3=>exact .flat (by rw[lY ha];exact lj hu h1) h2 h3
 |lead h1 h2=>exact .lead (by rw[lY ha];exact lj hu h1) h2
 |tG h0 h1 h2 h3=>simp only[bZ.cX] at ha;exact .tG (by rw[c6 ha.l];exact h0) (by rw[lY ha.r];exact lj hu h1) h2 h3
 |tH h0 h1 h2=>simp only[bZ.cX] at ha;exact .tH (by rw[c6 ha.l];exact h0) (by rw[lY ha.r];exact lj hu h1) h2
theorem jq.ib{A A':ab}{op:bZ}{v:I}(h:jq P A op v)(hc:op.gi=0)(ha:dX A A' op.cX):jq P A' op v:=by
 cases h with
 |pure h=>exact .pure (by rw[xA hc ha];exact h)
 |_=>simp[bZ.gi] at hc
theorem nf{A A':ab}{g:av}(ha:dX A A' g.cX)(h:pass A g):pass A' g:=by
 unfold pass at *
 cases hg:g.guard with
 |none=>trivial
 |some tb=>simp only[hg] at h ⊢;rw[ha tb.1 (by simp[av.cX,hg])];exact h
theorem pw{A A':ab}{g:av}(ha:dX A A' g.cX)(h:ga A g):ga A' g:=by
 unfold ga at *
 cases hg:g.guard with
 |none=>simp only[hg] at h
 |some tb=>simp only[hg] at h ⊢;rw[ha tb.1 (by simp[av.cX,hg])];exact h
theorem av.j4{A A':ab}{g:av}(ha:dX A A' g.cX):dX A A' g.op.cX:=fun k hk=>ha k (List.mem_append_left _ hk)
def kQ(P:Program)(g:av)(A:ab)(v:I):Prop:=(ga A g∧v=.undef)∨(pass A g∧jq P A g.op v)
theorem kQ.step{A:ab}{g:av}{v:I}(h:kQ P g A v):fc P g A (A.aI g.dst v):=by
 rcases h with ⟨h,rfl⟩ | ⟨h,k⟩
 ·exact .skip h
 ·exact .val h k
theorem kQ.cG{A A':ab}{g:av}{v:I}(h:kQ P g A v)(hu:ec A A')(ha:dX A A' g.cX):kQ P g A' v:=by
 rcases h with ⟨h,rfl⟩ | ⟨h,k⟩
 ·exact .inl ⟨pw ha h,rfl⟩
 ·exact .inr ⟨nf ha h,k.cG hu (av.j4 ha)⟩
theorem kQ.ib{A A':ab}{g:av}{v:I}(h:kQ P g A v)(hc:g.op.gi=0)(ha:dX A A' g.cX):kQ P g A' v:=by
 rcases h with ⟨h,rfl⟩ | ⟨h,k⟩
 ·exact .inl ⟨pw ha h,rfl⟩
 ·exact .inr ⟨nf ha h,k.ib hc (av.j4 ha)⟩
theorem fc.yb{A B:ab}{g:av}(h:fc P g A B)(hc:g.op.gi≤2):∃ v,kQ P g A v∧B=A.aI g.dst v:=by
 cases h with
 |skip h=>exact ⟨_,.inl ⟨h,rfl⟩,rfl⟩
 |val h k=>exact ⟨_,.inr ⟨h,k⟩,rfl⟩
 |jf h1 h2 h3 h4=>rcases h3 with h3 | ⟨y,h3,_⟩ <;>(rw[h3] at hc;simp[bZ.gi] at hc)
 |br h1 h2 h3=>obtain ⟨s,x,v,p,b,old,h4,_⟩:=h3;rw[h4] at hc;simp[bZ.gi] at hc
 |hX h1 h3=>rw[h3.1] at hc;omega
theorem pE{A:ab}{a b:Option Nat}{v u:I}(h:∀ d,a=some d→b≠some d):(A.aI a v).aI b u=(A.aI b u).aI a v:=by
 cases a with
 |none=>rfl
 |some d=>cases b with
  |none=>rfl
  |some e =>
   have hne:d≠e:=fun he=>h d rfl (by rw[he])
   simp only[ab.aI,ab.put,ab.mk.injEq,and_true]
   funext k
   by_cases h1:k=e <;>by_cases h2:k=d <;>simp_all
theorem im{A:ab}{d:Option Nat}{v:I} : (A.aI d v).o=A.o:=by cases d <;>rfl
theorem mi{A:ab}{d:Option Nat}{v:I}{l:List Nat}(h:∀ k,d=some k→k∉l):dX A (A.aI d v) l:=by
 cases d with
 |none=>exact fun _ _=>rfl
 |some e =>
  intro k hk
  have:k≠e:=fun he=>h e rfl (he▸hk)
  simp[ab.aI,ab.put,this]
theorem dX.symm{A A':ab}{l:List Nat}(h:dX A A' l):dX A' A l:=fun k hk=>(h k hk).symm
theorem rz.same{A A':ab}{op:bZ}{x:I}(h:rz A op x)(ha:dX A A' op.cX):rz A' op x:=by
 rcases h with h | ⟨y,h1,h2,h3⟩
 ·exact .inl h
 ·subst h1
  have:=c6 (x:=y) ha
  exact .inr ⟨y,rfl,by rw[this];exact h2,by rw[this];exact h3⟩
theorem rA.same{A A':ab}{op:bZ}{n:Nat}{z:ah}(h:rA A op n z)(ho:A'.o=A.o)(ha:dX A A' op.cX):rA A' op n z:=by
 obtain ⟨s,x,v,p,b,old,h1,h2,h3,h4,h5,h6⟩:=h
 subst h1
 simp only[bZ.cX] at ha
 have e1:=c6 ha.l
 have e2:=c6 ha.r
 exact ⟨s,x,v,p,b,old,rfl,by rw[e1];exact h2,by rw[ho];exact h3,h4,by rw[e2];exact h5,by rw[e2];exact h6⟩
theorem ady{g h:av}(hi:mZ g h=true):uC g.op.gi h.op.gi=true∧(∀ d,g.dst=some d→d∉h.cX)∧(∀ d,g.dst=some d→h.dst≠some d)∧(∀ d,h.dst=some d→d∉g.cX):=by
 simp only[mZ,Bool.and_eq_true] at hi
 obtain ⟨⟨h1,h2⟩,h3⟩:=hi
 refine ⟨h1,fun d hd =>?_,fun d hd =>?_,fun d hd =>?_⟩
 ·rw[hd] at h2;simp at h2;exact h2.1
 ·rw[hd] at h2;simp at h2;exact h2.2
 ·rw[hd] at h3;simpa using h3
theorem fc.swap{A B C:ab}{g h:av}(hi:mZ g h=true)(h1:fc P g A B)(h2:fc P h B C):∃ B',fc P h A B'∧fc P g B' C:=by
 obtain ⟨hc,i1,i2,i3⟩:=ady hi
 simp only[uC,Bool.or_eq_true,Bool.and_eq_true,decide_eq_true_eq,beq_iff_eq] at hc
 have hg2:g.op.gi≤2:=by rcases hc with hc | hc <;>omega
 obtain ⟨v,hv,rfl⟩:=h1.yb hg2
 have ag:dX (A.aI g.dst v) A h.cX:=(mi i1).symm
 have cG:ec (A.aI g.dst v) A:=fun n x hx=>by rwa [im] at hx
 cases h2 with
 |skip hn =>
  exact ⟨_,.skip (pw ag hn),by
   rw[pE i2];exact (hv.cG (by intro n x hx;rwa [im]) (mi i3)).step⟩
 |val hp hu =>
  exact ⟨_,.val (nf ag hp) (hu.cG cG (av.j4 ag)),by
   rw[pE i2];exact (hv.cG (by intro n x hx;rwa [im]) (mi i3)).step⟩
 |jf hp hd hm ho =>
  rename_i d x
  rw[im] at ho
  refine ⟨_,.jf (nf ag hp) hd (hm.same (av.j4 ag)) ho,?_⟩
  have e:((A.aI g.dst v).aL d (.box x)).put d (.ptr d [])=((A.aL d (.box x)).put d (.ptr d [])).aI g.dst v:=by
   cases hgd:g.dst with
   |none=>rfl
   |some e =>
    have hne:e≠d:=fun he=>i2 e hgd (by rw[hd,he])
    simp only[ab.aI,ab.put,ab.aL,ab.mk.injEq,and_true]
    funext k
    by_cases h1:k=e <;>by_cases h2:k=d <;>simp_all
  rw[e]
  refine (hv.cG (fun n y hy =>?_) (fun k hk =>?_)).step
  ·have:n≠d:=fun he=>by rw[he,ho] at hy;cases hy
   simp only[ab.put,ab.aL,this,if_false];exact hy
  ·have:k≠d:=fun he=>i3 d hd (he▸hk)
   simp only[ab.put,ab.aL,this,if_false]
 |br hp hd hm =>
  rename_i n z
  have hc0:g.op.gi=0:=by
   obtain ⟨s,x,v,p,b,old,h4,_⟩:=hm
   rcases hc with hc | hc
   ·rw[h4] at hc;exact absurd hc.2 (by simp[bZ.gi])
   ·exact hc.1
  refine ⟨_,.br (nf ag hp) hd (hm.same im.symm (av.j4 ag)),?_⟩
  have e:(A.aI g.dst v).aL n z=(A.aL n z).aI g.dst v:=by cases g.dst <;>rfl
  rw[e]
  exact (kQ.ib (A':=A.aL n z) hv hc0 (fun _ _=>rfl)).step
 |hX hp hm =>
  exfalso
  rw[hm.1] at hc
  omega
theorem a7.swap{A:ab}{g h:av}{rest:List av}(hi:mZ g h=true)(hw:a7 P Y true K (az (g::h::rest) A)):a7 P Y true K (az (h::g::rest) A):=by
 obtain ⟨B,h1,h2⟩:=fc.xc hw
 obtain ⟨C,h3,h4⟩:=fc.xc h2
 obtain ⟨B',h5,h6⟩:=fc.swap hi h1 h3
 exact h5.yf (h6.yf h4)
theorem a7.pZ{g:av} : ∀ {l:List av} {r:List av} {A:ab},(∀ j∈l,mZ j g=true)→a7 P Y true K (az (l++g::r) A)→a7 P Y true K (az (g::(l++r)) A)
 | [],r,A,_,h=>h
 |j::l,r,A,hi,h=>by
  obtain ⟨B,h1,h2⟩:=fc.xc (g:=j) (rest:=l++g::r) h
  have h3:=a7.pZ (l:=l) (r:=r) (fun k hk=>hi k (by simp[hk])) h2
  exact a7.swap (hi j (by simp)) (h1.yf h3)
end
def ej(o:Oper):List Nat:=(o.after.toList.filter fun e=>Region.binds .any e).map (·.on)
def oz(cl:List Nat):List Nat→Nat
 | []=>0
 |k::ks=>(2^k ||| cl.getD k 0) ||| oz cl ks
def rR(on:List (List Nat))(gs:List av)(cl:List Nat):Bool :=
 (List.range gs.length).all fun i=>(on.getD i []).all (fun k=>decide (k<i))&&Nat.beq (cl.getD i 0) (oz cl (on.getD i [])) &&
  (List.range i).all fun j=>(cl.getD i 0).testBit j||mZ (gs.getD j default) (gs.getD i default)
theorem yg{cl:List Nat}{j:Nat} : ∀ {l:List Nat},(oz cl l).testBit j=true→j∈l∨∃ k∈l,(cl.getD k 0).testBit j=true
 | [],h=>by simp[oz] at h
 |k::ks,h=>by
  simp only[oz,Nat.testBit_or,Bool.or_eq_true,Nat.testBit_two_pow,decide_eq_true_eq] at h
  rcases h with (h | h) | h
  ·exact .inl (by simp[h])
  ·exact .inr ⟨k,by simp,h⟩
  ·rcases yg h with h | ⟨m,h1,h2⟩
   ·exact .inl (by simp[h])
   ·exact .inr ⟨m,by simp[h1],h2⟩
structure tN (l:List Oper) (gs:List av):Prop where
 oL:∀ i o,l[i]?=some o→∀ k∈ej o,k<i
 wc:∀ (S:Nat→Prop),(∀ i o,l[i]?=some o→S i→∀ k∈ej o,S k)→∀ i o g j,l[i]?=some o→gs[i]?=some g→(∀ k∈ej o,S k)→j<i→¬ S j→mZ (gs.getD j default) g=true
theorem V9{l:List Oper}{gs:List av}{cl:List Nat}(hlen:gs.length=l.length)(h:rR (l.map ej) gs cl=true):tN l gs:=by
 simp only[rR,List.all_eq_true,List.mem_range] at h
 have bL:∀ i o,l[i]?=some o→∃ g,gs[i]?=some g∧(∀ k∈ej o,k<i)∧(∀ j,(cl.getD i 0).testBit j=true→j∈ej o∨∃ k∈ej o,(cl.getD k 0).testBit j=true)∧∀ j,j<i→(cl.getD i 0).testBit j=true∨mZ (gs.getD j default) g=true:=by
  intro i o ho
  have hi:i<l.length:=(List.getElem?_eq_some_iff.1 ho).1
  have h1:=h i (by omega)
  have hon:(l.map ej).getD i []=ej o:=by simp[List.getD_eq_getElem?_getD,ho]
  have hgi:i<gs.length:=by omega
  have hg:gs[i]?=some gs[i]:=List.getElem?_eq_getElem hgi
  have hgd:gs.getD i default=gs[i]:=by simp[List.getD_eq_getElem?_getD,hg]
  rw[hon,hgd] at h1
  simp only[Bool.and_eq_true,List.all_eq_true,decide_eq_true_eq,Bool.or_eq_true,List.mem_range] at h1
  have hb:=Nat.eq_of_beq_eq_true h1.1.2
  exact ⟨_,hg,h1.1.1,fun j hj=>yg (by rw[←hb];exact hj),h1.2⟩
 refine ⟨fun i o ho=>(bL i o ho).choose_spec.2.1,?_⟩
 intro S hS i o g j ho hg hon hj hnj
 have key:∀ n i o,i≤n→l[i]?=some o→(∀ k∈ej o,S k)→∀ j,(cl.getD i 0).testBit j=true→S j:=by
  intro n
  induction n with
  |zero =>
   intro i o hi ho hon j hj
   obtain ⟨g,_,h1,h2,_⟩:=bL i o ho
   rcases h2 j hj with h | ⟨k,hk,_⟩
   ·exact hon j h
   ·have:=h1 k hk;omega
  |succ n ih =>
   intro i o hi ho hon j hj
   obtain ⟨g,_,h1,h2,_⟩:=bL i o ho
   rcases h2 j hj with h | ⟨k,hk,hjk⟩
   ·exact hon j h
   ·have hki:=h1 k hk
    have hkl:k<l.length:=Nat.lt_trans hki (List.getElem?_eq_some_iff.1 ho).1
    obtain ⟨ok,hok⟩:∃ ok,l[k]?=some ok:=⟨l[k],List.getElem?_eq_getElem hkl⟩
    exact ih k ok (by omega) hok (hS k ok hok (hon k hk)) j hjk
 obtain ⟨g',hg',_,_,h3⟩:=bL i o ho
 rw[hg,Option.some.injEq] at hg'
 subst hg'
 rcases h3 j hj with h | h
 ·exact absurd (key i i o (Nat.le_refl _) ho hon j h) hnj
 ·exact h
def iM(listed:Array Bool)(n:Nat):List Nat:=(List.range n).filter fun i => !listed.getD i true
def n9(gs:List av)(listed:Array Bool)(n:Nat):List av:=(iM listed n).map fun i=>gs.getD i default
theorem LM{i n:Nat}(h:i<n):List.range n=List.range i++i::(List.range (n-(i+1))).map (i+1 + ·):=by
 conv=>lhs;rw[show n=(i+1)+(n-(i+1)) by omega,List.range_add]
 rw[List.range_succ]
 simp
theorem agD{listed:Array Bool}{i n:Nat}(h:i<n)(hs:listed.size=n)(hu:listed.getD i true=false):∃ l1 l2,iM listed n=l1++i::l2∧iM (listed.setIfInBounds i true) n=l1++l2∧∀ j∈l1,j<i∧listed.getD j true=false:=by
 have same:∀ j,j≠i→(listed.setIfInBounds i true).getD j true=listed.getD j true:=fun j hj=>getD_set_ne true (Ne.symm hj)
 have hit:(listed.setIfInBounds i true).getD i true=true:=by simp[hs,h]
 refine ⟨(List.range i).filter fun j => !listed.getD j true,((List.range (n-(i+1))).map (i+1 + ·)).filter fun j => !listed.getD j true,?_,?_,?_⟩
 ·simp only[iM]
  rw[LM h,List.filter_append,List.filter_cons]
  simp only[hu,Bool.not_false,if_true]
 ·simp only[iM]
  rw[LM h,List.filter_append,List.filter_cons]
  simp only[hit,Bool.not_true,Bool.false_eq_true,if_false]
  congr 1
  ·refine List.filter_congr fun j hj =>?_
   rw[same j (by have:=List.mem_range.1 hj;omega)]
  ·refine List.filter_congr fun j hj =>?_
   obtain ⟨k,_,rfl⟩:=List.mem_map.1 hj
   rw[same _ (by omega)]
 ·intro j hj
  simp only[List.mem_filter,List.mem_range,Bool.not_eq_true'] at hj
  exact hj
theorem LS{n:Nat} : iM (Array.replicate n false) n=List.range n:=by
 simp only[iM]
 refine List.filter_eq_self.2 fun i hi =>?_
 have:=List.mem_range.1 hi
 simp[this]
theorem ael(gs:List av):((List.range gs.length).map fun i=>gs.getD i default)=gs:=by
 apply List.ext_getElem
 ·simp
 ·intro i h1 h2
  simp[List.getD_eq_getElem?_getD,h2]
section
variable {c:cK}
theorem mK{P:Program}{n:Nat}{bQ:Array Oper} : ∀ {l:List Oper} {gs:List av},kh P n bQ l=some gs→gs.length=l.length∧∀ (i:Nat) (o:Oper),l[i]?=some o→∃ g,gs[i]?=some g∧oN P n bQ o=some g
 | [],gs,h=>by simp only[kh,Option.some.injEq] at h;subst h;exact ⟨rfl,fun i o ho=>by simp at ho⟩
 |o::l,gs,h=>by
  simp only[kh] at h
  split at h
  case h_2=>cases h
  rename_i g gs' hg hgs
  simp only[Option.some.injEq] at h
  subst h
  obtain ⟨h1,h2⟩:=mK (l:=l) hgs
  refine ⟨by simp[h1],fun i o' ho =>?_⟩
  cases i with
  |zero=>simp only[List.getElem?_cons_zero,Option.some.injEq] at ho;subst ho;exact ⟨g,rfl,hg⟩
  |succ i=>simpa using h2 i o' (by simpa using ho)
theorem acA{K:ab→Prop}{bQ:Array Oper}{Q:Exit→Act→World→Prop}{o:Oper}{g:av}{rest:List av}{A:ab}{a:Act}{w:World}{Kw:Act→World→Prop}(hg:oN c.P c.n bQ o=some g)(hwp:a7 c.P c.Y true K (az (g::rest) A))(hs:ct c A a w)
  (hK:∀ B a' w',a7 c.P c.Y true K (az rest B)→ct c B a' w'→Kw a' w'):if Region.wanted o (yielded bQ a.tmps) then o.wpIn c.bn 9 c.P a w Kw Q else (∀ f,o.about c.P w a.eval=some f→c.bn.fn f)∧Kw (a.put o.dst undef) w:=by
 obtain ⟨h1,h2,h3,h4⟩:=uo hg
 have step:a7 c.P c.Y true K (aY A g.dst g.op rest (az rest))→o.wpIn c.bn 9 c.P a w Kw Q:=fun h =>
  vR h1 h2.symm (by rw[h2];exact h3) h hs (fun B a' w' hw hs'=>hK B a' w' hw hs')
 simp only[az] at hwp
 rcases h4 with ⟨h5,h6⟩ | ⟨j,b,t,h5,h6,h7⟩
 ·rw[h6] at hwp
  have hw:Region.wanted o (yielded bQ a.tmps)=true:=by simp[Region.wanted,h5]
  rw[hw,if_pos rfl]
  exact step hwp
 ·rw[h7] at hwp
  simp only at hwp
  split at hwp
  ·rename_i b' hb'
   rw[vY hs h5 h6 hb']
   split at hwp
   ·rename_i hbb
    subst hbb
    simp only[BEq.rfl,if_true]
    exact step hwp
   ·rename_i hbb
    have:(b'==b)=false:=by simpa using hbb
    rw[this]
    simp only[Bool.false_eq_true,if_false]
    exact ⟨fun f _=>nI c f,hK _ _ _ hwp (by rw[h2];exact hs.pD h3)⟩
  ·rename_i hb'
   rw[vZ hs h5 h6 hb']
   simp only[Bool.false_eq_true,if_false]
   exact ⟨fun f _=>nI c f,hK _ _ _ hwp (by rw[h2];exact hs.pD h3)⟩
  ·cases hwp
theorem OK{K:ab→Prop}{bQ:Array Oper}{gs:List av}{Q:Exit→Act→World→Prop}(hQ:∀ B a w,K B→ct c B a w→Q .normal a w)(hgs:kh c.P c.n bQ bQ.toList=some gs)(hd:tN bQ.toList gs) :
  ∀ (fuel:Nat) (listed:Array Bool) (A:ab) (a:Act) (w:World),listed.size=bQ.size→(∀ i o,bQ.toList[i]?=some o→listed.getD i false=true→∀ k∈ej o,listed.getD k false=true)→(iM listed bQ.size).length≤fuel →
   a7 c.P c.Y true K (az (n9 gs listed bQ.size) A)→ct c A a w→wpAnyIn c.bn 9 c.P .any bQ Q fuel listed a w:=by
 obtain ⟨hlen,hat⟩:=mK hgs
 have onOf_mem:∀ (o:Oper) (e:Edge),e∈o.after→Region.binds .any e=true→e.on∈ej o:=fun o e he hb=>by
  simp only[ej,List.mem_map,List.mem_filter]
  exact ⟨e,⟨by simpa using he,hb⟩,rfl⟩
 have of_onOf:∀ (o:Oper) (k:Nat),k∈ej o→∃ e∈o.after,Region.binds .any e=true∧e.on=k:=fun o k hk=>by
  simp only[ej,List.mem_map,List.mem_filter] at hk
  obtain ⟨e,⟨h1,h2⟩,h3⟩:=hk
  exact ⟨e,by simpa using h1,h2,h3⟩
 have last:∀ (listed:Array Bool) (A:ab) (a:Act) (w:World),listed.size=bQ.size→Region.ready .any bQ listed=[]→a7 c.P c.Y true K (az (n9 gs listed bQ.size) A)→ct c A a w→Q .normal a w:=by
  intro listed A a w hsz hr hwp hs
  have hnone:iM listed bQ.size=[]:=by
   have all:∀ n,∀ i,i<n→i<bQ.size→listed.getD i true=true:=by
    intro n
    induction n with
    |zero=>intro i hi;omega
    |succ n ih =>
     intro i hi his
     cases hb:listed.getD i true with
     |true=>rfl
     |false =>
      exfalso
      have ho:bQ[i]?=some bQ[i]:=Array.getElem?_eq_getElem his
      have:i∈Region.ready .any bQ listed:=mem_ready.2 ⟨hb,bQ[i],ho,fun e he hbd=>by
       have hlt:=hd.oL i bQ[i] (by simp) e.on (onOf_mem _ e he hbd)
       have h1:=ih e.on (by omega) (by omega)
       have h2:e.on<listed.size:=by omega
       simpa[Array.getD_eq_getD_getElem?,h2] using h1⟩
      rw[hr] at this
      cases this
   simp only[iM]
   refine List.filter_eq_nil_iff.2 fun i hi =>?_
   have:=all (i+1) i (by omega) (List.mem_range.1 hi)
   simp only[this,Bool.not_true,Bool.false_eq_true,not_false_eq_true]
  simp only[n9,hnone,List.map_nil,az] at hwp
  cases hwp with
  |done hk=>exact hQ A a w hk hs
 intro fuel
 induction fuel with
 |zero =>
  intro listed A a w hsz hcl hcnt hwp hs
  have hnone:iM listed bQ.size=[]:=List.length_eq_zero_iff.1 (by omega)
  have hr:Region.ready .any bQ listed=[]:=by
   refine List.eq_nil_iff_forall_not_mem.2 fun i hi =>?_
   obtain ⟨h1,o,ho,_⟩:=mem_ready.1 hi
   have:i∈iM listed bQ.size:=by
    simp only[iM,List.mem_filter,List.mem_range,h1,Bool.not_false,and_true]
    exact (Array.getElem?_eq_some_iff.1 ho).1
   rw[hnone] at this
   cases this
  exact ⟨hr,last listed A a w hsz hr hwp hs⟩
 |succ fuel ih =>
  intro listed A a w hsz hcl hcnt hwp hs
  refine ⟨fun hr=>last listed A a w hsz hr hwp hs,fun i hi =>?_⟩
  obtain ⟨hun,o,ho,hall⟩:=mem_ready.1 hi
  have hin:i<bQ.size:=(Array.getElem?_eq_some_iff.1 ho).1
  obtain ⟨l1,l2,e1,e2,hl1⟩:=agD hin hsz hun
  have hol:bQ.toList[i]?=some o:=by simpa using ho
  obtain ⟨g,hgi,hcg⟩:=hat i o hol
  have hon:∀ k∈ej o,listed.getD k false=true:=fun k hk=>by
   obtain ⟨e,h1,h2,h3⟩:=of_onOf o k hk
   exact h3▸hall e h1 h2
  have hgd:gs.getD i default=g:=by simp[List.getD_eq_getElem?_getD,hgi]
  have hwp':a7 c.P c.Y true K (az (g::n9 gs (listed.setIfInBounds i true) bQ.size) A):=by
   simp only[n9,e1,List.map_append,List.map_cons,hgd] at hwp
   simp only[n9,e2,List.map_append]
   refine a7.pZ (fun j hj =>?_) hwp
   obtain ⟨k,hk,rfl⟩:=List.mem_map.1 hj
   obtain ⟨hk1,hk2⟩:=hl1 k hk
   refine hd.wc (fun k=>listed.getD k false=true) hcl i o g k hol hgi hon hk1 ?_
   have hks:k<listed.size:=by omega
   simp[Array.getD_eq_getD_getElem?,hks] at hk2 ⊢
   exact hk2
  unfold wpOpIn
  rw[ho]
  refine acA hcg hwp' hs fun B a' w' hw hs'=>ih _ B a' w' (by simpa using hsz) ?_ ?_ hw hs'
  ·intro m om hom hm k hk
   by_cases hmi:m=i
   ·subst hmi
    rw[hol,Option.some.injEq] at hom
    subst hom
    exact getD_set_true (hon k hk)
   ·rw[getD_set_ne false (Ne.symm hmi)] at hm
    exact getD_set_true (hcl m om hom hm k hk)
  ·have:(iM listed bQ.size).length=(iM (listed.setIfInBounds i true) bQ.size).length+1:=by
    rw[e1,e2];simp;omega
   omega
theorem agC{K:ab→Prop}{bQ:Array Oper}{gs:List av}{Q:Exit→Act→World→Prop}{id:Nat}{A:ab}{a:Act}{w:World}(hm:c.P.follows .mixedOrders=true)(hQ:∀ B a w,K B→ct c B a w→Q .normal a w)(hgs:kh c.P c.n bQ bQ.toList=some gs)(hd:tN bQ.toList gs)
  (hwp:a7 c.P c.Y true K (az gs A)) (hs:ct c A a w):(Code.region id bQ true).wpIn c.bn 9 c.P Q a w:=by
 refine wpIn_region_any hm (OK hQ hgs hd bQ.size (Array.replicate bQ.size false) A a _ (by simp) ?_ ?_ ?_ ?_)
 ·intro i o _ h
  exfalso
  simp only[Array.getD_eq_getD_getElem?,Array.getElem?_replicate] at h
  split at h <;>simp at h
 ·rw[LS];simp
 ·have hl:=(mK hgs).1
  simp only[Array.length_toList] at hl
  simp only[n9,LS]
  rw[←hl,ael]
  exact hwp
 ·obtain ⟨D,E,hs⟩:=hs
  exact ⟨D,E,hs.grow (w' := { w with drawn:=w.drawn+1 }) ⟨rfl,rfl,rfl,Nat.le_refl _,fun _ _=>rfl⟩ (fun _ _ h=>h) (fun _ _ h _=>h) (fun b o h=>hs.c9 b o h)⟩
end
inductive aP where
 |ca (on:Option (List (List Nat))) (gs:List av)
 |seq (x y:aP)
 |cond (b:aG) (x y:aP)
 |block (id:Nat) (x:aP)
 |loop (x:aP)
 |exit (id:Nat)
 |ret
 |skip
 |scope (x:aP)
 |label
 |kF (f:aG) (ps:List Nat) (x y:aP)
 deriving Inhabited
def e9(P:Program)(n:Nat):Code→Option aP
 | .region _ bQ draw=>match kh P n bQ bQ.toList with
  |some gs=>if (!draw||P.follows .mixedOrders)=true then some (.ca (bif draw then some (bQ.toList.map ej) else none) gs) else none
  |none=>none
 | .seq x y=>match e9 P n x,e9 P n y with
  |some x,some y=>some (.seq x y)
  |_,_=>none
 | .cond b x y=>match bx P 0 b,e9 P n x,e9 P n y with
  |some b,some x,some y=>some (.cond b x y)
  |_,_,_=>none
 | .block id x=>match e9 P n x with
  |some x=>some (.block id x)
  |none=>none
 | .loop x=>match e9 P n x with
  |some x=>some (.loop x)
  |none=>none
 | .exit id=>some (.exit id)
 | .ret=>some .ret
 | .skip=>some .skip
 | .scope x=>match e9 P n x with
  |some x=>some (.scope x)
  |none=>none
 | .label _=>some .label
 | .rangeFunc f ps x y=>match bx P 0 f,e9 P n x,e9 P n y with
  |some f,some x,some y=>if (ps.toList.all fun p=>p<n)=true then some (.kF f ps.toList x y) else none
  |_,_,_=>none
 |_=>none
def IS(c:cK)(Q:Exit→ab→Prop):Exit→Act→World→Prop:=fun e a w=>∃ A,Q e A∧ct c A a w
def U(c:cK)(x:aP)(Q:Exit→ab→Prop)(A:ab):Prop :=
 ∀ code,e9 c.P c.n code=some x→∀ a w,ct c A a w→code.wpIn c.bn 9 c.P (IS c Q) a w
def ao(k:ab→Prop)(Q:Exit→ab→Prop):Exit→ab→Prop
 | .normal,A=>k A
 |e,A=>Q e A
def bH(id:Nat)(Q:Exit→ab→Prop):Exit→ab→Prop
 | .exit id',A=>if id'=id then Q .normal A else Q (.exit id') A
 |e,A=>Q e A
section
variable {c:cK} {A:ab} {Q:Exit→ab→Prop}
def VQ(d:Option (List (List Nat)))(gs:List av)(cl:List Nat):Bool:=match d with
 |none=>true
 |some on=>rR on gs cl
theorem U.ca{d:Option (List (List Nat))}{gs:List av}{cl:List Nat}(hd:VQ d gs cl=true)(h:∀ K:ab→Prop,(∀ B,Q .normal B→K B)→a7 c.P c.Y d.isSome K (az gs A)):U c (.ca d gs) Q A:=by
 intro code hc a w hs
 cases code <;>simp only[e9] at hc <;>try (first | (cases hc;done) | ((repeat' split at hc) <;>cases hc;done))
 rename_i id bQ draw
 split at hc
 ·rename_i gs' hgs
  split at hc
  case isFalse=>cases hc
  rename_i hok
  simp only[Option.some.injEq,aP.ca.injEq] at hc
  obtain ⟨rfl,rfl⟩:=hc
  cases draw with
  |false=>exact wpIn_region_list (sh (K:=Q .normal) (fun B a w hk hs=>⟨B,hk,hs⟩) bQ.toList gs' A a w hgs (h _ fun _ hb=>hb) hs)
  |true =>
   simp only[Bool.not_true,Bool.false_or] at hok
   exact agC (K:=Q .normal) hok (fun B a w hk hs=>⟨B,hk,hs⟩) hgs (V9 (mK hgs).1 hd) (h _ fun _ hb=>hb) hs
 ·cases hc
theorem U.seq{x y:aP}(h:U c x (ao (fun B=>U c y Q B) Q) A):U c (.seq x y) Q A:=by
 intro code hc a w hs
 cases code <;>simp only[e9] at hc <;>try (first | (cases hc;done) | ((repeat' split at hc) <;>cases hc;done))
 rename_i cx cy
 split at hc
 ·rename_i x' y' hx hy
  simp only[Option.some.injEq,aP.seq.injEq] at hc
  obtain ⟨rfl,rfl⟩:=hc
  refine wpIn_seq (wpIn_mono (h cx hx a w hs) ?_)
  rintro e a' w' ⟨B,hq,hs'⟩
  cases e <;>simp only[ao,Exit.then] at * <;>first | exact hq cy hy a' w' hs' | exact ⟨B,hq,hs'⟩
 ·cases hc
theorem U.cond{b:aG}{x y:aP}{t:Bool}(hb:ae A b=.bool t)(h1:t=true→U c x Q A)(h2:t=false→U c y Q A):U c (.cond b x y) Q A:=by
 intro code hc a w hs
 cases code <;>simp only[e9] at hc <;>try (first | (cases hc;done) | ((repeat' split at hc) <;>cases hc;done))
 rename_i cb cx cy
 split at hc
 ·rename_i b' x' y' hb' hx hy
  simp only[Option.some.injEq,aP.cond.injEq] at hc
  obtain ⟨rfl,rfl,rfl⟩:=hc
  obtain ⟨D,E,hs'⟩:=hs
  have hv:=b8 hs' hb'
  rw[hb] at hv
  exact wpIn_cond_split (lH hv) (fun ht=>h1 ht cx hx a w ⟨D,E,hs'⟩) (fun ht=>h2 ht cy hy a w ⟨D,E,hs'⟩)
 ·cases hc
theorem U.block{id:Nat}{x:aP}(h:U c x (bH id Q) A):U c (.block id x) Q A:=by
 intro code hc a w hs
 cases code <;>simp only[e9] at hc <;>try (first | (cases hc;done) | ((repeat' split at hc) <;>cases hc;done))
 rename_i id' cx
 split at hc
 ·rename_i x' hx
  simp only[Option.some.injEq,aP.block.injEq] at hc
  obtain ⟨rfl,rfl⟩:=hc
  refine wpIn_block (wpIn_mono (h cx hx a w hs) ?_)
  rintro e a' w' ⟨B,hq,hs'⟩
  cases e <;>simp only[bH,Exit.inBlock] at * <;>first
   |exact ⟨B,hq,hs'⟩
   |(split at hq
     ·rename_i he;rw[if_pos he];exact ⟨B,hq,hs'⟩
     ·rename_i he;rw[if_neg he];exact ⟨B,hq,hs'⟩)
 ·cases hc
theorem U.exit{id:Nat}(h:Q (.exit id) A):U c (.exit id) Q A:=by
 intro code hc a w hs
 cases code <;>simp only[e9] at hc <;>try (first | (cases hc;done) | ((repeat' split at hc) <;>cases hc;done))
 simp only[Option.some.injEq,aP.exit.injEq] at hc
 subst hc
 exact wpIn_exit ⟨A,h,hs⟩
theorem U.ret(h:Q .ret A):U c .ret Q A:=by
 intro code hc a w hs
 cases code <;>simp only[e9] at hc <;>try (first | (cases hc;done) | ((repeat' split at hc) <;>cases hc;done))
 exact wpIn_ret ⟨A,h,hs⟩
theorem U.skip(h:Q .normal A):U c .skip Q A:=by
 intro code hc a w hs
 cases code <;>simp only[e9] at hc <;>try (first | (cases hc;done) | ((repeat' split at hc) <;>cases hc;done))
 exact wpIn_skip ⟨A,h,hs⟩
theorem B6{p:Nat→Prop}(h:∃ n,p n):∃ n,p n∧∀ m,p m→n≤m:=by
 obtain ⟨n,hn⟩:=h
 induction n using Nat.strongRecOn with
 |_ n ih =>
  by_cases hm:∃ m,m<n∧p m
  ·obtain ⟨m,h1,h2⟩:=hm
   exact ih m h1 h2
  ·exact ⟨n,hn,fun m hp=>Nat.le_of_not_lt fun hlt=>hm ⟨m,hlt,hp⟩⟩
open Classical in
noncomputable def least(p:Nat→Prop):Nat:=if h:∃ n,p n then (B6 h).choose else 0
theorem IL{p:Nat→Prop}(h:∃ n,p n):p (least p)∧∀ m,p m→least p≤m:=by
 simp only[least,dif_pos h]
 exact (B6 h).choose_spec
theorem ahU{bn:Fence}{N:Nat}{P:Program}{code:Code}{QQ:Exit→Act→World→Prop}(ai:Nat→Act→World→Prop)(round:∀ n a w,ai n a w→code.wpIn bn N P (Exit.then (fun a' w'=>∃ m,m<n∧ai m a' w') QQ) a w) :
  ∀ n a w,ai n a w→(Code.loop code).wpIn bn N P QQ a w:=by
 intro n a w h
 refine wpIn_loop (fun a w=>∃ n,ai n a w) (fun a w=>least fun n=>ai n a w) ⟨n,h⟩ ?_
 intro a w hI
 have hm:=(IL hI).1
 refine wpIn_mono (round _ a w hm) ?_
 intro e a' w' hq
 cases e <;>simp only[Exit.then] at hq ⊢ <;>try exact hq
 obtain ⟨m,h1,h2⟩:=hq
 exact ⟨⟨m,h2⟩,Nat.lt_of_le_of_lt ((IL ⟨m,h2⟩).2 m h2) h1⟩
def aE(A B:ab):Prop:=∀ (c:cK) (a:Act) (w:World),ct c A a w→ct c B a w
theorem aE.refl(A:ab):aE A A:=fun _ _ _ h=>h
theorem aE.trans{A B C:ab}(h:aE A B)(k:aE B C):aE A C:=fun c a w hs=>k c a w (h c a w hs)
theorem U.sub{x:aP}{B:ab}(hsub:aE A B)(h:U c x Q B):U c x Q A:=fun code hc a w hs=>h code hc a w (hsub c a w hs)
theorem U.mono{x:aP}{Q':Exit→ab→Prop}(h:U c x Q A)(hq:∀ e B,Q e B→Q' e B):U c x Q' A :=
 fun code hc a w hs=>wpIn_mono (h code hc a w hs) fun e a' w' ⟨B,h1,h2⟩=>⟨B,hq e B h1,h2⟩
theorem U.loop{σ:Type}(S:σ→ab)(C:σ→Prop)(m:σ→Nat)(s0:σ){x:aP}(h0:C s0)(hsub:aE A (S s0))
  (round:∀ s,C s→U c x (ao (fun B=>∃ s',C s'∧m s'<m s∧aE B (S s')) Q) (S s)):U c (.loop x) Q A:=by
 intro code hc a w hs
 cases code <;>simp only[e9] at hc <;>try (first | (cases hc;done) | ((repeat' split at hc) <;>cases hc;done))
 rename_i cx
 split at hc
 ·rename_i x' hx
  simp only[Option.some.injEq,aP.loop.injEq] at hc
  subst hc
  refine ahU (fun n a w=>∃ s,C s∧m s=n∧ct c (S s) a w) ?_ (m s0) a w ⟨s0,h0,rfl,hsub c a w hs⟩
  rintro n a w ⟨s,hC,rfl,hs⟩
  refine wpIn_mono (round s hC cx hx a w hs) ?_
  rintro e a' w' ⟨B,hq,hs'⟩
  cases e <;>simp only[ao,Exit.then] at * <;>first
   |exact ⟨B,hq,hs'⟩
   |(obtain ⟨s',h1,h2,h3⟩:=hq;exact ⟨m s',h2,s',h1,rfl,h3 c a' w' hs'⟩)
 ·cases hc
end
inductive aZ where
 |tmp (t:Nat)
 |cell (a:Nat) (s:Option Nat)
def iB(P:Program):List ResultVar→Option (List aZ)
 | []=>some []
 | .tmp t::l=>(iB P l).map (.tmp t :: ·)
 | .cell a t::l=>match fC P t,iB P l with
  |some s,some l=>some (.cell a s::l)
  |_,_=>none
def tn(A:ab):aZ→Option I
 | .tmp t=>a6 true A (A.t t)
 | .cell a s=>match cz A (A.t a) with
  |some x=>if bU s x then a6 true A x else none
  |none=>none
def eV(A:ab):List aZ→Option (List I)
 | []=>some []
 |r::rs=>match tn A r,eV A rs with
  |some x,some xs=>some (x::xs)
  |_,_=>none
def kD:List I→I
 | [x]=>x
 |xs=>.tuple xs
def oy(args:List I):ab:=⟨fun t=>args.getD t .undef,fun _=>none⟩
def jl(rs:List aZ)(r:I):Exit→ab→Prop
 | .ret,A=>∃ xs,eV A rs=some xs∧kD xs=r
 | .normal,A=>∃ xs,eV A rs=some xs∧kD xs=r
 |_,_=>False
def pN(args:List I)(os:List (Nat×ah)):ab:=⟨fun t=>args.getD t .undef,aj os⟩
theorem ahy{P:Program}{n:Nat}{w:World}{D:aH}{E:aS}{Y:Value→List I→List (Nat×ah)→cS→Prop}{args:List I}{os:List (Nat×ah)}{vs:List Value}(hD:∀ b o,D b o→b<w.heap.size)(ho:kO (fun _=>True) w D E (aj os))
  (hv:aD w D E args vs) (hn:vs.length≤n) (hos:∀ m,al os m=true→n≤m∧1000000≤m) (hy:oF ⟨P,w,D,n,di E,E,Y,none⟩) :
  aN ⟨P,w,D,n,di E,E,Y,none⟩ (pN args os) { tmps:=vs.toArray++Array.replicate (n-vs.toArray.size) undef,defers:=[] } w D E:=by
 refine ⟨by simp;omega,⟨[],rfl,.nil,fun _ h=>by simp at h⟩,fun t =>?_,fw.refl _ _,fun _ _ h _=>h,hD,fun m =>?_,ho.cN,fun m e h=>.inr ⟨e,h,.refl e⟩,fun m hm =>?_,fun _ _ h=>h,hy,.refl _ _⟩
 ·have key:∀ (args:List I) (vs:List Value) (t:Nat),aD w D E args vs→aR w D E (args.getD t .undef) (vs.getD t undef):=by
   intro args
   induction args with
   |nil=>intro vs t h;simp only[aD] at h;subst h;simp[aR]
   |cons x xs ih =>
    intro vs t h
    simp only[aD] at h
    obtain ⟨v,rest,cs,rfl,h1,h2,h3⟩:=h
    cases t with
    |zero=>simpa using mb h1 h2
    |succ t=>simpa using ih rest t h3
  have:=key args vs t hv
  have e:(vs.toArray++Array.replicate (n-vs.toArray.size) undef).getD t undef=vs.getD t undef:=by
   simp only[Array.getD_eq_getD_getElem?,List.getD_eq_getElem?_getD]
   rcases Nat.lt_or_ge t vs.length with h | h
   ·rw[Array.getElem?_append_left (by simpa using h)]
    simp
   ·rw[Array.getElem?_append_right (by simpa using h),List.getElem?_eq_none h]
    simp only[Array.getElem?_replicate]
    split <;>rfl
  simp only[pN]
  rw[e]
  exact this
 ·have h:=ho.bR m
  simp only[pN]
  cases hx:aj os m with
  |none=>rw[hx] at h;exact h
  |some x =>
   rw[hx] at h
   cases x with
   |box x =>
    obtain ⟨b,cs,T,k1,_,k3⟩:=h
    exact ⟨b,cs,T,k1,.inr ⟨m,_,k1,rfl⟩,k3⟩
   |bS T sz es =>
    obtain ⟨aA,k1,k2,k3⟩:=h
    refine ⟨aA,k1,k2,?_⟩
    cases aA with
    |none=>exact k3
    |some bc =>
     obtain ⟨b,cap⟩:=bc
     obtain ⟨cs,pre,rest,_,k4⟩:=k3
     exact ⟨cs,pre,rest,.inr ⟨m,_,k1,rfl⟩,k4⟩
   |cO T xs =>
    obtain ⟨aA,k1,k2,k3⟩:=h
    refine ⟨aA,k1,k2,?_⟩
    cases aA with
    |none=>exact k3
    |some bc =>
     obtain ⟨b,cap⟩:=bc
     obtain ⟨cs,rest,_,k4⟩:=k3
     exact ⟨cs,rest,.inr ⟨m,_,k1,rfl⟩,k4⟩
   |dB x =>
    obtain ⟨b,k1,_,k3⟩:=h
    exact ⟨b,k1,.inr ⟨m,_,k1,rfl⟩,k3⟩
   |cu ks vs =>
    obtain ⟨b,es,ck,k1,_,k3⟩:=h
    exact ⟨b,es,ck,k1,.inr ⟨m,_,k1,rfl⟩,k3⟩
   |it ks vs left cur =>
    obtain ⟨r,b,es,ck,si,se,la,k1,_,k3⟩:=h
    exact ⟨r,b,es,ck,si,se,la,k1,.inr ⟨m,_,k1,rfl⟩,k3⟩
 ·have h:=ho.bR m
  refine hos m ?_
  cases hx:aj os m with
  |none=>rw[hx] at h;exact absurd h hm
  |some x=>simp[al,hx]
def qS(tmps:Array Value):ResultVar→Sem Value
 | .tmp t=>pure (tmps.getD t undef)
 | .cell a t=>do loadVar t (←asAddr (tmps.getD a undef))
theorem agO(fn:Func)(tmps:Array Value):results fn tmps=(do
  let vs ←fn.results.mapM (qS tmps)
  pure (if h:vs.size=1 then vs[0] else .tuple vs)):=by
 unfold results
 rfl
def td(A:ab):aZ→Option I
 | .tmp t=>some (A.t t)
 | .cell a s=>match cz A (A.t a) with
  |some x=>if bU s x then some x else none
  |none=>none
def mq(A A0:ab)(os:List (Nat×ah)):List aZ→List I→Prop
 | [],[]=>True
 |r::rs,y::ys=>(∃ x,td A r=some x∧((y=x∧x.b9=true∧x.only (al os)=true)∨a6 true A0 x=some y))∧mq A A0 os rs ys
 |_,_=>False
def ab.kI(A:ab)(os:List (Nat×ah)):ab:=⟨A.t,fun n=>if al os n then none else A.o n⟩
def kP(rs:List aZ)(post:cS)(A:ab):Prop :=
 ∃ (os:List (Nat×ah)) (xs:List I),(∀ n x,aj os n=some x→A.o n=some x∧x.only (al os)=true∧x.eL=true)∧mq A (A.kI os) os rs xs∧post (kD xs) os
def nh(rs:List aZ)(post:cS):Exit→ab→Prop
 | .ret,A=>kP rs post A
 | .normal,A=>kP rs post A
 |_,_=>False
theorem xL{c:cK}{A:ab}{a:Act}{w:World}{D:aH}{E:aS}(hs:aN c A a w D E){A0:ab}(hu:ec A0 A){os:List (Nat×ah)}{D':aH}{E':aS}(hw:gY true A0 D E D')(aq:∀ n,al os n=true→E' n=E n)(hE':∀ n,al os n=false→E' n=none) :
  ∀ (rs:List ResultVar) (ls:List aZ) (xs:List I),iB c.P rs=some ls→mq A A0 os ls xs→∃ vs:List Value,(rs.mapM (qS a.tmps)).run c.P w=.ok vs w∧aD w D' E' xs vs
 | [],ls,xs,hc,hr=>by
  simp only[iB,Option.some.injEq] at hc
  subst hc
  cases xs with
  |nil=>exact ⟨[],by simp,by simp[aD]⟩
  |cons x xs=>simp[mq] at hr
 |r::rs,ls,xs,hc,hr=>by
  have hl:dE w D E' w D' E':=⟨hw.cY,fun _ _ _ _ h=>h,fun _ _ _ h=>h,fun _ aA l h=>⟨aA,l,h,Nat.le_refl _,fun _=>rfl⟩,fun _ _ h=>h,fun _ _ h=>h,fun _ _ _ _ h=>h⟩
  have fin1:∀ {x y:I} {v:Value},aR w D E x v→((y=x∧x.b9=true∧x.only (al os)=true)∨a6 true A0 x=some y)→∃ cs,bB y v cs∧af w D' E' y cs:=by
   intro x y v hv hf
   rcases hf with ⟨rfl,h1,h2⟩ | hf
   ·have h3:=aR.bC hl (aR.dn aq h2 hv)
    cases y <;>simp only[aR] at h3 <;>first | (simp[I.b9] at h1;done) | exact h3
   ·have h1:aD w D E [x] [v]:=my [x] [v] (.cons hv .nil) (by
     intro z hz
     simp only[List.mem_singleton] at hz
     subst hz
     cases z <;>simp_all[a6,I.b9])
    have h2:=l5 (E':=E') hs hu hw [x] [y] [v] h1 (by simp[bY,hf])
    simp only[aD] at h2
    obtain ⟨v',rest,cs,e,k1,k2,_⟩:=h2
    simp only[List.cons.injEq] at e
    obtain ⟨rfl,_⟩:=e
    exact ⟨cs,k1,k2⟩
  cases r with
  |tmp t =>
   simp only[iB,Option.map_eq_some_iff] at hc
   obtain ⟨ls',hl',rfl⟩:=hc
   cases xs with
   |nil=>simp[mq] at hr
   |cons y ys =>
    simp only[mq] at hr
    obtain ⟨⟨x,h1,h2⟩,h3⟩:=hr
    simp only[td,Option.some.injEq] at h1
    subst h1
    obtain ⟨vs,k1,k2⟩:=xL hs hu hw aq hE' rs ls' ys hl' h3
    obtain ⟨cs,k3,k4⟩:=fin1 (hs.eb t) h2
    refine ⟨a.tmps.getD t undef::vs,?_,?_⟩
    ·simp only[List.mapM_cons,Sem.run_bind,qS,Sem.run_pure,Result.andThen_ok,k1]
    ·simp only[aD];exact ⟨_,vs,cs,rfl,k3,k4,k2⟩
  |cell ad t =>
   simp only[iB] at hc
   split at hc
   ·rename_i s ls' hk hl'
    simp only[Option.some.injEq] at hc
    subst hc
    cases xs with
    |nil=>simp[mq] at hr
    |cons y ys =>
     simp only[mq] at hr
     obtain ⟨⟨x,h1,h2⟩,h3⟩:=hr
     obtain ⟨vs,k1,k2⟩:=xL hs hu hw aq hE' rs ls' ys hl' h3
     simp only[td] at h1
     split at h1
     ·rename_i z hz
      split at h1
      ·rename_i hok
       simp only[Option.some.injEq] at h1
       subst h1
       obtain ⟨b,off,cs,q1,q2,q3⟩:=hs.zc (hs.eb ad) hz
       obtain ⟨v,q4,q5⟩:=Ma hk hok q2 q3
       obtain ⟨cs',k3,k4⟩:=fin1 q5 h2
       refine ⟨v::vs,?_,?_⟩
       ·have e:(qS a.tmps (.cell ad t)).run c.P w=.ok v w:=by
         simp only[qS,Sem.run_bind,q1,asAddr,Sem.run_pure,Result.andThen_ok,q4]
        simp only[List.mapM_cons,Sem.run_bind,Sem.run_pure,Result.andThen_ok,k1,e]
       ·simp only[aD];exact ⟨_,vs,cs',rfl,k3,k4,k2⟩
      ·cases h1
     ·cases h1
   ·cases hc
theorem aN.S4{c:cK}{A:ab}{a:Act}{w:World}{D:aH}{E:aS}(h:aN c A a w D E){B:Nat}{ds:List Deferred}(hd:a.defers = { target:=.collected B,args := #[] } :: ds) :
  w.heap[B]?=some (.deferred (some []))∧aN c A { a with defers:=ds } (w.putObj B (.deferred none)) D E:=by
 obtain ⟨Bs,h1,h2,h3⟩:=h.eK
 rw[hd] at h1
 cases Bs with
 |nil=>cases h1
 |cons B' Bs =>
  simp only[List.map_cons,List.cons.injEq,Deferred.mk.injEq,Target.collected.injEq,and_true] at h1
  obtain ⟨rfl,rfl⟩:=h1
  have hB:=h3 B (by simp)
  have hlt:B<w.heap.size:=(Array.getElem?_eq_some_iff.1 hB.2).1
  have hl:dE w D E (w.putObj B (.deferred none)) D E :=
   ⟨fun _ _ h=>h,fun b o v _ hv=>uy hB.2 rfl hv,fun _ _ _ h=>h,fun _ aA l h=>⟨aA,l,h,Nat.le_refl _,fun _=>rfl⟩,fun _ _ h=>h,fun _ _ h=>h,fun b es ck _ hm=>(World.putObj_heap_other (fun e=>by rw[e,hB.2] at hm;cases hm)).trans hm⟩
  have hne:∀ {b:Nat} {cs:Array Value} {T:TypeId},w.heap[b]?=some (.cells cs T (0,0))→(w.putObj B (.deferred none)).heap[b]?=w.heap[b]?:=fun {b cs T} hb =>
   World.putObj_heap_other (fun e=>by rw[e,hB.2] at hb;cases hb)
  refine ⟨hB.2,h.sz,⟨Bs,rfl,(List.nodup_cons.1 h2).2,fun B2 hB2=>⟨(h3 B2 (by simp[hB2])).1,?_⟩⟩,fun t=>aR.bC hl (h.eb t),h.dN.trans ⟨rfl,rfl,rfl,by simp,fun k hk =>?_⟩,h.cY,fun b o hd=>by have:=h.c9 b o hd;simpa using this,fun n =>?_,h.cN,h.dP,h.eU,h.cG,h.eY,h.kL hl⟩
  ·rw[World.putObj_heap_other (fun e=>(List.nodup_cons.1 h2).1 (by rw[←e];exact hB2))]
   exact (h3 B2 (by simp[hB2])).2
  ·exact World.putObj_heap_other (fun e=>hk (e▸.inl hB.1))
  ·refine (h.bR n).bC hl rfl fun e b he hb=>⟨?_,fun _ h=>h⟩
   have hob:=h.bR n
   unfold cZ at hob
   split at hob
   ·rw[hob] at he;cases he
   ·obtain ⟨b',cs,T,k1,_,k3,_⟩:=hob
    rw[k1,Option.some.injEq] at he
    subst he
    simp only[bO.aA,Option.some.injEq] at hb
    subst hb
    exact hne k3
   ·obtain ⟨aA,k1,_,k3⟩:=hob
    rw[k1,Option.some.injEq] at he
    subst he
    split at k3
    ·simp[bO.aA] at hb
    ·obtain ⟨cs,pre,rest,_,k5,_⟩:=k3
     simp only[bO.aA,Option.some.injEq] at hb
     subst hb
     exact hne k5
   ·obtain ⟨b',k1,_,k3,k4,_⟩:=hob
    rw[k1,Option.some.injEq] at he
    subst he
    simp only[bO.aA,Option.some.injEq] at hb
    subst hb
    exact World.putObj_heap_other (fun e=>by rw[e,hB.2] at k3;cases k3;cases k4)
   ·obtain ⟨b',es,ck,k1,_,k3,_⟩:=hob
    rw[k1,Option.some.injEq] at he
    subst he
    cases hb
    exact World.putObj_heap_other (fun e=>by rw[e,hB.2] at k3;cases k3)
   ·obtain ⟨r,b',es,ck,si,se,la,k1,_,k3,_⟩:=hob
    rw[k1,Option.some.injEq] at he
    subst he
    cases hb
    exact World.putObj_heap_other (fun e=>by rw[e,hB.2] at k3;cases k3)
   ·obtain ⟨aA,k1,_,k3⟩:=hob
    rw[k1,Option.some.injEq] at he
    subst he
    split at k3
    ·simp[bO.aA] at hb
    ·obtain ⟨cs,m,_,k5,_⟩:=k3
     simp only[bO.aA,Option.some.injEq] at hb
     subst hb
     exact hne k5
def tY(w:World)(D:aH)(E:aS)(post:cS)(v:Value)(w':World):Prop :=
 ∃ D' E' r os',post r os'∧aR w' D' E' r v∧kO (fun b=>w.heap.size≤b∨di E b) w' D' E' (aj os') ∧
  fw (fun b=>w.heap.size≤b∨di E b) w w'∧(∀ b o,D b o→D' b o)∧(∀ b o,D' b o→b<w'.heap.size)∧(∀ b o,D' b o→b<w.heap.size→¬ di E b→D b o) ∧
  (∀ n e,E n=some e→al os' n=true→∃ e',E' n=some e'∧e.le e')∧gX w D w'
theorem aN.IM{P:Program}{n:Nat}{w:World}{D:aH}{E:aS}{Y:Value→List I→List (Nat×ah)→cS→Prop}{mu:Option Nat}{A:ab}{a:Act}{w':World}{D':aH}{E':aS}
  (hs:aN ⟨P,w,D,n,di E,E,Y,mu⟩ A a w' D' E') {os:List (Nat×ah)} (h1:∀ n x,aj os n=some x→A.o n=some x∧x.only (al os)=true∧x.eL=true) :
  ∃ D2 E2,gY true (A.kI os) D' E' D2∧(∀ n,al os n=true→E2 n=E' n)∧(∀ n,al os n=false→E2 n=none)∧kO (fun b=>w.heap.size≤b∨di E b) w' D2 E2 (aj os) ∧
   fw (fun b=>w.heap.size≤b∨di E b) w w'∧(∀ b o,D b o→D2 b o)∧(∀ b o,D2 b o→b<w'.heap.size)∧(∀ b o,D2 b o→b<w.heap.size→¬ di E b→D b o) ∧
   (∀ n e,E n=some e→al os n=true→∃ e',E2 n=some e'∧e.le e')∧gX w D w':=by
 obtain ⟨c,hc⟩:∃ c:cK,c=⟨P,w,D,n,di E,E,Y,mu⟩:=⟨_,rfl⟩
 rw[←hc] at hs
 have hM:c.e7=fun b=>w.heap.size≤b∨di E b:=by rw[hc];rfl
 obtain ⟨E2,hE2⟩:∃ E2:aS,E2=fun n=>if al os n then E' n else none:=⟨_,rfl⟩
 obtain ⟨D2,hD2⟩:∃ D2:aH,D2=fun b o=>b<w'.heap.size∧(D' b o∨(¬ di E2 b∧c.e7 b)):=⟨_,rfl⟩
 have e2:∀ n,al os n=true→E2 n=E' n:=fun n hn=>by rw[hE2];simp only[hn,if_true]
 have cut:∀ n e,E2 n=some e→al os n=true∧E' n=some e:=fun n e he=>by
  rw[hE2] at he
  simp only at he
  split at he
  ·exact ⟨by assumption,he⟩
  ·cases he
 have up2:∀ b o,D' b o→D2 b o:=fun b o hd=>by
  rw[hD2]
  exact ⟨hs.c9 b o hd,.inl hd⟩
 have down:∀ b o,D2 b o→di E2 b→D' b o:=fun b o hd hb=>by
  rw[hD2] at hd
  rcases hd.2 with h | h
  ·exact h
  ·exact absurd hb h.1
 have hu:ec (A.kI os) A:=fun n x hx=>by
  simp only[ab.kI] at hx
  split at hx
  ·cases hx
  ·exact hx
 have notOwn:∀ n e b,(A.kI os).o n≠none→E' n=some e→e.aA=some b→¬ di E2 b:=fun n e b hn he hb ho=>by
  obtain ⟨m,e',k1,k3⟩:=ho
  obtain ⟨k1,k2⟩:=cut m e' k1
  have:=hs.cN n m e _ b he k2 hb k3
  subst this
  simp[ab.kI,k1] at hn
 have hw:gY true (A.kI os) D' E' D2:=by
  refine ⟨up2,fun n T sz es b cap hn aq o _ =>?_,fun _ n x b aJ hn aq o _ =>?_,fun _ n ks vs b hn aq =>?_⟩
  ·rw[hD2]
   refine ⟨hs.fI aq rfl,.inr ⟨notOwn n _ b (by rw[hn];simp) aq rfl,?_⟩⟩
   obtain ⟨aA,k1,k2,k3⟩:=hs.bS (hu n _ hn)
   rw[aq] at k1
   simp only[Option.some.injEq,bO.rw.injEq,and_true] at k1
   subst k1
   obtain ⟨_,_,_,k4,_⟩:=k3
   exact k4
  ·rw[hD2]
   refine ⟨hs.fI aq rfl,.inr ⟨notOwn n _ b (by rw[hn];simp) aq rfl,?_⟩⟩
   obtain ⟨b',cs,T,k1,k2,_⟩:=hs.box (hu n _ hn)
   rw[k1] at aq
   simp only[Option.some.injEq,bO.aw.injEq] at aq
   obtain ⟨rfl,_⟩:=aq
   exact k2
  ·rw[hD2]
   refine ⟨hs.fI aq rfl,.inr ⟨notOwn n _ b (by rw[hn];simp) aq rfl,?_⟩⟩
   obtain ⟨b',es,ck,k1,k2,_⟩:=hs.map (hu n _ hn)
   rw[k1] at aq
   cases aq
   exact k2
 have hst:gX w D w':=by
  have:=hs.fr
  rw[hc] at this
  exact this
 refine ⟨D2,E2,hw,e2,fun n hn=>by rw[hE2];simp[hn],⟨fun m =>?_,fun m m' e e' b g1 g2 g3 g4 =>?_⟩,?_,fun b o hd=>up2 b o (hs.cG b o (by rw[hc];exact hd)),fun b o hd=>by rw[hD2] at hd;exact hd.1,fun b o hd hlt hno =>?_,fun m e hm hin =>?_,hst⟩
 ·cases hx:aj os m with
  |none=>simp only[cZ];rw[hE2];simp[al,hx]
  |some x =>
   have hm:al os m=true:=by simp[al,hx]
   obtain ⟨k1,k2,k3⟩:=h1 m x hx
   have ho:=hs.bR m
   rw[k1] at ho
   have hl2:dE w' D' E2 w' D2 E2:=⟨up2,fun _ _ _ _ h=>h,fun _ _ _ h=>h,fun _ aA l h=>⟨aA,l,h,Nat.le_refl _,fun _=>rfl⟩,fun _ _ h=>h,fun _ _ h=>h,fun _ _ _ _ h=>h⟩
   have nD:∀ e b,E' m=some e→e.aA=some b→∀ o,D2 b o→D' b o:=fun e b he hb o hd=>down b o hd ⟨m,e,(e2 m hm).trans he,hb⟩
   cases x with
   |bS T sz es =>
    obtain ⟨aA,q1,q2,q3⟩:=ho
    refine ⟨aA,(e2 m hm).trans q1,q2,?_⟩
    cases aA with
    |none=>exact q3
    |some bc =>
     obtain ⟨b,cap⟩:=bc
     obtain ⟨cs,pre,rest,g1,g2,g3,g4,g5,g6,g7,g8⟩:=q3
     exact ⟨cs,pre,rest,by rw[←hM];exact g1,g2,g3,aF.bC hl2 _ _ (aF.dn e2 _ _ (by simpa[ah.only] using k2) g4),g5,g6,g7,fun o hd=>g8 o (nD _ b q1 rfl o hd)⟩
   |box y =>
    obtain ⟨b',cs,T,q1,q2,q3,q4,q5⟩:=ho
    exact ⟨b',cs,T,(e2 m hm).trans q1,by rw[←hM];exact q2,q3,af.bC hl2 _ _ (af.dn e2 _ _ (by simpa[ah.only] using k2) q4),fun o hd=>q5 o (nD _ b' q1 rfl o hd)⟩
   |dB o =>
    obtain ⟨b',q1,q2,q3,q4,q5⟩:=ho
    exact ⟨b',(e2 m hm).trans q1,by rw[←hM];exact q2,q3,q4,fun o hd=>q5 o (nD _ b' q1 rfl o hd)⟩
   |cu ks vs =>
    obtain ⟨b',es,ck,q1,q2,q3,q4,q5,q6,q7⟩:=ho
    simp only[ah.only,Bool.and_eq_true] at k2
    exact ⟨b',es,ck,(e2 m hm).trans q1,by rw[←hM];exact q2,q3,q4,aD.bC hl2 _ _ (aD.dn e2 _ _ k2.1 q5),aD.bC hl2 _ _ (aD.dn e2 _ _ k2.2 q6),fun o hd=>q7 o (nD _ b' q1 rfl o hd)⟩
   |it ks vs left cur=>cases k3
   |cO T xs =>
    obtain ⟨aA,q1,q2,q3⟩:=ho
    refine ⟨aA,(e2 m hm).trans q1,q2,?_⟩
    cases aA with
    |none=>exact q3
    |some bc =>
     obtain ⟨b,cap⟩:=bc
     obtain ⟨cs,r,g1,g2,g3,g4,g5,g6,g7⟩:=q3
     exact ⟨cs,r,by rw[←hM];exact g1,g2,g3,g4,g5,g6,fun o hd=>g7 o (nD _ b q1 rfl o hd)⟩
 ·exact hs.cN m m' e e' b (cut m e g1).2 (cut m' e' g2).2 g3 g4
 ·rw[←hM]
  have:=hs.dN
  rw[hc] at this ⊢
  exact this
 ·rw[hD2] at hd
  have hnm:¬ c.e7 b:=by
    rw[hM];rintro (h | h);· omega
    ·exact hno h
  rcases hd.2 with h | h
  ·have:=hs.cY b o h hnm
   rw[hc] at this;exact this
  ·exact absurd h.2 hnm
 ·rw[e2 m hin]
  have ho:A.o m≠none:=by
   cases hx:aj os m with
   |none=>simp[al,hx] at hin
   |some x=>rw[(h1 m x hx).1];simp
  rcases hs.dP m e (by rw[hc];exact hm) with h | h
  ·have hob:=hs.bR m
   cases hx:A.o m with
   |none=>exact absurd hx ho
   |some x=>rw[hx] at hob;exact absurd h (sS hob)
  ·exact h
theorem aN.ad4{P:Program}{n:Nat}{w:World}{D:aH}{E:aS}{Y:Value→List I→List (Nat×ah)→cS→Prop}{rs:List aZ}{post:cS}{fn:Func}{A:ab}{a:Act}{w':World}{D':aH}{E':aS}
  (hs:aN ⟨P,w,D,n,di E,E,Y,none⟩ A a w' D' E') (hrs:iB P fn.results.toList=some rs) (h:kP rs post A):∃ v,(results fn a.tmps).run P w'=.ok v w'∧tY w D E post v w':=by
 obtain ⟨os,xs,h1,h2,h3⟩:=h
 obtain ⟨D2,E2,hw,e2,e2n,q1,q2,q3,q4,q5,q6⟩:=hs.IM h1
 have hu:ec (A.kI os) A:=fun n x hx=>by
  simp only[ab.kI] at hx
  split at hx
  ·cases hx
  ·exact hx
 obtain ⟨vs,k1,k2⟩:=xL hs hu (os:=os) (E':=E2) hw e2 e2n fn.results.toList rs xs hrs h2
 have hres:(results fn a.tmps).run P w'=.ok (if h:vs.toArray.size=1 then vs.toArray[0] else .tuple vs.toArray) w':=by
  rw[agO,Sem.run_bind,Array.mapM_eq_mapM_toList,Sem.run_map,k1]
  rfl
 refine ⟨_,hres,D2,E2,kD xs,os,h3,?_,q1,q2,q3,q4,q5,q6⟩
 match xs,vs,k2 with
 | [x],vs,k2 =>
  simp only[aD] at k2
  obtain ⟨v,rest,cs,rfl,q1,q2,rfl⟩:=k2
  simpa[kD] using mb q1 q2
 | [],vs,k2 =>
  simp only[aD] at k2
  subst k2
  simp[kD,aR,aD]
 |x::y::xs,vs,k2 =>
  have hl:vs.length≠1:=by
   simp only[aD] at k2
   obtain ⟨v,rest,cs,rfl,_,_,v2,rest2,cs2,rfl,_⟩:=k2
   simp
  simp only[kD,aR]
  exact ⟨vs,by simp[hl],k2⟩
theorem IN{P:Program}{n:Nat}{w:World}{D:aH}{E:aS}{Y:Value→List I→List (Nat×ah)→cS→Prop}{rs:List aZ}{post:cS}{fn:Func}{A:ab}{D':aH}{E':aS}(hrs:iB P fn.results.toList=some rs)(h:kP rs post A) :
  ∀ (ds:List Deferred) (a:Act) (w':World),a.defers=ds→aN ⟨P,w,D,n,di E,E,Y,none⟩ A a w' D' E'→LeavesInM Fence.wide 9 P fn a.tmps (fun e w'=>∃ v,e=.returned v∧tY w D E post v w') ds .returning w'
 | [],a,w',_,hs=>by
  obtain ⟨v,h1,h2⟩:=hs.ad4 hrs h
  exact ⟨v,h1,v,rfl,h2⟩
 |d::ds,a,w',hd,hs=>by
  obtain ⟨Bs,h1,_⟩:=hs.eK
  rw[hd] at h1
  cases Bs with
  |nil=>cases h1
  |cons B Bs =>
   simp only[List.map_cons,List.cons.injEq] at h1
   obtain ⟨rfl,rfl⟩:=h1
   obtain ⟨k1,k2⟩:=hs.S4 hd
   exact ⟨by simp,.inl ⟨B,_,rfl,run_takeDeferred k1,IN hrs h _ { a with defers:=Bs.map _ } _ rfl k2⟩⟩
theorem xW{w:World}{D:aH}{E:aS} : ∀ {args:List I} {vs:List Value},aD w D E args vs→vs.length=args.length
 | [],vs,h=>by simp only[aD] at h;subst h;rfl
 |x::xs,vs,h=>by
  simp only[aD] at h
  obtain ⟨v,rest,cs,rfl,_,_,h3⟩:=h
  simp[xW h3]
def kd(P:Program)(f:FuncId)(Y:Value→List I→List (Nat×ah)→cS→Prop)(args:List I)(os:List (Nat×ah))(post:cS):Prop :=
 gG P f=true∧∀ (w:World) (D:aH) (E:aS) (vs:List Value),(∀ n,oF ⟨P,w,D,n,di E,E,Y,none⟩)→(∀ b o,D b o→b<w.heap.size)→kO (fun _=>True) w D E (aj os)→aD w D E args vs →
  Calls P f vs.toArray w fun e w'=>∃ v,e=.returned v∧tY w D E post v w'
theorem kd.sT{P:Program}{f:FuncId}{fn:Func}{body:Code}{x:aP}{rs:List aZ}{Y:Value→List I→List (Nat×ah)→cS→Prop}{args:List I}{os:List (Nat×ah)}{post:cS}(hf:P.funcs[f]?=some fn)(hb:fn.body=some body)(hcall:gG P f=true)(hc:e9 P fn.ntmps body=some x)
  (hrs:iB P fn.results.toList=some rs) (hn:args.length≤fn.ntmps) (hos:∀ m,al os m=true→fn.ntmps≤m∧1000000≤m) (h:∀ (w:World) (D:aH) (E:aS),U ⟨P,w,D,fn.ntmps,di E,E,Y,none⟩ x (nh rs post) (pN args os)):kd P f Y args os post:=by
 refine ⟨hcall,fun w D E vs hy hD ho hv =>?_⟩
 have hlen:=xW hv
 have hsim:=ahy (P:=P) (n:=fn.ntmps) (Y:=Y) hD ho hv (by omega) hos (hy fn.ntmps)
 refine (callsIn_wide (n:=9)).1 (callsIn_of_wp_marks hf hb trivial ?_)
 refine wpIn_mono (h w D E body hc _ w ⟨D,E,hsim⟩) ?_
 rintro e a w' ⟨A,hq,D',E',hs⟩
 cases e <;>simp only[nh] at hq <;>first
  |exact IN hrs hq a.defers a w' rfl hs
  |cases hq
theorem ah0{P:Program}{w:World}{D:aH}{E:aS}{n:Nat} : oF ⟨P,w,D,n,di E,E,ig,none⟩:=fun _ _ _ _ h=>h.elim
theorem cD.Jm{P:Program}{f:FuncId}{args:List I}{os:List (Nat×ah)}{post:cS}(h:kd P f ig args os post):cD P f args os post :=
 ⟨h.1,fun w D E vs _ hD ho hv=>(h.2 w D E vs (fun _=>ah0) hD ho hv).mono fun e w' ⟨v,he,D',E',r,os',k⟩=>⟨v,D',E',r,os',he,k⟩⟩
theorem aB.afz{P:Program}{f:FuncId}{args:List I}{r:I}(h:cD P f args [] (fun r' os'=>r'=r∧os'=[])):aB P f args r:=by
 refine ⟨h.1,fun w D vs hD hv =>?_⟩
 have hh:kO (fun _=>True) w D dz (aj []):=⟨fun n=>rfl,fun n m e e' b h=>by simp[dz] at h⟩
 refine (h.2 w D dz vs trivial hD hh hv).mono fun e w' hq =>?_
 obtain ⟨v,D',E',r',os',he,⟨h1,h2⟩,k1,k2,k3,k4,k5,k6,_⟩:=hq
 subst h1 h2
 refine ⟨v,D',he,?_,?_,k5,fun b o hd hlt=>k6 b o hd hlt fun ⟨n,e,h,_⟩=>by simp[dz] at h⟩
 ·have:E'=dz:=by funext n;exact k2.bR n
  rw[←this];exact k1
 ·exact k3.O4 fun k hk hm=>by
   rcases hm with hm | ⟨n,e,h,_⟩
   ·omega
   ·simp[dz] at h
theorem ag2(A:ab):A.kI []=A:=rfl
theorem L0{A:ab} : ∀ {rs:List aZ} {xs:List I},eV A rs=some xs→mq A (A.kI []) [] rs xs
 | [],xs,h=>by simp only[eV,Option.some.injEq] at h;subst h;trivial
 |r::rs,xs,h=>by
  simp only[eV] at h
  split at h
  ·rename_i x xs' h1 h2
   simp only[Option.some.injEq] at h
   subst h
   refine ⟨?_,L0 h2⟩
   rw[ag2]
   cases r with
   |tmp t=>exact ⟨_,rfl,.inr h1⟩
   |cell a s =>
    simp only[tn,td] at h1 ⊢
    split at h1
    ·rename_i y hy
     split at h1
     ·rename_i hok
      exact ⟨y,by simp[hok],.inr h1⟩
     ·cases h1
    ·cases h1
  ·cases h
theorem agP{rs:List aZ}{r:I}{e:Exit}{A:ab}(h:jl rs r e A):nh rs (fun r' os'=>r'=r∧os'=[]) e A:=by
 cases e <;>simp only[jl] at h <;>first
  |exact h.elim
  |(obtain ⟨xs,h1,h2⟩:=h
    exact ⟨[],xs,fun n x hx=>by simp[aj] at hx,L0 h1,h2,rfl⟩)
theorem aB.sT{P:Program}{f:FuncId}{fn:Func}{body:Code}{x:aP}{rs:List aZ}{args:List I}{r:I}(hf:P.funcs[f]?=some fn)(hb:fn.body=some body)(hcall:gG P f=true)(hc:e9 P fn.ntmps body=some x)
  (hrs:iB P fn.results.toList=some rs) (hn:args.length≤fn.ntmps) (h:∀ (w:World) (D:aH) (E:aS),U ⟨P,w,D,fn.ntmps,di E,E,ig,none⟩ x (jl rs r) (oy args)):aB P f args r:=by
 refine aB.afz (cD.Jm (kd.sT hf hb hcall hc hrs hn (fun m hm=>by simp[al,aj] at hm) fun w D E =>?_))
 exact (h w D E).mono fun e B hq=>agP hq
end Go.Abs
namespace Go.Abs
open Go Go.RowKit
def aT(ts:List (Nat×I)):List (Nat×I)→Prop
 | []=>True
 |(k,v)::r=>cj ts k=v∧aT ts r
def bJ(os:List (Nat×ah)):List (Nat×ah)→Prop
 | []=>True
 |(k,v)::r=>aj os k=some v∧bJ os r
def bI(p:Nat→Bool):List (Nat×I)→Prop
 | []=>True
 |(_,v)::r=>v.only p=true∧bI p r
theorem x9{ts:List (Nat×I)} : ∀ {ts':List (Nat×I)},aT ts ts'→∀ k,cj ts' k=.c8∨cj ts' k=cj ts k
 | [],_,k=>.inl rfl
 |(j,v)::r,h,k=>by
  simp only[aT] at h
  simp only[cj]
  split
  ·rename_i hk;subst hk;exact .inr h.1.symm
  ·exact x9 h.2 k
theorem MC{os:List (Nat×ah)} : ∀ {os':List (Nat×ah)},bJ os os'→∀ k,aj os' k=none∨aj os' k=aj os k
 | [],_,k=>.inl rfl
 |(j,v)::r,h,k=>by
  simp only[bJ] at h
  simp only[aj]
  split
  ·rename_i hk;subst hk;exact .inr h.1.symm
  ·exact MC h.2 k
theorem JK{p:Nat→Bool} : ∀ {ts:List (Nat×I)},bI p ts→∀ k,(cj ts k).only p=true
 | [],_,k=>by simp[cj,I.only]
 |(j,v)::r,h,k=>by
  simp only[bI] at h
  simp only[cj]
  split
  ·exact h.1
  ·exact JK h.2 k
theorem JJ{p:Nat→Bool} : ∀ {os:List (Nat×ah)},bd p os→∀ k x,aj os k=some x→x.only p=true
 | [],_,k,x,hx=>by simp[aj] at hx
 |(j,v)::r,h,k,x,hx=>by
  simp only[bd] at h
  simp only[aj] at hx
  split at hx
  ·simp only[Option.some.injEq] at hx;subst hx;exact h.1
  ·exact JJ h.2 k x hx
theorem aE.bP{ts ts':List (Nat×I)}{os os':List (Nat×ah)}(h1:aT ts ts')(h2:bJ os os')(h3:bI (al os') ts')(h4:bd (al os') os'):aE (au ts os) (au ts' os'):=by
 rintro c a w ⟨D,E,hs⟩
 have hp:∀ n,al os' n=true→(if al os' n then E n else none)=E n:=fun n hn=>by simp[hn]
 refine ⟨D,fun n=>if al os' n then E n else none,hs.sz,hs.eK,fun t =>?_,hs.dN,hs.cY,hs.c9,fun n =>?_,fun n m e e' b h1 h2 h3 h4 =>?_,fun n e hn =>?_,hs.eU,hs.cG,hs.eY,hs.fr⟩
 ·have:=x9 h1 t
  rcases this with h | h
  ·simp only[au];rw[h];simp[aR]
  ·refine aR.dn (p:=al os') hp (JK h3 t) ?_
   have:=hs.eb t
   simp only[au] at *
   rw[h];exact this
 ·have ho:=hs.bR n
  simp only[au] at *
  rcases MC h2 n with h | h
  ·rw[h];simp[cZ,al,h]
  ·rw[h]
   by_cases hin:aj os n=none
   ·rw[hin];simp[cZ,al,h,hin]
   ·have aq:(if al os' n then E n else none)=E n:=hp n (by simp[al,h];cases hh:aj os n <;>simp_all)
    cases hx:aj os n with
    |none=>exact absurd hx hin
    |some x =>
     have hon:=JJ h4 n x (h.trans hx)
     rw[hx] at ho
     cases x with
     |box x =>
      obtain ⟨b,cs,T,k1,k2,k3,k4,k5⟩:=ho
      exact ⟨b,cs,T,aq.trans k1,k2,k3,af.dn hp _ _ (by simpa[ah.only] using hon) k4,k5⟩
     |bS T sz es =>
      obtain ⟨aA,k1,k2,k3⟩:=ho
      refine ⟨aA,aq.trans k1,k2,?_⟩
      cases aA with
      |none=>exact k3
      |some bc =>
       obtain ⟨b,cap⟩:=bc
       obtain ⟨cs,pre,rest,q1,q2,q3,q4,q5⟩:=k3
       exact ⟨cs,pre,rest,q1,q2,q3,aF.dn hp _ _ (by simpa[ah.only] using hon) q4,q5⟩
     |cO T xs =>
      obtain ⟨aA,k1,k2,k3⟩:=ho
      exact ⟨aA,aq.trans k1,k2,k3⟩
     |dB x =>
      obtain ⟨b,k1,k2⟩:=ho
      exact ⟨b,aq.trans k1,k2⟩
     |cu ks vs =>
      obtain ⟨b,es,ck,k1,k2,k3,k4,k5,k6,k7⟩:=ho
      simp only[ah.only,Bool.and_eq_true] at hon
      exact ⟨b,es,ck,aq.trans k1,k2,k3,k4,aD.dn hp _ _ hon.1 k5,aD.dn hp _ _ hon.2 k6,k7⟩
     |it ks vs left cur =>
      obtain ⟨r,b,es,ck,si,se,la,k1,k2,k3,k4,k5,k6,k7⟩:=ho
      simp only[ah.only,Bool.and_eq_true] at hon
      exact ⟨r,b,es,ck,si,se,la,aq.trans k1,k2,k3,k4,aD.dn hp _ _ hon.1 k5,aD.dn hp _ _ hon.2 k6,k7⟩
 ·refine hs.cN n m e e' b ?_ ?_ h3 h4
  ·split at h1
   ·exact h1
   ·cases h1
  ·split at h2
   ·exact h2
   ·cases h2
 ·by_cases hi:al os' n=true
  ·simp only[hi,if_true];exact hs.dP n e hn
  ·simp only[hi];exact .inl rfl
def bp:Nat→List I→List (Nat×I)
 |_,[]=>[]
 |k,a::as=>(k,a)::bp (k+1) as
theorem IX:∀ (as:List I) (k t:Nat),cj (bp k as) t=if t<k then .c8 else (as[t-k]?).getD .c8
 | [],k,t=>by simp[bp,cj]
 |a::as,k,t=>by
  simp only[bp,cj,IX as (k+1) t]
  by_cases h:t=k
  ·subst h;simp
  ·rw[if_neg h]
   by_cases h2:t<k
   ·rw[if_pos (by omega),if_pos h2]
   ·rw[if_neg (by omega),if_neg h2,show t-k=(t-(k+1))+1 from by omega]
    simp
theorem MB(args:List I)(os:List (Nat×ah)):aE (pN args os) (au (bp 0 args) os):=by
 rintro c a w ⟨D,E,hs⟩
 refine ⟨D,E,hs.sz,hs.eK,fun t =>?_,hs.dN,hs.cY,hs.c9,hs.bR,hs.cN,hs.dP,hs.eU,hs.cG,hs.eY,hs.fr⟩
 have:=hs.eb t
 simp only[au,IX,pN,Nat.not_lt_zero,if_false,Nat.sub_zero] at *
 cases h:args[t]? with
 |none=>simp[aR]
 |some x=>simpa[List.getD_eq_getElem?_getD,h] using this
theorem ahx(args:List I):aE (oy args) (au (bp 0 args) []):=MB args []
theorem sH(ts:List (Nat×I))(os:List (Nat×ah))(d:Nat)(v:I):(au ts os).put d v=au ((d,v)::ts) os:=rfl
theorem aew(ts:List (Nat×I))(os:List (Nat×ah))(d:Nat)(v:I):(au ts os).aI (some d) v=au ((d,v)::ts) os:=rfl
theorem aev(A:ab)(v:I):A.aI none v=A:=rfl
theorem nV(ts:List (Nat×I))(os:List (Nat×ah))(d:Nat)(x:ah):(au ts os).aL d x=au ts ((d,x)::os):=rfl
theorem aex(ts:List (Nat×I))(os:List (Nat×ah))(k:Nat):(au ts os).t k=cj ts k:=rfl
theorem aeu(ts:List (Nat×I))(os:List (Nat×ah))(k:Nat):(au ts os).o k=aj os k:=rfl
theorem aV(j:Nat)(v:I)(r:List (Nat×I))(k:Nat):cj ((j,v)::r) k=if k=j then v else cj r k:=rfl
theorem cw(j:Nat)(v:ah)(r:List (Nat×ah))(k:Nat):aj ((j,v)::r) k=if k=j then some v else aj r k:=rfl
theorem sA(k:Nat):aj [] k=none:=rfl
theorem Ws(A:ab)(k:Nat):ae A (.t k)=A.t k:=rfl
theorem Wr(A:ab)(x:I):ae A (.c x)=x:=rfl
noncomputable def c7(d:Option Nat)(rest:List av)(A:ab)(v:I):cF:=az rest (A.aI d v)
theorem adM(d:Option Nat)(rest:List av)(A:ab)(v:I):c7 d rest A v=az rest (A.aI d v):=rfl
theorem Pp(v:I)(k:I→cF):cJ (some v) k=k v:=rfl
theorem OM(A:ab):az [] A=.done A:=rfl
noncomputable def bM(A:ab)(d:Option Nat)(op:bZ)(rest:List av):cF:=aY A d op rest (az rest)
noncomputable def gK(x:I)(b:Bool)(d:Option Nat)(op:bZ)(rest:List av)(A:ab):cF :=
 match x with
 | .bool b'=>if b'=b then bM A d op rest else az rest (A.aI d .undef)
 | .undef=>az rest (A.aI d .undef)
 |_=>.fail
theorem a7.guard{P:Program}{Y:Value→List I→List (Nat×ah)→cS→Prop}{dr:Bool}{K:ab→Prop}{x b:Bool}{d:Option Nat}{op:bZ}{rest:List av}{A:ab}(h1:x=b→a7 P Y dr K (bM A d op rest))(h2:x = !b→a7 P Y dr K (az rest (A.aI d .undef))):a7 P Y dr K (gK (.bool x) b d op rest A):=by
 unfold gK
 by_cases h:x=b
 ·simp only[if_pos h];exact h1 h
 ·simp only[if_neg h];exact h2 (by cases x <;>cases b <;>simp_all)
def I.dj:I→Option (List I)
 | .agg fs=>some fs
 |_=>none
def oK(p:List Nat):Option I→Option I
 |some f=>f.at p
 |none=>none
def fO(i:Nat)(p:List Nat):Option (List I)→Option I
 |some fs=>oK p fs[i]?
 |none=>none
theorem hE(c:I):c.at []=some c:=by cases c <;>rfl
theorem O1(c:I)(i:Nat)(p:List Nat):c.at (i::p)=fO i p c.dj:=by
 cases c <;>first | rfl | (rename_i fs;simp only[I.at,fO,I.dj,oK])
def tw(fs:List I)(i:Nat)(p:List Nat)(v:I):Option I→I
 |some f=>.agg (fs.set i (f.dx p v))
 |none=>.agg fs
def qU(c:I)(i:Nat)(p:List Nat)(v:I):Option (List I)→I
 |some fs=>tw fs i p v fs[i]?
 |none=>c
theorem gf(c v:I):c.dx [] v=v:=by cases c <;>rfl
theorem Mg(c:I)(i:Nat)(p:List Nat)(v:I):c.dx (i::p) v=qU c i p v c.dj:=by
 cases c <;>first | rfl | (rename_i fs;simp only[I.dx,qU,I.dj];cases fs[i]? <;>rfl)
def fe(p:List Nat):Option ah→Option I
 |some (.box c)=>c.at p
 |_=>none
def gH(A:ab):I→Option I
 | .ref x=>some x
 | .ptr n p=>fe p (A.o n)
 |_=>none
theorem lV(A:ab)(x:I):cz A x=gH A x:=by
 cases x <;>first | rfl | (rename_i n p;simp only[cz,gH];cases A.o n with | none=>rfl | some y=>cases y <;>rfl)
def dW(s:Option Nat)(x:I):Option I:=if bU s x=true then some x else none
def gu(s:Option Nat):Option I→Option I
 |some x=>dW s x
 |none=>none
open Classical in
noncomputable def dQ(fs:List I)(f off:Nat)(y:I):Option I:=if f<fs.length∧I.sizes (fs.take f)=off then some y else none
noncomputable def qe(n:Nat)(p:List Nat)(f off:Nat):Option (List I)→Option I
 |some fs=>dQ fs f off (.ptr n (p++[f]))
 |none=>none
noncomputable def oV(fs:List I)(f off:Nat):Option I→Option I
 |some v=>dQ fs f off (.ref v)
 |none=>none
noncomputable def qf(f off:Nat):Option (List I)→Option I
 |some fs=>oV fs f off fs[f]?
 |none=>none
def fo:Option I→Option (List I)
 |some x=>x.dj
 |none=>none
noncomputable def lh(A:ab)(f off:Nat):I→Option I
 | .ref c=>qf f off c.dj
 | .ptr n p=>qe n p f off (fo (fe p (A.o n)))
 |_=>none
theorem agn(A:ab)(f off:Nat)(x:aG):a8 A (.fa f off x)=lh A f off (ae A x):=by
 simp only[a8]
 generalize ae A x=y
 cases y with
 |ref c =>
  cases c <;>simp only[lh,I.dj,qf]
  rename_i fs
  cases h:fs[f]? with
  |none=>simp[oV]
  |some v =>
   have hl:f<fs.length:=(List.getElem?_eq_some_iff.1 h).1
   simp only[oV,dQ,hl,true_and]

 |ptr n p =>
  simp only[lh,lV,gH]
  cases fe p (A.o n) with
  |none=>simp[fo,qe]
  |some c =>
   cases c <;>simp only[fo,I.dj,qe]
   simp only[dQ]

 |_=>simp only[lh]
noncomputable def r4(f off:Nat)(s:Option Nat):Option (List I)→Option I
 |some fs=>match fs[f]? with
  |some v=>(dQ fs f off v).bind (dW s)
  |none=>none
 |none=>none
theorem ago(A:ab)(f off:Nat)(s:Option Nat)(x:aG):a8 A (.fl f off s x)=r4 f off s (ae A x).dj:=by
 simp only[a8]
 generalize ae A x=y
 cases y <;>simp only[r4,I.dj]
 rename_i fs
 cases h:fs[f]? with
 |none=>rfl
 |some v =>
  have hl:f<fs.length:=(List.getElem?_eq_some_iff.1 h).1
  simp only[dQ,hl,true_and]
  by_cases h1:I.sizes (fs.take f)=off <;>by_cases h2:bU s v=true <;>simp[h1,h2,dW]
open Classical in
noncomputable def fq(k:Int)(n:Nat)(y:Option I):Option I:=if 0≤k∧k<n then y else none
noncomputable def fp(n esz:Nat)(fs:List I)(y:Option I):Option I:=if hZ n esz fs=true then y else none
noncomputable def qo(n esz:Nat)(k:Int):Option (List I)→Option I
 |some fs=>fp n esz fs ((fs[k.toNat]?).map .ref)
 |none=>none
noncomputable def qn(n esz m:Nat)(p:List Nat)(k:Int):Option (List I)→Option I
 |some fs=>fp n esz fs (some (.ptr m (p++[k.toNat])))
 |none=>none
noncomputable def nN(A:ab)(n esz:Nat)(k:Int):I→Option I
 | .ref c=>fq k n (qo n esz k c.dj)
 | .ptr m p=>fq k n (qn n esz m p k (fo (fe p (A.o m))))
 |_=>none
noncomputable def qm(A:ab)(n esz:Nat)(x:I):I→Option I
 | .int _ k=>nN A n esz k x
 |_=>none
theorem agp(A:ab)(n esz:Nat)(x i:aG):a8 A (.ia n esz x i)=qm A n esz (ae A x) (ae A i):=by
 simp only[a8]
 generalize ae A x=y
 generalize ae A i=z
 cases z <;>simp only[qm]
 rename_i kk k
 cases y with
 |ref c =>
  simp only[nN,fq]
  split
  ·cases c <;>simp only[I.dj,qo,fp]
  ·rfl
 |ptr m p =>
  simp only[nN,fq,lV,gH]
  split
  ·cases fe p (A.o m) with
   |none=>simp[fo,qn]
   |some c=>cases c <;>simp only[fo,I.dj,qn,fp]
  ·rfl
 |_=>simp only[nN];split <;>rfl
open Classical in
noncomputable def l7(m:Nat)(p:List Nat)(sz lo l esz:Nat)(k:Int):Option (List I)→Option I
 |some _=>if sz=esz∧0≤k∧k<l then some (.ptr m (p++[lo+k.toNat])) else none
 |none=>none
open Classical in
noncomputable def ic(A:ab)(esz:Nat)(k:Int):I→Option I
 | .slice sz es=>if sz=esz∧0≤k∧k<es.length then (es[k.toNat]?).map .ref else none
 | .own m l=>match A.o m with
  |some (.bS _ sz es)=>if l=es.length∧sz=esz∧0≤k∧k<es.length then (es[k.toNat]?).map .ref else none
  |_=>none
 | .view m p sz lo l=>l7 m p sz lo l esz k (fo (fe p (A.o m)))
 |_=>none
noncomputable def lq(A:ab)(esz:Nat)(x:I):I→Option I
 | .int _ k=>ic A esz k x
 |_=>none
theorem agq(A:ab)(esz:Nat)(x i:aG):a8 A (.is esz x i)=lq A esz (ae A x) (ae A i):=by
 simp only[a8]
 generalize ae A x=y
 generalize ae A i=z
 cases z <;>simp only[lq]
 cases y <;>simp only[ic]
 ·split <;>simp_all
 ·rename_i m p sz lo l
  simp only[lV,gH]
  cases fe p (A.o m) with
  |none=>rfl
  |some c=>cases c <;>simp only[fo,I.dj,l7]
noncomputable def qu(n esz:Nat)(s:Option Nat)(k:Int):Option (List I)→Option I
 |some fs=>fq k n (fp n esz fs (gu s fs[k.toNat]?))
 |none=>none
noncomputable def qv(n esz:Nat)(s:Option Nat)(x:I):I→Option I
 | .int _ k=>qu n esz s k x.dj
 |_=>none
theorem agr(A:ab)(n esz:Nat)(s:Option Nat)(x i:aG):a8 A (.ix n esz s x i)=qv n esz s (ae A x) (ae A i):=by
 simp only[a8]
 generalize ae A x=y
 generalize ae A i=z
 cases z <;>simp only[qv]
 rename_i kk k
 cases y <;>simp only[I.dj,qu]
 case agg fs =>
  simp only[fq,fp]
  split
  ·split
   ·cases fs[k.toNat]? <;>rfl
   ·rfl
  ·rfl
 all_goals (split <;>rfl)
def jz(A:ab):I→Option I
 | .slice _ es=>some (.int .i64 es.length)
 | .nils _=>some (.int .i64 0)
 | .c0 _=>some (.int .i64 0)
 | .own m l=>match A.o m with | some (.bS _ _ es)=>if l=es.length then some (.int .i64 es.length) else none | _=>none
 | .view _ _ _ _ k=>some (.int .i64 k)
 |_=>none
theorem agt(A:ab)(x:aG):a8 A (.len x)=jz A (ae A x):=by
 simp only[a8]
 generalize ae A x=y
 cases y <;>rfl
open Classical in
noncomputable def oB(n esz:Nat)(fs:List I)(y:I):Option I:=if hZ n esz fs=true∧n≤maxLen∧n≠0 then some y else none
noncomputable def rf(n esz m:Nat)(p:List Nat):Option (List I)→Option I
 |some fs=>oB n esz fs (.view m p esz 0 n)
 |none=>none
noncomputable def MR(n esz:Nat):Option (List I)→Option I
 |some fs=>oB n esz fs (.slice esz fs)
 |none=>none
noncomputable def oA(A:ab)(n esz:Nat):I→Option I
 | .ptr m p=>rf n esz m p (fo (fe p (A.o m)))
 | .ref c=>MR n esz c.dj
 |_=>none
theorem agv(A:ab)(n esz:Nat)(x:aG):a8 A (.va n esz x)=oA A n esz (ae A x):=by
 simp only[a8]
 generalize ae A x=y
 cases y with
 |ptr m p =>
  simp only[oA,lV,gH]
  cases fe p (A.o m) with
  |none=>simp[fo,rf]
  |some c=>cases c <;>simp only[fo,I.dj,rf,oB] <;>(split <;>simp_all)
 |ref c=>cases c <;>simp only[oA,I.dj,MR,oB] <;>(split <;>simp_all)
 |_=>simp only[oA]
theorem ags(A:ab)(s:Option Nat)(x:aG):a8 A (.ld s x)=gu s (gH A (ae A x)):=by
 simp only[a8,lV]
 cases gH A (ae A x) <;>simp only[gu,dW]
noncomputable def qH(A:ab)(d:Option Nat)(a b:aG)(rest:List av):I→cF
 | .bool t=>az rest (A.aI d (if t then ae A a else ae A b))
 |_=>.fail
noncomputable def re(op:UnOp)(x:I):Option I:=match op,x with
  | .not,.bool b=>some (.bool !b)
  | .neg,.int k n=>some (.int k (k.wrap (0-n)))
  | .xor,.int k n=>some (.int k (oQ k n))
  |_,_=>none
def uT(i:Nat):I→Option I
 | .tuple fs=>fs[i]?
 |_=>none
def uE(k:IntKind):I→Option I
 | .int _ n=>some (.int k (k.wrap n))
 |_=>none
noncomputable def ua(A:ab)(d:Nat)(z:I)(rest:List av):Option ah→cF
 |none=>az rest ((A.aL d (.box z)).put d (.ptr d []))
 |some _=>.fail
noncomputable def rK(A:ab)(d:Nat)(z:I)(rest:List av)(v:Bool):cF:=if v=true then az rest ((A.aL d (.box z)).put d (.ptr d [])) else .fail
noncomputable def rJ(A:ab)(d:Nat)(z:I)(rest:List av):Option ah→cF
 |none=>rK A d z rest z.b9
 |some _=>.fail
open Classical in
noncomputable def dS(A:ab)(s:Option Nat)(n:Nat)(p:List Nat)(b v:I)(rest:List av):Option I→cF
 |some old=>if xm s v old then az rest (A.aL n (.box (b.dx p v))) else .fail
 |none=>.fail
noncomputable def tD(A:ab)(s:Option Nat)(n:Nat)(p:List Nat)(v:I)(rest:List av):Option ah→cF
 |some (.box b)=>dS A s n p b v rest (b.at p)
 |_=>.fail
noncomputable def tC(A:ab)(s:Option Nat)(v:I)(rest:List av):I→cF
 | .ptr n p=>tD A s n p v rest (A.o n)
 |_=>.fail
noncomputable def rN(A:ab)(d:Option Nat)(args:List I)(rest:List av):I→cF
 | .func f caps=>.call f (args++caps) (bY true A (args++caps)) (bY false A (args++caps)) d rest A
 | .raw v=>.oO v args d rest A
 |_=>.fail
section
variable (d:Option Nat) (rest:List av) (A:ab)
theorem OA(op:bZ):az (⟨d,op,none⟩::rest) A=bM A d op rest:=rfl
theorem OB(op:bZ)(t:Nat)(b:Bool):az (⟨d,op,some (t,b)⟩::rest) A=gK (A.t t) b d op rest A:=rfl
theorem acV(op:bZ):gK (.bool true) true d op rest A=bM A d op rest:=by simp[gK]
theorem acS(op:bZ):gK (.bool false) false d op rest A=bM A d op rest:=by simp[gK]
theorem acU(op:bZ):gK (.bool true) false d op rest A=az rest (A.aI d .undef):=by simp[gK]
theorem acT(op:bZ):gK (.bool false) true d op rest A=az rest (A.aI d .undef):=by simp[gK]
theorem acW(op:bZ)(b:Bool):gK .undef b d op rest A=az rest (A.aI d .undef):=rfl
theorem afm(x:aG):bM A d (.mv x) rest=az rest (A.aI d (ae A x)):=rfl
theorem afq(c a b:aG):bM A d (.pick c a b) rest=qH A d a b rest (ae A c):=by
 simp only[bM,aY,a8]
 cases ae A c <;>simp only[cJ,qH]
theorem aeY(op:BinOp)(x y:aG):bM A d (.bin op x y) rest=cJ (cE op (ae A x) (ae A y)) (c7 d rest A):=rfl
theorem ae7(ty:cH)(neg:Bool)(x y:aG):bM A d (.eqv ty neg x y) rest=cJ ((cn ty (ae A x) (ae A y)).map fun b=>.bool (if neg then !b else b)) (c7 d rest A):=rfl
theorem afv(op:UnOp)(x:aG):bM A d (.un op x) rest=cJ (re op (ae A x)) (c7 d rest A):=rfl
theorem ae5(k:IntKind)(x:aG):bM A d (.conv k x) rest=cJ (uE k (ae A x)) (c7 d rest A):=by
 simp only[bM,aY,a8];cases ae A x <;>rfl
theorem afe(s:Option Nat)(x:aG):bM A d (.ld s x) rest=cJ (gu s (gH A (ae A x))) (c7 d rest A):=by rw[←ags];rfl
theorem ae9(f off:Nat)(x:aG):bM A d (.fa f off x) rest=cJ (lh A f off (ae A x)) (c7 d rest A):=by rw[←agn];rfl
theorem afa(f off:Nat)(s:Option Nat)(x:aG):bM A d (.fl f off s x) rest=cJ (r4 f off s (ae A x).dj) (c7 d rest A):=by rw[←ago];rfl
theorem afb(n esz:Nat)(x i:aG):bM A d (.ia n esz x i) rest=cJ (qm A n esz (ae A x) (ae A i)) (c7 d rest A):=by rw[←agp];rfl
theorem afc(esz:Nat)(x i:aG):bM A d (.is esz x i) rest=cJ (lq A esz (ae A x) (ae A i)) (c7 d rest A):=by rw[←agq];rfl
theorem afd(n esz:Nat)(s:Option Nat)(x i:aG):bM A d (.ix n esz s x i) rest=cJ (qv n esz s (ae A x) (ae A i)) (c7 d rest A):=by rw[←agr];rfl
theorem aff(x:aG):bM A d (.len x) rest=cJ (jz A (ae A x)) (c7 d rest A):=by rw[←agt];rfl
theorem afw(n esz:Nat)(x:aG):bM A d (.va n esz x) rest=cJ (oA A n esz (ae A x)) (c7 d rest A):=by rw[←agv];rfl
theorem aeZ(zs:List I)(ps:List (Nat×aG)):bM A d (.bld zs ps) rest=cJ ((dM zs (ps.map fun p=>(p.1,ae A p.2))).map .agg) (c7 d rest A):=rfl
theorem ae8(x:aG)(i:Nat):bM A d (.ext x i) rest=cJ (uT i (ae A x)) (c7 d rest A):=by
 simp only[bM,aY,a8];cases ae A x <;>rfl
theorem afi(f:FuncId)(caps:List aG):bM A d (.mk f caps) rest=cJ (if ((caps.map (ae A)).all fun y=>y.b9)=true then some (.func f (caps.map (ae A))) else none) (c7 d rest A):=rfl
theorem aeW(d:Nat)(z:I):bM A (some d) (.alloc z) rest=ua A d z rest (A.o d):=by
 simp only[bM,aY];cases A.o d <;>rfl
theorem ae0(d:Nat)(x:aG):bM A (some d) (.box x) rest=rJ A d (ae A x) rest (A.o d):=by
 simp only[bM,aY];cases A.o d <;>simp only[rJ,rK]
theorem afu(s:Option Nat)(x v:aG):bM A none (.br s x v) rest=tC A s (ae A v) rest (ae A x):=by
 simp only[bM,aY]
 cases ae A x <;>simp only[tC]
 rename_i n p
 cases A.o n with
 |none=>rfl
 |some y =>
  cases y <;>simp only[tD]
  rename_i b
  cases b.at p <;>simp only[dS]
theorem ae2(f:FuncId)(args:List aG):bM A d (.call f args) rest=.call f (args.map (ae A)) (bY true A (args.map (ae A))) (bY false A (args.map (ae A))) d rest A:=rfl
theorem ae3(x:aG)(args:List aG):bM A d (.eG x args) rest=rN A d (args.map (ae A)) rest (ae A x):=by
 simp only[bM,aY];cases ae A x <;>rfl
end
end Go.Abs
namespace Go.Abs
open Go Go.RowKit
mutual
/-- Closed,and as a result is told: no nil slice but as the empty one. -/
def I.done:I→Bool
 | .agg fs=>I.eR fs
 | .slice _ es=>I.bT es
 | .ref x=>x.bl
 | .func _ caps=>I.eR caps
 | .iface _ v=>v.bl
 | .cM ks vs=>I.bT ks&&I.bT vs
 | .bool _ | .int _ _ | .cR _ | .nilp | .da | .dL | .raw _=>true
 |_=>false
def I.eR:List I→Bool
 | []=>true
 |x::xs=>x.done&&I.eR xs
end
mutual
theorem uI:∀ x:I,x.done=true→x.bl=true
 | .agg fs,h=>by simp only[I.done,I.bl] at *;exact kp fs h
 | .slice _ es,h=>by simpa only[I.done,I.bl] using h
 | .ref x,h=>by simpa only[I.done,I.bl] using h
 | .func _ caps,h=>by simp only[I.done,I.bl] at *;exact kp caps h
 | .iface _ v,h=>by simpa only[I.done,I.bl] using h
 | .bool _,_ | .int _ _,_ | .cR _,_ | .nilp,_ | .da,_ | .dL,_ | .raw _,_=>by simp[I.bl]
 | .cM _ _,h=>by simpa only[I.done,I.bl] using h
 | .nils _,h | .c0 _,h | .ptr _ _,h | .own _ _,h | .view _ _ _ _ _,h | .mref _,h | .dg _,h | .undef,h | .c8,h | .tuple _,h=>by simp[I.done] at h
theorem kp:∀ xs:List I,I.eR xs=true→I.bT xs=true
 | [],_=>rfl
 |x::xs,h=>by
  simp only[I.eR,I.bT,Bool.and_eq_true] at *
  exact ⟨uI x h.1,kp xs h.2⟩
end
mutual
theorem Cf(aw:Bool)(A:ab):∀ x:I,x.done=true→a6 aw A x=some x
 | .agg fs,h=>by simp only[I.done,a6] at *;rw[kv aw A fs h];rfl
 | .slice _ es,h=>by simp only[I.done] at h;simp[a6,h]
 | .ref x,h=>by simp only[I.done] at h;simp[a6,h]
 | .func _ caps,h=>by simp only[I.done,a6] at *;rw[kv aw A caps h];rfl
 | .iface _ v,h=>by simp only[I.done] at h;simp[a6,h]
 | .bool _,_ | .int _ _,_ | .cR _,_ | .nilp,_ | .da,_ | .dL,_ | .raw _,_=>by simp[a6]
 | .cM _ _,h=>by simp only[I.done] at h;simp[a6,h]
 | .nils _,h | .c0 _,h | .ptr _ _,h | .own _ _,h | .view _ _ _ _ _,h | .mref _,h | .dg _,h | .undef,h | .c8,h | .tuple _,h=>by simp[I.done] at h
theorem kv(aw:Bool)(A:ab):∀ xs:List I,I.eR xs=true→bY aw A xs=some xs
 | [],_=>by simp[bY]
 |x::xs,h=>by
  simp only[I.eR,Bool.and_eq_true] at h
  simp only[bY,Cf aw A x h.1,kv aw A xs h.2]
end
theorem V7{x:I}(h:x.done=true):x.b9=true:=by cases x <;>simp_all[I.done,I.b9]
class Enc (α:Type) where
 enc:α→I
 sz:Nat
 aJ:cI
 fQ:Bool
 done:∀ x,(enc x).done=true
 size:∀ x,(enc x).size=sz
 j8:∀ x,(enc x).aJ=aJ
 agg:∀ x,(enc x).isAgg=fQ
open Enc (enc)
instance:Enc Int where
 enc n:=.int .i64 n
 sz:=1
 aJ:=.one
 fQ:=false
 done _:=rfl
 size _:=by simp[I.size]
 j8 _:=by simp[I.aJ]
 agg _:=rfl
instance:Enc Bool where
 enc b:=.bool b
 sz:=1
 aJ:=.one
 fQ:=false
 done _:=rfl
 size _:=by simp[I.size]
 j8 _:=by simp[I.aJ]
 agg _:=rfl
theorem kj{α:Type}[Enc α](l:List α):I.bT (l.map enc)=true:=by
 induction l with
 |nil=>rfl
 |cons x l ih=>simp only[List.map_cons,I.bT,uI _ (Enc.done x),ih,Bool.and_self]
theorem V8{α:Type}[Enc α](l:List α):I.eR (l.map enc)=true:=by
 induction l with
 |nil=>rfl
 |cons x l ih=>simp only[List.map_cons,I.eR,Enc.done x,ih,Bool.and_self]
theorem ahb{α:Type}[Enc α](l:List α):I.sizes (l.map enc)=l.length*Enc.sz α:=by
 rw[I.ir (sz:=Enc.sz α) _ (by simp only[List.mem_map];rintro x ⟨y,_,rfl⟩;exact Enc.size y)]
 simp
theorem qW{α:Type}[Enc α](l:List α):I.cQ (l.map enc)=List.replicate l.length (Enc.aJ α):=by
 induction l with
 |nil=>rfl
 |cons x l ih=>simp only[List.map_cons,I.cQ,Enc.j8 x,ih,List.length_cons,List.replicate_succ]
instance {α:Type} [Enc α]:Enc (List α) where
 enc l:=.slice (Enc.sz α) (l.map enc)
 sz:=1
 aJ:=.one
 fQ:=false
 done l:=by simp only[I.done];exact kj l
 size _:=by simp[I.size]
 j8 _:=by simp[I.aJ]
 agg _:=rfl
structure aM (n:Nat) (α:Type) where
 l:List α
 h:l.length=n
instance {n:Nat} {α:Type} [Enc α]:Enc (aM n α) where
 enc x:=.agg (x.l.map enc)
 sz:=n*Enc.sz α
 aJ:=.dZ (List.replicate n (Enc.aJ α))
 fQ:=true
 done x:=by simp only[I.done];exact V8 x.l
 size x:=by simp only[I.size,ahb,x.h]
 j8 x:=by simp only[I.aJ,qW,x.h]
 agg _:=rfl
section
variable {α:Type} [Enc α]
theorem cT(aw:Bool)(A:ab)(x:α):a6 aw A (enc x)=some (enc x):=Cf aw A _ (Enc.done x)
theorem dT(x:α):(enc x).bl=true:=uI _ (Enc.done x)
theorem bt(p:Nat→Bool)(x:α):(enc x).only p=true:=mf p _ (dT x)
theorem dG(x:α):(enc x).b9=true:=V7 (Enc.done x)
theorem lW(x:α):bU none (enc x) = !(Enc.fQ α):=by simp[bU,Enc.agg]
theorem fJ(n:Nat)(x:α):bU (some n) (enc x)=(Enc.fQ α&&Enc.sz α==n):=by simp[bU,Enc.agg,Enc.size]
theorem fX(x:α):(enc x).size=Enc.sz α:=Enc.size x
theorem eH(x:α):(enc x).aJ=Enc.aJ α:=Enc.j8 x
theorem iZ(n:Int):(enc n:I)=.int .i64 n:=rfl
theorem BR(n:Bool):(enc n:I)=.bool n:=rfl
theorem fW(l:List α):(enc l:I)=.slice (Enc.sz α) (l.map enc):=rfl
theorem kr:Enc.sz Int=1:=rfl
theorem kq(n:Nat):Enc.sz (aM n α)=n*Enc.sz α:=rfl
theorem uO:Enc.sz (List α)=1:=rfl
theorem uN(n:Nat):Enc.fQ (aM n α)=true:=rfl
theorem mP:Enc.fQ (List α)=false:=rfl
theorem rV:Enc.aJ Int=.one:=rfl
theorem BU:Enc.aJ (List α)=.one:=rfl
theorem rU(n:Nat):Enc.aJ (aM n α)=.dZ (List.replicate n (Enc.aJ α)):=rfl
theorem uS(n esz:Nat)(l:List α)(h:l.length=n)(h2:Enc.sz α=esz):hZ n esz (l.map enc)=true:=by
 simp only[hZ,List.length_map,h,BEq.rfl,Bool.true_and,List.all_eq_true,List.mem_map]
 rintro x ⟨y,_,rfl⟩
 simp[Enc.size,h2]
theorem OJ(l:List α):∀ x∈l.map (enc (α:=α)),x.size=Enc.sz α:=by
 simp only[List.mem_map];rintro x ⟨y,_,rfl⟩;exact Enc.size y
end
theorem cA(n:Int)(h1:-9223372036854775808≤n)(h2:n≤9223372036854775807):IntKind.i64.wrap n=n:=IntWalk.i64_in n ⟨h1,h2⟩
theorem aB.mk{P:Program}{f:FuncId}{fn:Func}{x:aP}{rs:List aZ}{args:List I}{r:I}(hf:P.funcs[f]?=some fn)(hcall:gG P f=true)(hc:(fn.body.bind (e9 P fn.ntmps))=some x)
  (hrs:iB P fn.results.toList=some rs) (hn:args.length≤fn.ntmps) (h:∀ (w:World) (D:aH) (E:aS),U ⟨P,w,D,fn.ntmps,di E,E,ig,none⟩ x (jl rs r) (au (bp 0 args) [])):aB P f args r:=by
 obtain ⟨body,hb,hc'⟩:=Option.bind_eq_some_iff.1 hc
 exact aB.sT hf hb hcall hc' hrs hn (fun w D E=>(h w D E).sub (ahx args))
end Go.Abs
namespace Go.Abs
open Go Go.RowKit
open Enc (enc)
def ar(x:I)(p q:Prop):Prop:=match x with
 | .bool t=>(t=true→p)∧(t=false→q)
 |_=>False
theorem U.bD{c:cK}{A:ab}{Q:Exit→ab→Prop}{b:aG}{x y:aP}(h:ar (ae A b) (U c x Q A) (U c y Q A)):U c (.cond b x y) Q A:=by
 generalize hb:ae A b=v at h
 unfold ar at h
 split at h
 ·exact U.cond hb h.1 h.2
 ·exact h.elim
def ni(r:I):Option (List I)→Prop
 |some xs=>kD xs=r
 |none=>False
theorem agR(rs:List aZ)(r:I)(A:ab):jl rs r .ret A=ni r (eV A rs):=by
 simp only[jl,ni]
 cases eV A rs <;>simp
theorem agQ(rs:List aZ)(r:I)(A:ab):jl rs r .normal A=ni r (eV A rs):=by
 simp only[jl,ni]
 cases eV A rs <;>simp
def qR(s:Option Nat)(A:ab):Option I→Option I
 |some x=>if bU s x=true then a6 true A x else none
 |none=>none
def kV:Option I→Option (List I)→Option (List I)
 |some x,some xs=>some (x::xs)
 |_,_=>none
theorem agK(A:ab):eV A []=some []:=rfl
theorem agL(A:ab)(t:Nat)(rs:List aZ):eV A (.tmp t::rs)=kV (a6 true A (A.t t)) (eV A rs):=by
 simp only[eV,tn]
 cases a6 true A (A.t t) <;>cases eV A rs <;>rfl
theorem agJ(A:ab)(a:Nat)(s:Option Nat)(rs:List aZ):eV A (.cell a s::rs)=kV (qR s A (gH A (A.t a))) (eV A rs):=by
 simp only[eV,tn,lV]
 cases gH A (A.t a) with
 |none=>cases eV A rs <;>rfl
 |some x =>
  by_cases h:bU s x=true
  ·simp only[qR,if_pos h];cases a6 true A x <;>cases eV A rs <;>rfl
  ·simp only[qR,if_neg h];cases eV A rs <;>rfl
def rY(aw:Bool)(A:ab):Option I→Option I
 |some x=>if x.bl=true then some (.ref x) else (dU A 9 x).map .ref
 |none=>none
theorem WR(A:ab)(n:Nat)(p:List Nat):a6 true A (.ptr n p)=rY true A (fe p (A.o n)):=by
 simp only[a6,lV,gH,if_true,rY]
 cases fe p (A.o n) <;>rfl
open Classical in
noncomputable def l4(sz lo k:Nat):Option (List I)→Option I
 |some fs=>if I.bT ((fs.drop lo).take k)=true then some (.slice sz ((fs.drop lo).take k)) else none
 |none=>none
theorem WV(A:ab)(n:Nat)(p:List Nat)(sz lo k:Nat):a6 true A (.view n p sz lo k)=l4 sz lo k (fo (fe p (A.o n))):=by
 simp only[a6,lV,gH,if_true]
 cases fe p (A.o n) with
 |none=>rfl
 |some c=>cases c <;>simp only[fo,I.dj,l4] <;>(split <;>simp_all)
open Classical in
noncomputable def nH(k:Nat):Option ah→Option I
 |some (.bS _ sz es)=>if k=es.length∧I.bT es=true then some (.slice sz es) else none
 |_=>none
theorem WQ(aw:Bool)(A:ab)(n k:Nat):a6 aw A (.own n k)=nH k (A.o n):=by
 simp only[a6]
 cases A.o n with
 |none=>rfl
 |some y=>cases y <;>simp only[nH] <;>(split <;>simp_all)
theorem WJ(aw:Bool)(A:ab)(fs:List I):a6 aw A (.agg fs)=(bY aw A fs).map .agg:=by simp only[a6]
theorem WL(aw:Bool)(A:ab)(f:FuncId)(fs:List I):a6 aw A (.func f fs)=(bY aw A fs).map (.func f):=by simp only[a6]
theorem WM(aw:Bool)(A:ab)(k:IntKind)(n:Int):a6 aw A (.int k n)=some (.int k n):=by simp only[a6]
theorem WK(aw:Bool)(A:ab)(n:Bool):a6 aw A (.bool n)=some (.bool n):=by simp only[a6]
theorem WU(aw:Bool)(A:ab)(n:ByteArray):a6 aw A (.cR n)=some (.cR n):=by simp only[a6]
theorem WO(aw:Bool)(A:ab)(n:Nat):a6 aw A (.nils n)=some (.slice n []):=by simp only[a6]
theorem WT(aw:Bool)(A:ab)(n:Nat)(es:List I):a6 aw A (.slice n es)=if I.bT es=true then some (.slice n es) else none:=by simp only[a6]
theorem WS(aw:Bool)(A:ab)(x:I):a6 aw A (.ref x)=if x.bl=true then some (.ref x) else none:=by simp only[a6]
theorem WY(aw:Bool)(A:ab):bY aw A []=some []:=by simp only[bY]
theorem WX(aw:Bool)(A:ab)(x:I)(xs:List I):bY aw A (x::xs)=kV (a6 aw A x) (bY aw A xs):=by
 simp only[bY];cases a6 aw A x <;>cases bY aw A xs <;>rfl
theorem S5(fs:List I):(I.agg fs).bl=I.bT fs:=by simp only[I.bl]
theorem Tb(n:Nat)(fs:List I):(I.slice n fs).bl=I.bT fs:=by simp only[I.bl]
theorem Ta(x:I):(I.ref x).bl=x.bl:=by simp only[I.bl]
theorem S9(k:IntKind)(n:Int):(I.int k n).bl=true:=by simp only[I.bl]
theorem S6(n:Bool):(I.bool n).bl=true:=by simp only[I.bl]
theorem Tc(n:ByteArray):(I.cR n).bl=true:=by simp only[I.bl]
theorem S7(f:FuncId)(fs:List I):(I.func f fs).bl=I.bT fs:=by simp only[I.bl]
theorem Tf:I.bT []=true:=by simp only[I.bT]
theorem Td(x:I)(xs:List I):I.bT (x::xs)=(x.bl&&I.bT xs):=by simp only[I.bT]
theorem O6(k:IntKind)(a b:Int):cE .add (.int k a) (.int k b)=some (.int k (k.wrap (a+b))):=by simp[cE]
theorem Pn(k:IntKind)(a b:Int):cE .sub (.int k a) (.int k b)=some (.int k (k.wrap (a-b))):=by simp[cE]
theorem Pe(k:IntKind)(a b:Int):cE .mul (.int k a) (.int k b)=some (.int k (k.wrap (a*b))):=by simp[cE]
theorem Pj(k:IntKind)(a b:Int):cE .quo (.int k a) (.int k b)=if b=0 then none else some (.int k (k.wrap (a.tdiv b))):=by simp[cE]
theorem Pk(k:IntKind)(a b:Int):cE .rem (.int k a) (.int k b)=if b=0 then none else some (.int k (a.tmod b)):=by simp[cE]
theorem O7(k:IntKind)(a b:Int):cE .and (.int k a) (.int k b)=some (.int k (k.wrap ((BitVec.ofInt k.bits a &&& BitVec.ofInt k.bits b).toNat:Int))):=by simp[cE]
theorem Ph(k:IntKind)(a b:Int):cE .or (.int k a) (.int k b)=some (.int k (k.wrap ((BitVec.ofInt k.bits a ||| BitVec.ofInt k.bits b).toNat:Int))):=by simp[cE]
theorem Po(k:IntKind)(a b:Int):cE .xor (.int k a) (.int k b)=some (.int k (k.wrap ((BitVec.ofInt k.bits a ^^^ BitVec.ofInt k.bits b).toNat:Int))):=by simp[cE]
theorem O8(k:IntKind)(a b:Int):cE .andNot (.int k a) (.int k b)=some (.int k (k.wrap ((BitVec.ofInt k.bits a &&& ~~~ BitVec.ofInt k.bits b).toNat:Int))):=by simp[cE]
theorem Pl(k k':IntKind)(a b:Int):cE .shl (.int k a) (.int k' b)=if 0≤b then some (.int k (k.wrap (a*2^(min b.toNat k.bits)))) else none:=by simp[cE]
theorem Pm(k k':IntKind)(a b:Int):cE .shr (.int k a) (.int k' b)=if 0≤b then some (.int k (a.fdiv (2^(min b.toNat k.bits)))) else none:=by simp[cE]
theorem O9(k:IntKind)(a b:Int):cE .eql (.int k a) (.int k b)=some (.bool (a==b)):=by simp[cE]
theorem Pf(k:IntKind)(a b:Int):cE .neq (.int k a) (.int k b)=some (.bool (a != b)):=by simp[cE]
theorem Pd(k:IntKind)(a b:Int):cE .lss (.int k a) (.int k b)=some (.bool (decide (a<b))):=by simp[cE]
theorem Pc(k:IntKind)(a b:Int):cE .leq (.int k a) (.int k b)=some (.bool (decide (a≤b))):=by simp[cE]
theorem Pb(k:IntKind)(a b:Int):cE .gtr (.int k a) (.int k b)=some (.bool (decide (b<a))):=by simp[cE]
theorem Pa(k:IntKind)(a b:Int):cE .geq (.int k a) (.int k b)=some (.bool (decide (b≤a))):=by simp[cE]
theorem oG :
  (∀ ts os d v,(au ts os).put d v=au ((d,v)::ts) os)∧(∀ ts os d v,(au ts os).aI (some d) v=au ((d,v)::ts) os)∧(∀ (A:ab) v,A.aI none v=A) ∧
  (∀ ts os d x,(au ts os).aL d x=au ts ((d,x)::os))∧(∀ ts os k,(au ts os).t k=cj ts k)∧(∀ ts os k,(au ts os).o k=aj os k) ∧
  (∀ j v r k,cj ((j,v)::r) k=if k=j then v else cj r k)∧(∀ j v r k,aj ((j,v)::r) k=if k=j then some v else aj r k)∧(∀ k,aj [] k=none) ∧
  (∀ A k,ae A (.t k)=A.t k)∧(∀ A x,ae A (.c x)=x)∧(∀ d rest A v,c7 d rest A v=az rest (A.aI d v))∧(∀ v k,cJ (some v) k=k v)∧(∀ A,az [] A=.done A) :=
 ⟨sH,aew,aev,nV,aex,aeu,aV,cw,sA,Ws,Wr,adM,Pp,OM⟩
theorem JQ :
  (∀ d rest A op,az (⟨d,op,none⟩::rest) A=bM A d op rest)∧(∀ d rest A op t b,az (⟨d,op,some (t,b)⟩::rest) A=gK (A.t t) b d op rest A) ∧
  (∀ d rest A op,gK (.bool true) true d op rest A=bM A d op rest)∧(∀ d rest A op,gK (.bool false) false d op rest A=bM A d op rest) ∧
  (∀ d rest A op,gK (.bool true) false d op rest A=az rest (A.aI d .undef))∧(∀ d rest A op,gK (.bool false) true d op rest A=az rest (A.aI d .undef))∧(∀ d rest A op b,gK .undef b d op rest A=az rest (A.aI d .undef)) ∧
  (∀ d rest A x,bM A d (.mv x) rest=az rest (A.aI d (ae A x)))∧(∀ d rest A c a b,bM A d (.pick c a b) rest=qH A d a b rest (ae A c)) ∧
  (∀ A d a b rest,qH A d a b rest (.bool true)=az rest (A.aI d (ae A a)))∧(∀ A d a b rest,qH A d a b rest (.bool false)=az rest (A.aI d (ae A b))) ∧
  (∀ d rest A op x y,bM A d (.bin op x y) rest=cJ (cE op (ae A x) (ae A y)) (c7 d rest A)) ∧
  (∀ d rest A ty neg x y,bM A d (.eqv ty neg x y) rest=cJ ((cn ty (ae A x) (ae A y)).map fun b=>.bool (if neg then !b else b)) (c7 d rest A)) ∧
  (∀ d rest A op x,bM A d (.un op x) rest=cJ (re op (ae A x)) (c7 d rest A))∧(∀ b,re .not (.bool b)=some (.bool !b))∧(∀ k n,re .neg (.int k n)=some (.int k (k.wrap (0-n))))∧(∀ k n,re .xor (.int k n)=some (.int k (oQ k n))) ∧
  (∀ d rest A k x,bM A d (.conv k x) rest=cJ (uE k (ae A x)) (c7 d rest A))∧(∀ k k' n,uE k (.int k' n)=some (.int k (k.wrap n))) ∧
  (∀ d rest A s x,bM A d (.ld s x) rest=cJ (gu s (gH A (ae A x))) (c7 d rest A))∧(∀ d rest A f off x,bM A d (.fa f off x) rest=cJ (lh A f off (ae A x)) (c7 d rest A)) ∧
  (∀ d rest A f off s x,bM A d (.fl f off s x) rest=cJ (r4 f off s (ae A x).dj) (c7 d rest A))∧(∀ d rest A n esz x i,bM A d (.ia n esz x i) rest=cJ (qm A n esz (ae A x) (ae A i)) (c7 d rest A)) ∧
  (∀ d rest A esz x i,bM A d (.is esz x i) rest=cJ (lq A esz (ae A x) (ae A i)) (c7 d rest A))∧(∀ d rest A n esz s x i,bM A d (.ix n esz s x i) rest=cJ (qv n esz s (ae A x) (ae A i)) (c7 d rest A)) ∧
  (∀ d rest A x,bM A d (.len x) rest=cJ (jz A (ae A x)) (c7 d rest A))∧(∀ d rest A n esz x,bM A d (.va n esz x) rest=cJ (oA A n esz (ae A x)) (c7 d rest A)) ∧
  (∀ d rest A zs ps,bM A d (.bld zs ps) rest=cJ ((dM zs (ps.map fun p=>(p.1,ae A p.2))).map .agg) (c7 d rest A))∧(∀ d rest A x i,bM A d (.ext x i) rest=cJ (uT i (ae A x)) (c7 d rest A))∧(∀ i fs,uT i (.tuple fs)=fs[i]?) ∧
  (∀ d rest A f caps,bM A d (.mk f caps) rest=cJ (if ((caps.map (ae A)).all fun y=>y.b9)=true then some (.func f (caps.map (ae A))) else none) (c7 d rest A)) ∧
  (∀ rest A d z,bM A (some d) (.alloc z) rest=ua A d z rest (A.o d))∧(∀ A d z rest,ua A d z rest none=az rest ((A.aL d (.box z)).put d (.ptr d []))) ∧
  (∀ rest A d x,bM A (some d) (.box x) rest=rJ A d (ae A x) rest (A.o d))∧(∀ A d z rest,rJ A d z rest none=rK A d z rest z.b9)∧(∀ A d z rest,rK A d z rest true=az rest ((A.aL d (.box z)).put d (.ptr d []))) ∧
  (∀ rest A s x v,bM A none (.br s x v) rest=tC A s (ae A v) rest (ae A x))∧(∀ A s v rest n p,tC A s v rest (.ptr n p)=tD A s n p v rest (A.o n))∧(∀ A s n p v rest b,tD A s n p v rest (some (.box b))=dS A s n p b v rest (b.at p)) ∧
  (∀ d rest A f args,bM A d (.call f args) rest=.call f (args.map (ae A)) (bY true A (args.map (ae A))) (bY false A (args.map (ae A))) d rest A) ∧
  (∀ d rest A x args,bM A d (.eG x args) rest=rN A d (args.map (ae A)) rest (ae A x))∧(∀ A d args rest f caps,rN A d args rest (.func f caps)=.call f (args++caps) (bY true A (args++caps)) (bY false A (args++caps)) d rest A) :=
 ⟨OA,OB,acV,acS,acU,acT,acW,afm,afq,fun _ _ _ _ _=>rfl,fun _ _ _ _ _=>rfl,aeY,ae7,afv,fun _=>rfl,fun _ _=>rfl,fun _ _=>rfl,ae5,fun _ _ _=>rfl,afe,ae9,afa,afb,afc,afd,aff,afw,aeZ,ae8,fun _ _=>rfl,afi,
  aeW,fun _ _ _ _=>rfl,ae0,fun _ _ _ _=>rfl,fun _ _ _ _=>rfl,afu,fun _ _ _ _ _ _=>rfl,fun _ _ _ _ _ _ _=>rfl,ae2,ae3,fun _ _ _ _ _ _=>rfl⟩
theorem ep{A:ab}{s:Option Nat}{n:Nat}{p:List Nat}{b v old:I}{rest:List av}(h1:v.b9=true)(h2:bU s v=true)(h3:v.aJ=old.aJ):dS A s n p b v rest (some old)=az rest (A.aL n (.box (b.dx p v))):=by
 simp only[dS];rw[if_pos ⟨h1,h2,h3⟩]
theorem MS :
  (∀ A x,gH A (.ref x)=some x)∧(∀ A n p,gH A (.ptr n p)=fe p (A.o n))∧(∀ p c,fe p (some (.box c))=c.at p)∧(∀ c:I,c.at []=some c)∧(∀ (c:I) i p,c.at (i::p)=fO i p c.dj) ∧
  (∀ i p fs,fO i p (some fs)=oK p fs[i]?)∧(∀ p f,oK p (some f)=f.at p)∧(∀ c v:I,c.dx [] v=v)∧(∀ (c:I) i p v,c.dx (i::p) v=qU c i p v c.dj)∧(∀ c i p v fs,qU c i p v (some fs)=tw fs i p v fs[i]?) ∧
  (∀ fs i p v f,tw fs i p v (some f)=.agg (fs.set i (f.dx p v)))∧(∀ fs,(I.agg fs).dj=some fs)∧(∀ x:I,fo (some x)=x.dj) ∧
  (∀ s x,gu s (some x)=if bU s x=true then some x else none) ∧
  (∀ A f off c,lh A f off (.ref c)=qf f off c.dj)∧(∀ A f off n p,lh A f off (.ptr n p)=qe n p f off (fo (fe p (A.o n))))∧(∀ f off fs,qf f off (some fs)=oV fs f off fs[f]?)∧(∀ fs f off v,oV fs f off (some v)=dQ fs f off (.ref v)) ∧
  (∀ n p f off fs,qe n p f off (some fs)=dQ fs f off (.ptr n (p++[f])))∧(∀ A n esz x kk k,qm A n esz x (.int kk k)=nN A n esz k x)∧(∀ A n esz k c,nN A n esz k (.ref c)=fq k n (qo n esz k c.dj)) ∧
  (∀ A n esz k m p,nN A n esz k (.ptr m p)=fq k n (qn n esz m p k (fo (fe p (A.o m)))))∧(∀ n esz k fs,qo n esz k (some fs)=fp n esz fs ((fs[k.toNat]?).map .ref))∧(∀ n esz m p k fs,qn n esz m p k (some fs)=fp n esz fs (some (.ptr m (p++[k.toNat])))) ∧
  (∀ A esz x kk k,lq A esz x (.int kk k)=ic A esz k x)∧(∀ n esz s x kk k,qv n esz s x (.int kk k)=qu n esz s k x.dj)∧(∀ n esz s k fs,qu n esz s k (some fs)=fq k n (fp n esz fs (gu s fs[k.toNat]?))) ∧
  (∀ A n esz m p,oA A n esz (.ptr m p)=rf n esz m p (fo (fe p (A.o m))))∧(∀ n esz m p fs,rf n esz m p (some fs)=oB n esz fs (.view m p esz 0 n)) ∧
  (∀ A sz es,jz A (.slice sz es)=some (.int .i64 es.length))∧(∀ A n,jz A (.nils n)=some (.int .i64 0))∧(∀ A n,jz A (.c0 n)=some (.int .i64 0)) :=
 ⟨fun _ _=>rfl,fun _ _ _=>rfl,fun _ _=>rfl,hE,O1,fun _ _ _=>rfl,fun _ _=>rfl,gf,Mg,fun _ _ _ _ _=>rfl,fun _ _ _ _ _=>rfl,fun _=>rfl,fun _=>rfl,fun _ _=>rfl,fun _ _ _ _=>rfl,fun _ _ _ _ _=>rfl,fun _ _ _=>rfl,fun _ _ _ _=>rfl,
  fun _ _ _ _ _=>rfl,fun _ _ _ _ _ _=>rfl,fun _ _ _ _ _=>rfl,fun _ _ _ _ _ _=>rfl,fun _ _ _ _=>rfl,fun _ _ _ _ _ _=>rfl,fun _ _ _ _ _=>rfl,fun _ _ _ _ _ _=>rfl,fun _ _ _ _ _=>rfl,fun _ _ _ _ _=>rfl,fun _ _ _ _ _=>rfl,fun _ _ _=>rfl,fun _ _=>rfl,fun _ _=>rfl⟩
theorem Cc :
  (∀ A n p,a6 true A (.ptr n p)=rY true A (fe p (A.o n)))∧(∀ A x,rY true A (some x)=if x.bl=true then some (.ref x) else (dU A 9 x).map .ref)∧(∀ A n p sz lo k,a6 true A (.view n p sz lo k)=l4 sz lo k (fo (fe p (A.o n)))) ∧
  (∀ A n p,a6 false A (.ptr n p)=none)∧(∀ A n p sz lo k,a6 false A (.view n p sz lo k)=none)∧(∀ x,kV none x=none)∧(∀ x,kV x none=none) ∧
  (∀ aw A n k,a6 aw A (.own n k)=nH k (A.o n))∧(∀ aw A fs,a6 aw A (.agg fs)=(bY aw A fs).map .agg)∧(∀ aw A f fs,a6 aw A (.func f fs)=(bY aw A fs).map (.func f))∧(∀ aw A k n,a6 aw A (.int k n)=some (.int k n))∧(∀ aw A b,a6 aw A (.bool b)=some (.bool b)) ∧
  (∀ aw A s,a6 aw A (.cR s)=some (.cR s))∧(∀ aw A n,a6 aw A (.nils n)=some (.slice n []))∧(∀ aw A n es,a6 aw A (.slice n es)=if I.bT es=true then some (.slice n es) else none)∧(∀ aw A x,a6 aw A (.ref x)=if x.bl=true then some (.ref x) else none) ∧
  (∀ aw A,bY aw A []=some [])∧(∀ aw A x xs,bY aw A (x::xs)=kV (a6 aw A x) (bY aw A xs))∧(∀ x xs,kV (some x) (some xs)=some (x::xs)) ∧
  (∀ fs,(I.agg fs).bl=I.bT fs)∧(∀ n fs,(I.slice n fs).bl=I.bT fs)∧(∀ x,(I.ref x).bl=x.bl)∧(∀ k n,(I.int k n).bl=true)∧(∀ n,(I.bool n).bl=true)∧(∀ n,(I.cR n).bl=true)∧(∀ f fs,(I.func f fs).bl=I.bT fs) ∧
  I.bT []=true∧(∀ x xs,I.bT (x::xs)=(x.bl&&I.bT xs)) ∧
  (∀ rs r A,jl rs r .ret A=ni r (eV A rs))∧(∀ rs r A,jl rs r .normal A=ni r (eV A rs))∧(∀ r xs,ni r (some xs)=(kD xs=r))∧(∀ A,eV A []=some [])∧(∀ A t rs,eV A (.tmp t::rs)=kV (a6 true A (A.t t)) (eV A rs)) ∧
  (∀ A a s rs,eV A (.cell a s::rs)=kV (qR s A (gH A (A.t a))) (eV A rs))∧(∀ s A x,qR s A (some x)=if bU s x=true then a6 true A x else none)∧(∀ x,kD [x]=x)∧(∀ x y xs,kD (x::y::xs)=.tuple (x::y::xs)) :=
 ⟨WR,fun _ _=>rfl,WV,fun _ _ _=>rfl,fun _ _ _ _ _ _=>rfl,fun _=>rfl,fun x=>by cases x <;>rfl,WQ,WJ,WL,WM,WK,WU,WO,WT,WS,WY,WX,fun _ _=>rfl,S5,Tb,Ta,S9,S6,Tc,S7,Tf,Td,
  agR,agQ,fun _ _=>rfl,agK,agL,agJ,fun _ _ _=>rfl,fun _=>rfl,fun _ _ _=>rfl⟩
theorem zd :
  (∀ k a b,cE .add (.int k a) (.int k b)=some (.int k (k.wrap (a+b))))∧(∀ k a b,cE .sub (.int k a) (.int k b)=some (.int k (k.wrap (a-b))))∧(∀ k a b,cE .mul (.int k a) (.int k b)=some (.int k (k.wrap (a*b)))) ∧
  (∀ k a b,cE .quo (.int k a) (.int k b)=if b=0 then none else some (.int k (k.wrap (a.tdiv b))))∧(∀ k a b,cE .rem (.int k a) (.int k b)=if b=0 then none else some (.int k (a.tmod b))) ∧
  (∀ k a b,cE .and (.int k a) (.int k b)=some (.int k (k.wrap ((BitVec.ofInt k.bits a &&& BitVec.ofInt k.bits b).toNat:Int))))∧(∀ k a b,cE .or (.int k a) (.int k b)=some (.int k (k.wrap ((BitVec.ofInt k.bits a ||| BitVec.ofInt k.bits b).toNat:Int)))) ∧
  (∀ k a b,cE .xor (.int k a) (.int k b)=some (.int k (k.wrap ((BitVec.ofInt k.bits a ^^^ BitVec.ofInt k.bits b).toNat:Int))))∧(∀ k a b,cE .andNot (.int k a) (.int k b)=some (.int k (k.wrap ((BitVec.ofInt k.bits a &&& ~~~ BitVec.ofInt k.bits b).toNat:Int)))) ∧
  (∀ k k' a b,cE .shl (.int k a) (.int k' b)=if 0≤b then some (.int k (k.wrap (a*2^(min b.toNat k.bits)))) else none)∧(∀ k k' a b,cE .shr (.int k a) (.int k' b)=if 0≤b then some (.int k (a.fdiv (2^(min b.toNat k.bits)))) else none) ∧
  (∀ k a b,cE .eql (.int k a) (.int k b)=some (.bool (a==b)))∧(∀ k a b,cE .neq (.int k a) (.int k b)=some (.bool (a != b)))∧(∀ k a b,cE .lss (.int k a) (.int k b)=some (.bool (decide (a<b))))∧(∀ k a b,cE .leq (.int k a) (.int k b)=some (.bool (decide (a≤b)))) ∧
  (∀ k a b,cE .gtr (.int k a) (.int k b)=some (.bool (decide (b<a))))∧(∀ k a b,cE .geq (.int k a) (.int k b)=some (.bool (decide (b≤a)))) :=
 ⟨O6,Pn,Pe,Pj,Pk,O7,Ph,Po,O8,Pl,Pm,O9,Pf,Pd,Pc,Pb,Pa⟩
end Go.Abs
namespace Go.Abs
open Go Go.RowKit
open Enc (enc)
section
variable {α:Type} [Enc α]
theorem ad6(A:ab)(l:List α):jz A (enc l)=some (.int .i64 l.length):=by simp[fW,jz]
theorem ID{A:ab}(esz:Nat){k:Int}{l:List α}(h:0≤k∧k.toNat<l.length)(hs:Enc.sz α=esz):ic A esz k (enc l)=some (.ref (enc l[k.toNat])):=by
 simp only[fW,ic,hs,List.length_map,true_and]
 rw[if_pos ⟨h.1,by omega⟩]
 simp[h.2]
theorem fL{A:ab}(esz:Nat){k:Nat}{l:List α}(h:k<l.length)(hs:Enc.sz α=esz):ic A esz k (enc l)=some (.ref (enc l[k])):=by
 have:=ID (A:=A) esz (k:=(k:Int)) (l:=l) ⟨by omega,by simpa using h⟩ hs
 simpa using this
theorem aM.lt{α:Type}{n:Nat}(x:aM n α){k:Nat}(h:k<n):k<x.l.length:=by rw[x.h];exact h
theorem jb{n:Nat}(esz:Nat){k:Nat}(x:aM n α){y:Option I}(h:k<n)(hs:Enc.sz α=esz):fq (k:Int) n (fp n esz (x.l.map enc) y)=y:=by
 simp only[fq,fp,uS n esz x.l x.h hs,if_true]
 rw[if_pos ⟨by omega,by omega⟩]
theorem fP{n:Nat}(esz:Nat){k:Int}(x:aM n α){y:Option I}(h:0≤k∧k<n)(hs:Enc.sz α=esz):fq k n (fp n esz (x.l.map enc) y)=y:=by
 simp only[fq,fp,uS n esz x.l x.h hs,if_true]
 rw[if_pos h]
theorem acZ{n k:Nat}(x:aM n α)(h:k<n):(x.l.map enc)[k]?=some (enc (x.l[k]'(x.lt h))):=by
 simp[x.lt h]
theorem O0{n k:Nat}{p:List Nat}{x:aM n α}(h:k<n):fO k p (some (x.l.map enc))=(enc (x.l[k]'(x.lt h))).at p:=by
 have hl:=x.lt h
 simp[fO,oK,hl]
theorem afH(k:IntKind)(n:Int):gu none (some (.int k n))=some (.int k n):=by simp[gu,dW,bU,I.isAgg]
theorem afF(b:Bool):gu none (some (.bool b))=some (.bool b):=by simp[gu,dW,bU,I.isAgg]
theorem afI(z:Nat)(es:List I):gu none (some (.slice z es))=some (.slice z es):=by simp[gu,dW,bU,I.isAgg]
theorem afG(f:FuncId)(es:List I):gu none (some (.func f es))=some (.func f es):=by simp[gu,dW,bU,I.isAgg]
end
mutual
/-- What every value in memory keeps to: whole numbers within their kind,slices no longer than a slice can be. -/
def I.wf:I→Prop
 | .agg fs=>I.gU fs
 | .int k n=>k.min≤n∧n≤k.max
 | .cR s=>s.size≤maxLen
 | .slice _ es=>es.length≤maxLen∧I.gU es
 | .ref c=>c.wf
 | .func _ caps=>I.gU caps
 | .iface _ v=>v.wf
 |_=>True
def I.gU:List I→Prop
 | []=>True
 |x::xs=>x.wf∧I.gU xs
end
mutual
theorem tf{w:World}{D:aH}{E:aS} : ∀ (x:I) (cs:List Value),af w D E x cs→x.wf
 | .agg fs,cs,h=>by simp only[af,I.wf] at *;exact xH fs cs h
 | .int k n,cs,h=>by simp only[af,I.wf] at *;exact h.2
 | .cR s,cs,h=>by simp only[af,I.wf] at *;exact h.2
 | .slice sz es,cs,h=>by
  simp only[af,I.wf] at *
  obtain ⟨a,cap,_,h1,h2,h3,_⟩:=h
  refine ⟨by omega,?_⟩
  rcases h3 with rfl | ⟨b,off,cs',_,_,h4⟩
  ·simp[I.gU]
  ·exact xH es cs' h4
 | .ref c,cs,h=>by simp only[af,I.wf] at *;obtain ⟨b,off,cs',_,_,h⟩:=h;exact tf c cs' h
 | .func f caps,cs,h=>by simp only[af,I.wf] at *;obtain ⟨vs,_,h⟩:=h;exact tu caps vs h
 | .iface t v,cs,h=>by simp only[af,I.wf] at *;obtain ⟨u,cs',_,_,h⟩:=h;exact tf v cs' h
 | .bool _,_,_ | .nilp,_,_ | .da,_,_ | .dL,_,_ | .raw _,_,_ | .nils _,_,_ | .c0 _,_,_ | .ptr _ _,_,_ | .own _ _,_,_ | .view _ _ _ _ _,_,_ | .mref _,_,_ | .dg _,_,_ | .cM _ _,_,_ | .undef,_,_ | .c8,_,_ | .tuple _,_,_=>by simp[I.wf]
theorem xH{w:World}{D:aH}{E:aS} : ∀ (xs:List I) (cs:List Value),aF w D E xs cs→I.gU xs
 | [],_,_=>by simp[I.gU]
 |x::xs,cs,h=>by
  simp only[aF,I.gU] at *
  obtain ⟨c1,c2,_,h1,h2⟩:=h
  exact ⟨tf x c1 h1,xH xs c2 h2⟩
theorem tu{w:World}{D:aH}{E:aS} : ∀ (xs:List I) (vs:List Value),aD w D E xs vs→I.gU xs
 | [],_,_=>by simp[I.gU]
 |x::xs,vs,h=>by
  simp only[aD,I.gU] at *
  obtain ⟨v,rest,cs,_,_,h1,h2⟩:=h
  exact ⟨tf x cs h1,tu xs rest h2⟩
end
theorem ahR{α:Type}[Enc α](l:List α):I.gU (l.map enc)↔∀ x∈l,(enc x:I).wf:=by
 induction l with
 |nil=>simp[I.gU]
 |cons x l ih=>simp[I.gU,ih]
theorem kM{α:Type}[Enc α](l:List α):(enc l:I).wf↔l.length≤maxLen∧∀ x∈l,(enc x:I).wf:=by
 simp only[fW,I.wf,List.length_map,ahR]
theorem ahQ(n:Int):(enc n:I).wf↔-9223372036854775808≤n∧n≤9223372036854775807:=by
 change IntKind.i64.min≤n∧n≤IntKind.i64.max↔_
 simp[IntKind.min,IntKind.max,IntKind.bits,IntKind.signed]
theorem aB.wf{P:Program}{f:FuncId}{args:List I}{r:I}(hc:gG P f=true)(h:I.gU args→aB P f args r):aB P f args r :=
 ⟨hc,fun w D vs h1 h2=>(h (tu _ _ h2)).2 w D vs h1 h2⟩
theorem aB.bu{P:Program}{f:FuncId}{fn:Func}{x:aP}{rs:List aZ}{args:List I}{r:I}(hf:P.funcs[f]?=some fn)(hcall:gG P f=true)(hc:(fn.body.bind (e9 P fn.ntmps))=some x)
  (hrs:iB P fn.results.toList=some rs) (hn:args.length≤fn.ntmps) (h:I.gU args→∀ (w:World) (D:aH) (E:aS),U ⟨P,w,D,fn.ntmps,di E,E,ig,none⟩ x (jl rs r) (au (bp 0 args) [])):aB P f args r :=
 aB.wf hcall fun hw=>aB.mk hf hcall hc hrs hn (h hw)
theorem bK{α:Type}[Enc α] :
  (∀ A (l:List α),jz A (enc l)=some (.int .i64 l.length))∧(∀ n (x:aM n α),(enc x).dj=some (x.l.map enc)) :=
 ⟨ad6,fun _ _=>rfl⟩
theorem kB:(∀ k n,gu none (some (.int k n))=some (.int k n))∧(∀ b,gu none (some (.bool b))=some (.bool b))∧(∀ z es,gu none (some (.slice z es))=some (.slice z es))∧(∀ f es,gu none (some (.func f es))=some (.func f es)) :=
 ⟨afH,afF,afI,afG⟩
end Go.Abs
namespace Go.Abs
open Go Go.RowKit
open Enc (enc)
def pq(neg:Bool):I→Option I
 | .nils _=>some (.bool (!neg))
 | .slice _ es=>if es.isEmpty then none else some (.bool neg)
 | .view _ _ _ _ _=>some (.bool neg)
 |_=>none
def IQ:I→Option I
 | .cR s=>some (.int .i64 s.size)
 |_=>none
open Classical in
noncomputable def ou(n:Nat)(p:List Nat)(sz l0 k esz:Nat)(lo hi mx:Option I):Option (List I)→Option I
 |some fs=>if sz=esz then gS n p sz l0 k fs.length lo hi mx else none
 |none=>none
noncomputable def ot(A:ab)(esz:Nat)(lo hi mx:Option I):I→Option I
 | .slice sz es=>if sz=esz then jH sz es lo hi mx else none
 | .nils sz=>if sz=esz then jH sz [] lo hi mx else none
 | .c0 sz=>if sz=esz then jH sz [] lo hi mx else none
 | .view n p sz l0 k=>ou n p sz l0 k esz lo hi mx (fo (fe p (A.o n)))
 |_=>none
open Classical in
noncomputable def hP(esz:Nat):Option (List I)→Option I
 |some es=>if (es.all fun e=>e.size==esz)=true∧I.bT es=true then some (.slice esz es) else none
 |none=>none
open Classical in
noncomputable def pW(A:ab)(d:Option Nat)(e esz bytes n l T sz':Nat)(es:List I)(rest:List av):I→cF
 | .slice sz ys=>if xe e esz bytes l sz ys T sz' es then az rest ((A.aL n (.bS e esz (es++ys))).aI d (.own n (es.length+ys.length))) else .fail
 |_=>.fail
open Classical in
noncomputable def oH(A:ab)(d:Option Nat)(e esz bytes:Nat)(z:I)(n l T:Nat)(xs:List Int)(rest:List av):I→cF
 | .slice _ ys=>if xf e esz bytes l ys T xs z then az rest ((A.aL n (.cO e (xs++qp ys))).aI d (.own n (xs.length+ys.length))) else .fail
 |_=>.fail
noncomputable def pV(A:ab)(d:Option Nat)(e esz bytes:Nat)(z:I)(n l:Nat)(x:I)(rest:List av):Option ah→cF
 |some (.bS T sz' es)=>pW A d e esz bytes n l T sz' es rest x
 |some (.cO T xs)=>oH A d e esz bytes z n l T xs rest x
 |_=>.fail
noncomputable def jN(A:ab)(d:Option Nat)(e esz bytes:Nat)(z x:I)(rest:List av):I→cF
 | .own n l=>pV A d e esz bytes z n l x rest (A.o n)
 |s=>fm A d esz bytes z s (en A esz s) (en A esz x) (az rest)
section
variable (d:Option Nat) (rest:List av) (A:ab)
noncomputable def pt(neg:Bool)(x:I):Bool→cF
 |true=>.any (fun m=>m<2) (fun m=>az rest (A.aI d (.bool (m==0))))
 |false=>cJ (pq neg x) (c7 d rest A)
theorem afo(neg:Bool)(x:aG):bM A d (.nilS neg x) rest=pt d rest A neg (ae A x) (jL (ae A x)):=by
 simp only[bM,aY,a8]
 cases jL (ae A x)
 ·simp only[Bool.false_eq_true,if_false,pt,pq];cases ae A x <;>rfl
 ·rfl
theorem afg(x:aG):bM A d (.lenT x) rest=cJ (IQ (ae A x)) (c7 d rest A):=by
 simp only[bM,aY,a8];cases ae A x <;>rfl
theorem aft(esz:Nat)(x:aG)(lo hi mx:Option aG):bM A d (.sl esz x lo hi mx) rest=cJ (ot A esz (lo.map (ae A)) (hi.map (ae A)) (mx.map (ae A)) (ae A x)) (c7 d rest A):=by
 simp only[bM,aY,a8]
 cases ae A x <;>try rfl
 rename_i n p sz l0 k
 simp only[ot,lV,gH]
 cases fe p (A.o n) with
 |none=>rfl
 |some c=>cases c <;>simp only[fo,I.dj,ou] <;>(first | rfl | (split <;>rfl))
theorem ae1(esz:Nat)(ps:List aG):bM A d (.bs esz ps) rest=cJ (hP esz (bY false A (ps.map (ae A)))) (c7 d rest A):=by
 simp only[bM,aY,a8];cases bY false A (ps.map (ae A)) <;>simp only[hP] <;>rfl
theorem aeX(e esz bytes:Nat)(z:I)(s x:aG):bM A d (.dF e esz bytes z s x) rest=jN A d e esz bytes z (ae A x) rest (ae A s):=by
 simp only[bM,aY]
 generalize ae A s=s'
 generalize ae A x=x'
 cases s' <;>simp only[jN]
 rename_i n l
 cases x' <;>simp only <;>generalize A.o n=z <;>(cases z with
  |none=>rfl
  |some y=>cases y <;>simp only[pV,pW,oH])
end
theorem JR :
  (∀ d rest A neg x,bM A d (.nilS neg x) rest=pt d rest A neg (ae A x) (jL (ae A x)))∧(∀ d rest A neg x,pt d rest A neg x false=cJ (pq neg x) (c7 d rest A))∧(∀ z,jL (.nils z)=false)∧(∀ n p sz lo k,jL (.view n p sz lo k)=false)∧(∀ d rest A x,bM A d (.lenT x) rest=cJ (IQ (ae A x)) (c7 d rest A)) ∧
  (∀ d rest A esz x lo hi mx,bM A d (.sl esz x lo hi mx) rest=cJ (ot A esz (lo.map (ae A)) (hi.map (ae A)) (mx.map (ae A)) (ae A x)) (c7 d rest A)) ∧
  (∀ d rest A esz ps,bM A d (.bs esz ps) rest=cJ (hP esz (bY false A (ps.map (ae A)))) (c7 d rest A))∧(∀ d rest A e esz bytes z s x,bM A d (.dF e esz bytes z s x) rest=jN A d e esz bytes z (ae A x) rest (ae A s)) ∧
  (∀ A d e esz bytes z x rest n l,jN A d e esz bytes z x rest (.own n l)=pV A d e esz bytes z n l x rest (A.o n))∧(∀ A d e esz bytes z n l x rest T sz es,pV A d e esz bytes z n l x rest (some (.bS T sz es))=pW A d e esz bytes n l T sz es rest x)∧(∀ A d e esz bytes z n l x rest T xs,pV A d e esz bytes z n l x rest (some (.cO T xs))=oH A d e esz bytes z n l T xs rest x) ∧
  (∀ neg z,pq neg (.nils z)=some (.bool (!neg))) :=
 ⟨afo,fun _ _ _ _ _=>rfl,fun _=>rfl,fun _ _ _ _ _=>rfl,afg,aft,ae1,aeX,fun _ _ _ _ _ _ _ _ _ _=>rfl,fun _ _ _ _ _ _ _ _ _ _ _ _ _=>rfl,fun _ _ _ _ _ _ _ _ _ _ _ _=>rfl,fun _ _=>rfl⟩
theorem gw(p:Nat→Bool)(xs ys:List I):I.bV p (xs++ys)=(I.bV p xs&&I.bV p ys):=by
 induction xs with
 |nil=>simp[I.bV]
 |cons x xs ih=>simp[I.bV,ih,Bool.and_assoc]
section
variable {α:Type} [Enc α]
theorem nA{A:ab}{d:Option Nat}(e:Nat)(esz bytes n:Nat){l:Nat}{es ys:List α}{rest:List av}(hl:l=es.length)(hs:Enc.sz α=esz)(hy:ys≠[])(h1:es.length+ys.length≤maxLen)(h2:(es.length+ys.length)*bytes≤140737488355328) :
  pW A d e esz bytes n l e esz (es.map enc) rest (enc ys)=az rest ((A.aL n (.bS e esz ((es++ys).map enc))).aI d (.own n (es++ys).length)):=by
 simp only[fW,pW]
 rw[if_pos ⟨by simpa using hl,hs,rfl,rfl,by simpa using hy,by simpa using h1,by simpa using h2⟩]
 simp
theorem mJ(esz:Nat){ys:List α}(hs:Enc.sz α=esz):hP esz (some (ys.map enc))=some (enc ys):=by
 have h1:((ys.map enc).all fun e:I=>e.size==esz)=true:=by
  simp only[List.all_eq_true,List.mem_map]
  rintro x ⟨y,_,rfl⟩
  simp[Enc.size,hs]
 simp only[hP,fW]
 rw[if_pos ⟨h1,kj ys⟩,hs]
theorem p5(esz:Nat)(y:α)(hs:Enc.sz α=esz):hP esz (some [enc y])=some (enc [y]):=mJ (ys:=[y]) esz hs
theorem mQ(sz:Nat){T k:Nat}{es:List α}(hk:k=es.length)(hs:Enc.sz α=sz):nH k (some (.bS T sz (es.map enc)))=some (enc es):=by
 simp only[nH,List.length_map]
 rw[if_pos ⟨hk,kj es⟩,fW,hs]
theorem eh(p:Nat→Bool)(l:List α):I.bV p (l.map enc)=true:=by
 induction l with
 |nil=>rfl
 |cons x l ih=>simp only[List.map_cons,I.bV,bt,ih,Bool.and_self]
theorem ad7(A:ab)(n k T sz:Nat)(es:List α)(ho:A.o n=some (.bS T sz (es.map enc)))(hk:k=es.length):jz A (.own n k)=some (.int .i64 es.length):=by
 simp only[jz,ho,List.length_map,hk,if_true]
end
theorem IA :
  (∀ n:Int,hP 1 (some [.int .i64 n])=some (enc [n]))∧(∀ (T:Nat) (es:List Int),nH es.length (some (.bS T 1 (es.map enc)))=some (enc es)) :=
 ⟨fun n=>p5 1 n rfl,fun _ _=>mQ 1 rfl rfl⟩
theorem aE.OE{A:ab}{d n T sz z:Nat}(hd:A.t d=.nils z)(hn:A.o n=none)(hlt:n<1000000):aE A ((A.aL n (.bS T sz [])).put d (.own n 0)):=by
 rintro c a w ⟨D,E,h⟩
 have aq:E n=none:=by have:=h.bR n;rw[hn] at this;exact this
 have hl:dE w D E w D (fun m=>if m=n then some (.rw none 0) else E m):=by
  have ef:∀ {m:Nat} {e:bO},E m=some e→(if m=n then some (.rw none 0) else E m)=some e:=fun {m e} he=>by
   have:m≠n:=fun e=>by rw[e,aq] at he;cases he
   rw[if_neg this];exact he
  refine ⟨fun _ _ h=>h,fun _ _ _ _ h=>h,fun m b aJ he=>ef he,fun m aA l he =>?_,fun m b he=>ef he,fun m b he=>ef he,fun _ _ _ _ h=>h⟩
  ·have:m≠n:=fun e=>by rw[e,aq] at he;cases he
   exact ⟨aA,l,by simp only[if_neg this];exact he,Nat.le_refl _,fun _=>rfl⟩
 refine ⟨D,fun m=>if m=n then some (.rw none 0) else E m,h.sz,h.eK,fun t =>?_,h.dN,h.cY,h.c9,fun m =>?_,fun m m' e e' b h1 h2 h3 h4 =>?_,fun m e hm =>?_,h.eU,h.cG,h.eY,h.fr⟩
 ·simp only[ab.put,ab.aL]
  by_cases ht:t=d
  ·subst ht
   simp only[if_true]
   have hv:=h.eb t
   rw[hd] at hv
   obtain ⟨cs,q1,q2⟩:=hv
   simp only[af] at q2
   subst q2
   refine ⟨[.slice none 0 0],by simpa[bB,I.isAgg] using q1,?_⟩
   simp only[af,if_true]
   exact ⟨none,0,rfl,Nat.le_refl _,⟨_,_,_,rfl⟩,fun _=>trivial⟩
  ·simp only[if_neg ht]
   exact aR.bC hl (h.eb t)
 ·simp only[ab.put,ab.aL]
  by_cases hm:m=n
  ·subst hm
   simp only[if_true,cZ]
   exact ⟨none,by simp,by simp,trivial⟩
  ·simp only[if_neg hm]
   exact (h.bR m).bC hl (by simp only[if_neg hm]) fun _ _ _ _=>⟨rfl,fun _ ho=>ho⟩
 ·by_cases hm:m=n <;>by_cases hm':m'=n
  ·rw[hm,hm']
  ·simp only[if_pos hm,Option.some.injEq] at h1;subst h1;simp[bO.aA] at h3
  ·simp only[if_pos hm',Option.some.injEq] at h2;subst h2;simp[bO.aA] at h4
  ·simp only[if_neg hm] at h1;simp only[if_neg hm'] at h2;exact h.cN m m' e e' b h1 h2 h3 h4
 ·have hmn:m≠n:=fun e=>by rw[e,h.jS (.inr hlt)] at hm;cases hm
  simp only[if_neg hmn]
  exact h.dP m e hm
theorem aE.pT{ts:List (Nat×I)}{os:List (Nat×ah)}(d n T sz z:Nat)(hd:cj ts d=.nils z)(hn:aj os n=none){B:ab}(h:aE (au ((d,.own n 0)::ts) ((n,.bS T sz [])::os)) B)(hlt:n<1000000:=by decide):aE (au ts os) B :=
 ((aE.OE (A:=au ts os) (T:=T) (sz:=sz) hd hn hlt).trans (by rw[nV,sH];exact aE.refl _)).trans h
def aM.g{n:Nat}(x:aM n Int)(k:Nat):Int:=x.l.getD k 0
theorem aM.sf{n k:Nat}(x:aM n Int)(h:k<n):x.l[k]'(x.lt h)=x.g k:=by simp[aM.g,x.lt h]
theorem eF{n k:Nat}{p:List Nat}(x:aM n Int)(h:k<n):fO k p (some (x.l.map enc))=(I.int .i64 (x.g k)).at p:=by
 rw[O0 h,x.sf h];rfl
theorem qi{n k:Nat}(x:aM n Int)(h:k<n):(x.l.map (enc (α:=Int)))[k]?=some (I.int .i64 (x.g k)):=by
 rw[acZ x h,x.sf h];rfl
theorem JH:(∀ k n,bU none (.int k n)=true)∧(∀ b,bU none (.bool b)=true)∧(∀ z es,bU none (.slice z es)=true)∧(∀ f es,bU none (.func f es)=true)∧(∀ z,bU none (.nils z)=true)∧(∀ n k,bU none (.own n k)=true) :=
 ⟨fun _ _=>rfl,fun _=>rfl,fun _ _=>rfl,fun _ _=>rfl,fun _=>rfl,fun _ _=>rfl⟩
theorem pU{p:Nat→Bool}{n:Nat}(h:∀ k,k<n→p k=true):(List.range n).all p=true:=by
 simp only[List.all_eq_true,List.mem_range];exact h
theorem ny{p:Nat→Bool}{n:Nat}(i:Nat)(hi:i<n)(h:p i=false):(List.range n).all p=false:=by
 simp only[List.all_eq_false,List.mem_range];exact ⟨i,hi,by simp[h]⟩
theorem J:(type_of% @oG)∧(type_of% @JQ)∧(type_of% @JR)∧(type_of% @IA)∧(type_of% @JH)∧(type_of% @MS)∧(type_of% @Cc)∧(type_of% @zd)∧(∀ n:Int,(enc n:I)=.int .i64 n)∧(∀ n:Bool,(enc n:I)=.bool n) ∧
  (∀ {α β:Type} (f:α→β) (x:α) (xs:List α),List.map f (x::xs)=f x::List.map f xs)∧(∀ {α β:Type} (f:α→β),List.map f []=[])∧(∀ {α:Type} (xs:List α),[]++xs=xs)∧(∀ n:Nat,(n:Int).toNat=n)∧(∀ {α β:Type} (f:α→β) (x:α),Option.map f (some x)=some (f x)) ∧
  (∀ n:Nat,0≤(n:Int))∧((!true)=false)∧((!false)=true)∧((false=true)=False)∧((true=false)=False) :=
 ⟨@oG,@JQ,@JR,@IA,@JH,@MS,@Cc,@zd,iZ,BR,fun _ _ _=>rfl,fun _=>rfl,fun _=>rfl,fun _=>rfl,fun _ _=>rfl,fun n=>Int.natCast_nonneg n,rfl,rfl,by simp,by simp⟩
end Go.Abs
namespace Go.Abs
open Go Go.RowKit
open Enc (enc)
theorem kd.bu{P:Program}{f:FuncId}{fn:Func}{x:aP}{rs:List aZ}{Y:Value→List I→List (Nat×ah)→cS→Prop}{args:List I}{os:List (Nat×ah)}{post:cS}(hf:P.funcs[f]?=some fn)(hcall:gG P f=true)(hc:(fn.body.bind (e9 P fn.ntmps))=some x)
  (hrs:iB P fn.results.toList=some rs) (hn:args.length≤fn.ntmps) (hn2:fn.ntmps≤1000000) (hos:∀ m,al os m=true→1000000≤m) (h:I.gU args→∀ (w:World) (D:aH) (E:aS),U ⟨P,w,D,fn.ntmps,di E,E,Y,none⟩ x (nh rs post) (au (bp 0 args) os)):kd P f Y args os post:=by
 obtain ⟨body,hb,hc'⟩:=Option.bind_eq_some_iff.1 hc
 refine ⟨hcall,fun w D E vs hy hD ho hv =>?_⟩
 exact (kd.sT hf hb hcall hc' hrs hn (fun m hm=>⟨Nat.le_trans hn2 (hos m hm),hos m hm⟩) (fun w D E=>(h (tu _ _ hv) w D E).sub (MB args os))).2 w D E vs hy hD ho hv
theorem cD.bu{P:Program}{f:FuncId}{fn:Func}{x:aP}{rs:List aZ}{args:List I}{os:List (Nat×ah)}{post:cS}(hf:P.funcs[f]?=some fn)(hcall:gG P f=true)(hc:(fn.body.bind (e9 P fn.ntmps))=some x)
  (hrs:iB P fn.results.toList=some rs) (hn:args.length≤fn.ntmps) (hn2:fn.ntmps≤1000000) (hos:∀ m,al os m=true→1000000≤m) (h:I.gU args→∀ (w:World) (D:aH) (E:aS),U ⟨P,w,D,fn.ntmps,di E,E,ig,none⟩ x (nh rs post) (au (bp 0 args) os)):cD P f args os post :=
 cD.Jm (kd.bu hf hcall hc hrs hn hn2 hos h)
theorem qj{A:ab} : ∀ n x,aj [] n=some x→A.o n=some x∧x.only (al [])=true∧x.eL=true:=fun n x h=>by simp[aj] at h
theorem mS{A:ab}{k:Nat}{c:I}(h1:A.o k=some (.box c))(h2:∀ p,c.only p=true):∀ n x,aj [(k,.box c)] n=some x→A.o n=some x∧x.only (al [(k,.box c)])=true∧x.eL=true:=fun n x h=>by
 simp only[aj] at h
 split at h
 ·rename_i hn
  subst hn
  simp only[Option.some.injEq] at h
  subst h
  exact ⟨h1,h2 _,rfl⟩
 ·cases h
theorem er.nil{aw:Bool}{ρ:List (Nat×Nat)}{os0:List (Nat×ah)}{r:I}(h1:∀ p,r.only p=true)(h2:aw=true→r.cV=true):er aw ρ [] os0 r [] :=
 ⟨fun m x h=>by simp[aj] at h,fun m m' h=>by simp[al,aj] at h,fun m h=>by simp[al,aj] at h,fun m h=>by simp[al,aj] at h,h1 _,h2⟩
theorem df{k:Nat}{x:ah}{m:Nat} : al [(k,x)] m=true↔m=k:=by
 simp only[al,aj];split <;>simp_all
theorem er.sO{aw:Bool}{k d:Nat}{os0:List (Nat×ah)}{r c:I}(h1:∀ p,c.only p=true)(h2:aw=true→c.cV=true)(h3:r.only (al [(k,.box c)])=true)(h4:aw=true→r.cV=true)(h5:aj os0 d=none)(h6:d<1000000):er aw [(k,d)] [] os0 r [(k,.box c)]:=by
 refine ⟨fun m x h =>?_,fun m m' h h' _ =>?_,fun m h=>by simp[al,aj] at h,fun m h _ =>?_,h3,h4⟩
 ·simp only[aj] at h
  split at h
  ·simp only[Option.some.injEq] at h;subst h;exact ⟨h1 _,rfl,h2⟩
  ·cases h
 ·rw[df.1 h,df.1 h']
 ·rw[df.1 h];simp[bA,h5,h6]
theorem er.one{aw:Bool}{k d:Nat}{x:ah}{os0:List (Nat×ah)}{r c:I}(h1:∀ p,c.only p=true)(h2:aw=true→c.cV=true)(h3:r.only (al [(k,.box c)])=true)(h4:aw=true→r.cV=true):er aw [(k,d)] [(k,x)] os0 r [(k,.box c)]:=by
 refine ⟨fun m x h =>?_,fun m m' h h' _ =>?_,fun m h =>?_,fun m h h' =>?_,h3,h4⟩
 ·simp only[aj] at h
  split at h
  ·simp only[Option.some.injEq] at h;subst h;exact ⟨h1 _,rfl,h2⟩
  ·cases h
 ·rw[df.1 h,df.1 h']
 ·rw[df.1 h];exact df.2 rfl
 ·rw[df.1 h] at h'
  have:al [(k,x)] k=true:=df.2 rfl
  rw[this] at h';cases h'
theorem fT.nil{ρ:List (Nat×Nat)}{os0:List (Nat×ah)} : fT ρ [] os0:=⟨fun m x h=>by simp[aj] at h,fun m m' h=>by simp[al,aj] at h⟩
mutual
theorem qO(ρ:Nat→Nat):∀ x:I,x.bl=true→x.aK ρ=x
 | .agg fs,h=>by simp only[I.aK,I.bl] at *;rw[oc ρ fs h]
 | .slice _ es,h=>by simp only[I.aK,I.bl] at *;rw[oc ρ es h]
 | .ref x,h=>by simp only[I.aK,I.bl] at *;rw[qO ρ x h]
 | .func _ caps,h=>by simp only[I.aK,I.bl] at *;rw[oc ρ caps h]
 | .iface _ v,h=>by simp only[I.aK,I.bl] at *;rw[qO ρ v h]
 | .bool _,_ | .int _ _,_ | .cR _,_ | .nilp,_ | .da,_ | .dL,_ | .raw _,_ | .nils _,_ | .c0 _,_=>by simp only[I.aK]
 | .cM ks vs,h=>by simp only[I.aK,I.bl,Bool.and_eq_true] at *;rw[oc ρ ks h.1,oc ρ vs h.2]
 | .ptr _ _,h | .own _ _,h | .view _ _ _ _ _,h | .mref _,h | .dg _,h | .undef,h | .c8,h | .tuple _,h=>by simp[I.bl] at h
theorem oc(ρ:Nat→Nat):∀ xs:List I,I.bT xs=true→I.cP ρ xs=xs
 | [],_=>rfl
 |x::xs,h=>by
  simp only[I.bT,Bool.and_eq_true] at h
  simp only[I.cP,qO ρ x h.1,oc ρ xs h.2]
end
theorem jj :
  (∀ (k:IntKind) n (ρ:Nat→Nat),(I.int k n).aK ρ=.int k n)∧(∀ (b:Bool) (ρ:Nat→Nat),(I.bool b).aK ρ=.bool b)∧(∀ n p (ρ:Nat→Nat),(I.ptr n p).aK ρ=.ptr (ρ n) p) ∧
  (∀ n p sz lo k (ρ:Nat→Nat),(I.view n p sz lo k).aK ρ=.view (ρ n) p sz lo k)∧(∀ fs (ρ:Nat→Nat),(I.agg fs).aK ρ=.agg (I.cP ρ fs))∧(∀ fs (ρ:Nat→Nat),(I.tuple fs).aK ρ=.tuple (I.cP ρ fs))∧(∀ f fs (ρ:Nat→Nat),(I.func f fs).aK ρ=.func f (I.cP ρ fs)) ∧
  (∀ ρ:Nat→Nat,I.cP ρ []=[])∧(∀ (ρ:Nat→Nat) x xs,I.cP ρ (x::xs)=x.aK ρ::I.cP ρ xs)∧(∀ (ρ:Nat→Nat) (x:I),(ah.box x).aK ρ=.box (x.aK ρ)) ∧
  (∀ (z:Nat) (ρ:Nat→Nat),(I.nils z).aK ρ=.nils z)∧(∀ (z:Nat) (ρ:Nat→Nat),(I.c0 z).aK ρ=.c0 z) ∧
  (∀ n,bA [] n=n)∧(∀ a b r n,bA ((a,b)::r) n=if n=a then b else bA r n)∧(∀ ρ,dI ρ []=[])∧(∀ ρ k x os,dI ρ ((k,x)::os)=(bA ρ k,x.aK (bA ρ))::dI ρ os) :=
 ⟨fun _ _ _=>by simp only[I.aK],fun _ _=>by simp only[I.aK],fun _ _ _=>by simp only[I.aK],fun _ _ _ _ _ _=>by simp only[I.aK],fun _ _=>by simp only[I.aK],fun _ _=>by simp only[I.aK],fun _ _ _=>by simp only[I.aK],
  fun _=>rfl,fun _ _ _=>by simp only[I.cP],fun _ _=>rfl,fun _ _=>by simp only[I.aK],fun _ _=>by simp only[I.aK],fun _=>rfl,fun _ _ _ _=>rfl,fun _=>rfl,fun _ _ _ _=>rfl⟩
section
variable {α:Type} [Enc α]
theorem jR(ρ:Nat→Nat)(x:α):(enc x).aK ρ=enc x:=qO ρ _ (dT x)
theorem iO(ρ:Nat→Nat)(l:List α):I.cP ρ (l.map enc)=l.map enc:=oc ρ _ (kj l)
class nw (α:Type) [Enc α]:Prop where
 cV:∀ x:α,(enc x).cV=true
theorem BS[nw α](x:α):(enc x).cV=true:=nw.cV x
theorem wB[nw α](l:List α):I.iH (l.map enc)=true:=by
 induction l with
 |nil=>rfl
 |cons x l ih=>simp only[List.map_cons,I.iH,BS,ih,Bool.and_self]
instance:nw Int:=⟨fun _=>rfl⟩
instance {n:Nat} [nw α]:nw (aM n α):=⟨fun x=>by simp only[enc,I.cV];exact wB x.l⟩
theorem Mq(A:ab)(esz:Nat)(l:List α)(hs:Enc.sz α=esz):en A esz (enc l)=some (l.map enc):=by
 simp only[fW,en,hs,if_true]
theorem tF(l:List α):jL (enc l)=l.isEmpty:=by
 simp only[fW,jL];cases l <;>rfl
theorem Jg(neg:Bool)(l:List α)(h:l≠[]):pq neg (enc l)=some (.bool neg):=by
 simp only[fW,pq]
 cases l with
 |nil=>exact absurd rfl h
 |cons=>rfl
section
variable {P:Program} {Y:Value→List I→List (Nat×ah)→cS→Prop} {K:ab→Prop} {A:ab} {rest:List av} {d:Nat} {e esz bytes:Nat} {q:Nat}
theorem a7.y0(z:α){l:List α}(hs:Enc.sz α=esz)(hl:l≠[])(hf:A.o d=none)(hb:l.length*bytes≤140737488355328)(hml:l.length≤maxLen)
  (h:∀ m,a7 P Y false K (az rest ((A.aL d (.box (.agg ((l++List.replicate m z).map enc)))).aI (some d) (.view d [] esz 0 l.length)))):a7 P Y false K (jN A (some d) e esz bytes (enc z) (enc l) rest (.c0 q)):=by
 have hne:l.map (enc (α:=α))≠[]:=by simpa using hl
 have h1:en A esz (.c0 q)=some []:=rfl
 simp only[jN,h1,Mq A esz l hs,fm,if_neg hne,gD,hf,List.length_nil,Nat.zero_add,List.length_map,if_pos (And.intro hb hml),List.nil_append]
 refine .any rfl fun m _ =>?_
 have:=h m
 simp only[List.map_append,List.map_replicate] at this
 exact this
theorem ah7(z:I)(hs:Enc.sz α=esz):jN A (some d) e esz bytes z (enc ([]:List α)) rest (.c0 q)=az rest (A.aI (some d) (.c0 q)):=by
 have h1:en A esz (.c0 q)=some []:=rfl
 simp only[jN,h1,Mq A esz ([]:List α) hs,fm,List.map_nil,if_true]
theorem ae4(esz:Nat)(z:I)(x:aG)(rest:List av)(A:ab):bM A none (.iY esz z x) rest=mL A esz z (az rest) (ae A x):=rfl
theorem ag9(z:α)(k:Nat):I.cQ (List.replicate k (enc z))=List.replicate k (Enc.aJ α):=by
 have:List.replicate k (enc z)=(List.replicate k z).map (enc (α:=α)):=by simp
 rw[this,qW];simp
theorem uB(z:α){n lo k:Nat}{xs:List α}(ho:A.o n=some (.box (.agg (xs.map enc))))(hk:lo+k≤xs.length) :
  mL A esz (enc z) (az rest) (.view n [] esz lo k)=az rest (A.aL n (.box (.agg ((xs.take lo++(List.replicate k z++xs.drop (lo+k))).map enc)))):=by
 have h1:I.cQ (List.replicate k (enc z))=I.cQ (((xs.map (enc (α:=α))).drop lo).take k):=by
  rw[ag9,←List.map_drop,←List.map_take,qW,List.length_take,List.length_drop]
  congr 1;omega
 have h2:(I.agg (xs.map (enc (α:=α)))).at []=some (.agg (xs.map enc)):=rfl
 simp only[mL,ho,h2]
 rw[if_pos ⟨rfl,h1⟩]
 simp only[iQ,gf,List.map_append,List.map_take,List.map_drop,List.map_replicate,List.length_replicate]
theorem x0{n:Nat}{p:List Nat}{sz k total i:Nat}(h:i≤total)(h0:0<total):gS n p sz 0 k total none (some (.int .i64 i)) none=some (.view n p sz 0 i):=by
 simp only[gS,hJ]
 rw[if_pos ⟨by omega,by omega,by omega⟩,if_neg (by omega)]
 simp
theorem x4{n:Nat}{p:List Nat}{sz k total i:Nat}(h:i≤k)(hk:k≤total)(h0:i<total):gS n p sz 0 k total (some (.int .i64 i)) none none=some (.view n p sz i (k-i)):=by
 simp only[gS,hJ]
 rw[if_pos ⟨by omega,by omega,by omega⟩,if_neg (by omega)]
 simp
theorem wu{m:Nat}{p:List Nat}{sz lo l j:Nat}{fs:List I}(h:j<l):l7 m p sz lo l sz (j:Int) (some fs)=some (.ptr m (p++[lo+j])):=by
 simp only[l7,true_and]
 rw[if_pos ⟨by omega,by omega⟩]
 simp
theorem rZ{sz k:Nat}{xs:List α}(hs:Enc.sz α=sz):l4 sz 0 k (some (xs.map enc))=some (enc (xs.take k)):=by
 have h:((xs.map (enc (α:=α))).drop 0).take k=(xs.take k).map enc:=by rw[List.drop_zero,List.map_take]
 simp only[l4,h]
 rw[if_pos (kj _),fW,hs]
end
end
theorem adE(A:ab)(esz m:Nat)(p:List Nat)(sz lo l:Nat)(k:Int):ic A esz k (.view m p sz lo l)=l7 m p sz lo l esz k (fo (fe p (A.o m))):=rfl
theorem ad8(A:ab)(m:Nat)(p:List Nat)(sz lo l:Nat):jz A (.view m p sz lo l)=some (.int .i64 l):=rfl
theorem ahc(A:ab)(esz:Nat)(lo hi mx:Option I)(n:Nat)(p:List Nat)(l0 k:Nat):ot A esz lo hi mx (.view n p esz l0 k)=ou n p esz l0 k esz lo hi mx (fo (fe p (A.o n))):=rfl
theorem ahd(n:Nat)(p:List Nat)(sz l0 k:Nat)(lo hi mx:Option I)(fs:List I):ou n p sz l0 k sz lo hi mx (some fs)=gS n p sz l0 k fs.length lo hi mx:=by simp[ou]
theorem eB :
  (∀ A esz m p sz lo l k,ic A esz k (.view m p sz lo l)=l7 m p sz lo l esz k (fo (fe p (A.o m))))∧(∀ A m p sz lo l,jz A (.view m p sz lo l)=some (.int .i64 l)) ∧
  (∀ A esz lo hi mx n p l0 k,ot A esz lo hi mx (.view n p esz l0 k)=ou n p esz l0 k esz lo hi mx (fo (fe p (A.o n))))∧(∀ n p sz l0 k lo hi mx fs,ou n p sz l0 k sz lo hi mx (some fs)=gS n p sz l0 k fs.length lo hi mx) ∧
  (∀ esz z x rest A,bM A none (.iY esz z x) rest=mL A esz z (az rest) (ae A x))∧(∀ rest A d esz,bM A d (.bs0 esz) rest=az rest (A.aI d (.c0 esz))) :=
 ⟨adE,ad8,ahc,ahd,ae4,fun _ _ _ _=>rfl⟩
theorem fF(rs:List aZ)(post:cS)(A:ab):nh rs post .ret A=kP rs post A:=rfl
theorem lF(rs:List aZ)(post:cS)(A:ab):nh rs post .normal A=kP rs post A:=rfl
theorem aE.ib{ts:List (Nat×I)}{os0:List (Nat×ah)}(ns:List Nat)(d:Nat){x y:I}(hd:cj ts d=x)(h:a6 true (au ts (iG ns os0)) x=some y)(ho:bd (fun n => !ns.contains n) (c4 ns os0)) :
  aE (au ts os0) (au ((d,y)::gI ns ts) (c4 ns os0)):=by
 rintro c a w ⟨D,E,hs⟩
 obtain ⟨D1,E1,hs1,hw⟩:=hs.Cp ns ho
 have hu:ec (au ts (iG ns os0)) (au ts os0):=fun n z hz=>by
  simp only[au,nR] at hz ⊢
  split at hz
  ·exact hz
  ·cases hz
 have hx:x.b9=true:=by cases x <;>first | rfl | simp[a6] at h
 have hv:=hs.eb d
 simp only[au] at hv
 rw[hd] at hv
 have h1:aD w D E [x] [a.tmps.getD d undef]:=my [x] _ (.cons hv .nil) (by intro z hz;simp only[List.mem_singleton] at hz;subst hz;exact hx)
 have h2:=l5 (E':=E1) hs hu hw [x] [y] _ h1 (by simp only[bY,h])
 have h3:aR w D1 E1 y (a.tmps.getD d undef):=by
  simp only[aD] at h2
  obtain ⟨v',rest,cs,e,k1,k2,_⟩:=h2
  simp only[List.cons.injEq] at e
  obtain ⟨e1,_⟩:=e
  rw[e1]
  exact mb k1 k2
 refine ⟨D1,E1,hs1.sz,hs1.eK,fun t =>?_,hs1.dN,hs1.cY,hs1.c9,hs1.bR,hs1.cN,hs1.dP,hs1.eU,hs1.cG,hs1.eY,hs1.fr⟩
 simp only[au,cj]
 split
 ·rename_i ht;subst ht;exact h3
 ·exact hs1.eb t
theorem aE.qh{ts ts':List (Nat×I)}{os0 os':List (Nat×ah)}(ns:List Nat)(d:Nat){x y:I}(hd:cj ts d=x)(h:a6 true (au ts (iG ns os0)) x=some y)(ho:bd (fun n => !ns.contains n) (c4 ns os0))
  (h1:aT ((d,y)::gI ns ts) ts') (h2:bJ (c4 ns os0) os') (h3:bI (al os') ts') (h4:bd (al os') os'):aE (au ts os0) (au ts' os') :=
 (aE.ib ns d hd h ho).trans (aE.bP h1 h2 h3 h4)
theorem U.yh{c:cK}{Q:Exit→ab→Prop}{A:ab}{x:aP}(T:ab)(h1:U c x (ao (fun B=>aE B T) fun _ _=>False) A)(h2:∀ B,aE B T→Q .normal B):U c x Q A :=
 h1.mono fun e B hq=>by
  cases e <;>simp only[ao] at hq <;>first
   |exact h2 B hq
   |exact hq.elim
theorem LN{w:World}{D:aH}{E:aS}{p:List Nat}{c x y:I}{cs:List Value}(hr:af w D E c cs)(h:c.at p=some x)(hxy:∀ ds,af w D E x ds→af w D E y ds)(hs:y.aJ=x.aJ):af w D E (c.dx p y) cs∧(c.dx p y).aJ=c.aJ:=by
 obtain ⟨off,c1,c2,c3,h1,rfl,h2,h3⟩:=xG p c x cs hr h
 obtain ⟨off',k1,k2,k3,k4⟩:=te p c x y _ c2 hr h (hxy c2 h3) hs
 rw[h1,Option.some.injEq] at k1
 subst k1
 refine ⟨?_,k4⟩
 have e:(c1++c2++c3).take off++c2++(c1++c2++c3).drop (off+c2.length)=c1++c2++c3:=by
  rw[List.append_assoc c1 c2 c3,←h2,List.take_left,List.drop_length_add_append,List.drop_left,List.append_assoc]
 rw[←e];exact k3
theorem aE.OF{A:ab}{m n T sz z:Nat}{p:List Nat}{b:I}(hm:A.o m=some (.box b))(hp:b.at p=some (.nils z))(hn:A.o n=none)(hlt:n<1000000):aE A ((A.aL n (.bS T sz [])).aL m (.box (b.dx p (.own n 0)))):=by
 rintro c a w ⟨D,E,h⟩
 have aq:E n=none:=by have:=h.bR n;rw[hn] at this;exact this
 have hmn:m≠n:=fun e=>by rw[e,hn] at hm;cases hm
 have hl:dE w D E w D (fun m=>if m=n then some (.rw none 0) else E m):=by
  have ef:∀ {m:Nat} {e:bO},E m=some e→(if m=n then some (.rw none 0) else E m)=some e:=fun {m e} he=>by
   have:m≠n:=fun e=>by rw[e,aq] at he;cases he
   rw[if_neg this];exact he
  refine ⟨fun _ _ h=>h,fun _ _ _ _ h=>h,fun m b aJ he=>ef he,fun m aA l he =>?_,fun m b he=>ef he,fun m b he=>ef he,fun _ _ _ _ h=>h⟩
  ·have:m≠n:=fun e=>by rw[e,aq] at he;cases he
   exact ⟨aA,l,by simp only[if_neg this];exact he,Nat.le_refl _,fun _=>rfl⟩
 refine ⟨D,fun m=>if m=n then some (.rw none 0) else E m,h.sz,h.eK,fun t=>aR.bC hl (h.eb t),h.dN,h.cY,h.c9,fun k =>?_,fun m m' e e' b h1 h2 h3 h4 =>?_,fun m e hm =>?_,h.eU,h.cG,h.eY,h.fr⟩
 ·simp only[ab.aL]
  by_cases hk:k=m
  ·subst hk
   have ho:=h.bR k
   rw[hm] at ho
   obtain ⟨b',cs,T',h1,h2,h3,h4,h5⟩:=ho
   obtain ⟨q1,q2⟩:=LN (y:=.own n 0) (af.bC hl _ _ h4) hp (fun ds hd=>by
    simp only[af] at hd
    subst hd
    simp only[af,if_true]
    exact ⟨none,0,rfl,Nat.le_refl _,⟨_,_,_,rfl⟩,fun _=>trivial⟩) rfl
   simp only[if_true,cZ]
   exact ⟨b',cs,T',by rw[q2];simp only[if_neg hmn];exact h1,h2,h3,q1,h5⟩
  ·simp only[if_neg hk]
   by_cases hkn:k=n
   ·subst hkn
    simp only[if_true,cZ]
    exact ⟨none,by simp,by simp,trivial⟩
   ·simp only[if_neg hkn]
    exact (h.bR k).bC hl (by simp only[if_neg hkn]) fun _ _ _ _=>⟨rfl,fun _ ho=>ho⟩
 ·by_cases hm:m=n <;>by_cases hm':m'=n
  ·rw[hm,hm']
  ·simp only[if_pos hm,Option.some.injEq] at h1;subst h1;simp[bO.aA] at h3
  ·simp only[if_pos hm',Option.some.injEq] at h2;subst h2;simp[bO.aA] at h4
  ·simp only[if_neg hm] at h1;simp only[if_neg hm'] at h2;exact h.cN m m' e e' b h1 h2 h3 h4
 ·have hmn:m≠n:=fun e=>by rw[e,h.jS (.inr hlt)] at hm;cases hm
  simp only[if_neg hmn]
  exact h.dP m e hm
theorem aE.yT{ts:List (Nat×I)}{os:List (Nat×ah)}(m n T sz z:Nat)(p:List Nat)(b:I)(hm:aj os m=some (.box b))(hp:b.at p=some (.nils z))(hn:aj os n=none){B:ab}(h:aE (au ts ((m,.box (b.dx p (.own n 0)))::(n,.bS T sz [])::os)) B)(hlt:n<1000000:=by decide):aE (au ts os) B :=
 ((aE.OF (A:=au ts os) (T:=T) (sz:=sz) hm hp hn hlt).trans (by rw[nV,nV];exact aE.refl _)).trans h
end Go.Abs
