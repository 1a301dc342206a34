/-
  A part of the proof that the law HerdKnown returns true for every input; conditions: none beyond the statement's own. (part 2 of 7)
-/
import Derived.Maps.RangeRun
import Derived.Laws.MakeOwn
import Derived.Orders
import Derived.OrdersIn
import Derived.Test.YtcldiigclhgafaaGreatNba
set_option linter.unusedSimpArgs false
set_option linter.unusedVariables false
set_option maxHeartbeats 16000000
set_option maxRecDepth 100000
namespace Go.Abs
open Go Go.RowKit
theorem Dd{w:World}{D:aQ}{E:aU} : ∀ (l:List cK) (xs ys:List I) (cs ds:List Value),l.all xy=true→iU l xs ys=some true→aJ w D E xs cs→aJ w D E ys ds→xs=ys∧cs=ds∧∀ v∈cs,∃ k n,v=.int k n
 | [],xs,ys,cs,ds,_,h,hx,hy=>by
  simp only[iU] at h
  split at h
  ·simp only[aJ] at hx hy;subst hx hy;exact ⟨rfl,rfl,fun v hv=>by simp at hv⟩
  ·cases h
 |t::ts,xs,ys,cs,ds,ha,h,hx,hy=>by
  simp only[List.all_cons,Bool.and_eq_true] at ha
  simp only[iU] at h
  split at h
  case h_2=>cases h
  rename_i f fs g gs
  unfold iy at h
  split at h
  case h_2=>cases h
  rename_i a b h1 h2
  simp only[Option.some.injEq,Bool.and_eq_true] at h
  obtain ⟨rfl,rfl⟩:=h
  simp only[aJ] at hx hy
  obtain ⟨c1,c2,rfl,p1,p2⟩:=hx
  obtain ⟨d1,d2,rfl,q1,q2⟩:=hy
  obtain ⟨rfl,rfl,k3⟩:=Dd ts fs gs c2 d2 ha.2 h2 p2 q2
  cases t with
  |i k =>
   simp only[cg] at h1
   split at h1
   case h_2=>cases h1
   rename_i k1 a k2 b
   split at h1
   case isFalse=>cases h1
   rename_i hk
   simp only[Option.some.injEq,beq_iff_eq] at h1
   subst h1
   obtain ⟨rfl,rfl⟩:=hk
   simp only[af] at p1 q1
   obtain ⟨rfl,_⟩:=p1
   obtain ⟨rfl,_⟩:=q1
   refine ⟨rfl,rfl,fun v hv =>?_⟩
   rcases List.mem_append.1 hv with hv | hv
   ·simp at hv;exact ⟨_,_,hv⟩
   ·exact k3 v hv
  |b | s | bg _ | jG _ _=>simp[xy] at ha
theorem Mx:∀ (cs:List Value) (n:Nat),(∀ v∈cs,∃ k m,v=.int k m)→((cs.zip cs).all fun (x,y)=>Instr.sameBits n x y)=true
 | [],_,_=>rfl
 |v::cs,n,h=>by
  obtain ⟨k,m,rfl⟩:=h v (by simp)
  simp only[List.zip_cons_cons,List.all_cons,Bool.and_eq_true]
  exact ⟨by cases n <;>simp[Instr.sameBits],Mx cs n fun v hv=>h v (by simp[hv])⟩
theorem aib{P:Program}{t:TypeId}{ty:cK}{w:World}{D:aQ}{E:aU}{x y:I}{u v:Value}(hk:lL P t=some ty)(h:cg ty x y=some true)(hx:aT w D E x u)(hy:aT w D E y v):x=y∧u=v∧Instr.sameBits 10000 u v=true:=by
 unfold lL at hk
 split at hk
 ·rename_i k hu
  simp only[Option.some.injEq] at hk
  subst hk
  simp only[cg] at h
  split at h
  case h_2=>cases h
  split at h
  case isFalse=>cases h
  rename_i hk
  simp only[Option.some.injEq,beq_iff_eq] at h
  subst h
  obtain ⟨rfl,rfl⟩:=hk
  rw[(fB hx).1,(fB hy).1]
  exact ⟨rfl,rfl,by simp[Instr.sameBits]⟩
 ·rename_i fs hu
  split at hk
  case h_2=>cases hk
  rename_i l hl
  split at hk
  case isFalse=>cases hk
  rename_i hc
  simp only[Option.some.injEq] at hk
  subst hk
  simp only[cg] at h
  split at h
  case h_2=>cases h
  rename_i xs ys
  obtain ⟨cs,rfl,hc1⟩:=jC hx
  obtain ⟨ds,rfl,hd1⟩:=jC hy
  obtain ⟨rfl,rfl,h3⟩:=Dd l xs ys cs ds hc.1 h hc1 hd1
  refine ⟨rfl,rfl,?_⟩
  simp only[Instr.sameBits,beq_self_eq_true,Bool.true_and]
  exact Mx cs _ h3
 ·cases hk
section
variable {P:Program} {w:World} {D:aQ} {E:aU}
theorem CB{t:TypeId}{ty:cK}{em:Bool}{x y:I}{v:Value}{r:Bool}(hk:lL P t=some ty)(hx:aT w D E x v)(h:cg ty x y=some r)(n:Nat):(Instr.checkKey em (n+2) t v).run P w=.ok () w:=by
 unfold lL at hk
 split at hk
 ·rename_i k hu
  simp only[Option.some.injEq] at hk
  subst hk
  simp only[cg] at h
  split at h
  case h_2=>cases h
  rename_i k1 a k2 b
  split at h
  case isFalse=>cases h
  rename_i hq
  rw[(fB hx).1,hq.1]
  exact MapKept.run_checkKey hu (by simp[MapKept.IsKey]) em (n+1)
 ·rename_i fs hu
  split at hk
  case h_2=>cases hk
  rename_i l hl
  split at hk
  case isFalse=>cases hk
  rename_i hc
  simp only[Option.some.injEq] at hk
  subst hk
  simp only[cg] at h
  split at h
  case h_2=>cases h
  rename_i xs ys
  obtain ⟨cs,rfl,hc1⟩:=jC hx
  obtain ⟨d,hd⟩:∃ d,d=11:=⟨_,rfl⟩
  rw[show (12:Nat)=d+1 from by omega] at hl
  simp only[gG,hu] at hl
  split at hl
  case isFalse=>cases hl
  rename_i hc2
  simp only[Option.map_eq_some_iff,cK.bg.injEq] at hl
  obtain ⟨l',hl,rfl⟩:=hl
  rw[show n+2=(n+1)+1 from rfl,Instr.checkKey]
  simp only[Sem.run_bind,run_underlying hu,Result.andThen_ok]
  rw[←Array.forIn_toList]
  have key:∀ (L:List Field) (l:List cK) (xs ys:List I) (r:Bool) (c1 c2:List Value),
    (L.mapM fun f=>match gG P d f.type with
     |some ty=>if ty.size=P.cellsOf f.type then some ty else none
     | none => none) = some l → (∀ f ∈ L, f.name ≠ "_" ∧ qR (P.underlying f.type) = true) → pT P c1.length L = true → aJ w D E xs c2 → iU l xs ys = some r → c1 ++ c2 = cs →
    Sem.run P (forIn L PUnit.unit (fun (f : Field) (_ : PUnit) => (if f.name ≠ "_" then (do
     let x ←part f.type cs.toArray f.offset
     Instr.checkKey em (n+1) f.type x
     pure (ForInStep.yield PUnit.unit)) else pure (ForInStep.yield PUnit.unit):Sem (ForInStep PUnit)))) w=.ok PUnit.unit w:=by
   intro L
   induction L with
   |nil=>intros;simp
   |cons f L ih =>
    intro l xs ys r c1 c2 hm hn ho hx h htot
    simp only[List.mapM_cons,Option.bind_eq_bind,Option.pure_def,Option.bind_eq_some_iff,Option.some.injEq] at hm
    obtain ⟨ty,hty,tys,htys,rfl⟩:=hm
    split at hty
    case h_2=>cases hty
    rename_i ty' hd'
    split at hty
    case isFalse=>cases hty
    rename_i hsz
    simp only[Option.some.injEq] at hty
    subst hty
    simp only[iU] at h
    split at h
    case h_2=>cases h
    rename_i x xs y ys
    unfold iy at h
    split at h
    case h_2=>cases h
    rename_i ra rb h1 h2
    simp only[aJ] at hx
    obtain ⟨e1,e2,rfl,k1,k2⟩:=hx
    obtain ⟨s,q1,q2,q3⟩:=vE hd' hsz h1
    obtain ⟨u,p1,p2⟩:=oI (P:=P) (w:=w) (c1:=c1) (c3:=e2) q1 q2 k1
    simp only[pT,Bool.and_eq_true,beq_iff_eq] at ho
    have hsx:=py ty' x y ra h1
    have hle:e1.length=P.cellsOf f.type:=by rw[af.length _ _ k1,hsx.1,hsz]
    have ih':=ih tys xs ys rb (c1++e1) e2 htys (fun g hg=>hn g (by simp[hg])) (by simp only[List.length_append,hle];exact ho.2) k2 h2 (by rw[←htot];simp)
    rw[List.append_assoc,htot,←ho.1] at p1
    obtain ⟨hnm,hint⟩:=hn f (by simp)
    have hck:(Instr.checkKey em (n+1) f.type u).run P w=.ok () w:=by
     cases hu:P.underlying f.type with
     |none=>simp[hu,qR] at hint
     |some dd =>
      cases dd <;>simp[hu,qR] at hint
      rename_i q
      have hti:ty'=.i q:=by
       rw[show d=10+1 from by omega] at hd'
       unfold gG at hd'
       simp only[hu,Option.some.injEq] at hd'
       exact hd'.symm
      subst hti
      simp only[cg] at h1
      split at h1
      case h_2=>cases h1
      split at h1
      case isFalse=>cases h1
      rename_i hq
      rw[(fB p2).1,hq.1]
      exact MapKept.run_checkKey hu (by simp[MapKept.IsKey]) em n
    simp only[List.forIn_cons,Sem.run_bind,hnm,ne_eq,not_false_eq_true,if_true,p1,Result.andThen_ok,hck,Sem.run_pure]
    exact ih'
  rw[key fs.toList l' xs ys r [] cs hl (fun f hf=>⟨by simpa using List.all_eq_true.1 hc2.2.1 f hf,Array.all_eq_true_iff_forall_mem.1 hc.2 f (Array.mem_toList_iff.1 hf)⟩) hc2.2.2 hc1 h rfl]
  simp
 ·cases hk
theorem yN{x:I}{xs:List I}{vs:List Value}(h:aI w D E (x::xs) vs):∃ v rest,vs=v::rest∧aT w D E x v∧aI w D E xs rest:=by
 simp only[aI] at h
 obtain ⟨v,rest,cs,rfl,h1,h2,h3⟩:=h
 exact ⟨v,rest,rfl,mE h1 h2,h3⟩
def oW(r:Option Nat)(es:List MapEntry)(i:Nat)(q:Option (Nat×Value)):Prop :=
 (r=none∧q=none)∨∃ j e,r=some (i+j)∧es[j]?=some e∧q=some (i+j,e.val)
theorem oW.step{r:Option Nat}{es:List MapEntry}{e:MapEntry}{i:Nat}{q:Option (Nat×Value)}(h:oW r es (i+1) q):oW r (e::es) i q:=by
 rcases h with h | ⟨j,e',h1,h2,h3⟩
 ·exact .inl h
 ·exact .inr ⟨j+1,e',by rw[h1];congr 1;omega,by simpa using h2,by rw[h3];congr 2;omega⟩
theorem DB{q:IntKind}{k:I}{v:Value}(hv:aT w D E k v):∀ (ks:List I) (es:List MapEntry) (i:Nat) (r:Option Nat),aI w D E ks (es.map (·.key))→fc (.i q) k ks i=some r →
  ∃ x,Instr.findNow (.int q) v es i=some x∧oW r es i x
 | [],es,i,r,hk,h=>by
  simp only[fc,Option.some.injEq] at h
  simp only[aI,List.map_eq_nil_iff] at hk
  subst h hk
  exact ⟨none,rfl,.inl ⟨rfl,rfl⟩⟩
 |x::ks,es,i,r,hk,h=>by
  obtain ⟨u,rest,e1,hu,hr⟩:=yN hk
  cases es with
  |nil=>cases e1
  |cons e es =>
   simp only[List.map_cons,List.cons.injEq] at e1
   obtain ⟨rfl,rfl⟩:=e1
   simp only[fc] at h
   have same:∀ b,cg (.i q) k x=some b→Instr.sameNow (.int q) v e.key=some b:=fun b hb=>by
    simp only[cg] at hb
    split at hb
    case h_2=>cases hb
    split at hb
    case isFalse=>cases hb
    rename_i hq
    simp only[Option.some.injEq] at hb
    subst hb
    rw[(fB hv).1,(fB hu).1]
    simp[Instr.sameNow,hq.1,hq.2]
   split at h
   ·rename_i hb
    simp only[Option.some.injEq] at h
    subst h
    exact ⟨some (i,e.val),by simp[Instr.findNow,same _ hb],.inr ⟨0,e,rfl,rfl,rfl⟩⟩
   ·rename_i hb
    obtain ⟨y,h1,h2⟩:=DB hv ks es (i+1) r hr h
    exact ⟨y,by simp[Instr.findNow,same _ hb,h1],h2.step⟩
   ·cases h
theorem Dy{t:TypeId}{ty:cK}(hty:gG P 12 t=some ty){k:I}{v:Value}(hv:aT w D E k v):∀ (ks:List I) (es:List MapEntry) (i:Nat) (r:Option Nat),aI w D E ks (es.map (·.key))→fc ty k ks i=some r →
  ∃ x,(Instr.findAsking t v es i).run P w=.ok x w∧oW r es i x
 | [],es,i,r,hk,h=>by
  simp only[fc,Option.some.injEq] at h
  simp only[aI,List.map_eq_nil_iff] at hk
  subst h hk
  exact ⟨none,rfl,.inl ⟨rfl,rfl⟩⟩
 |x::ks,es,i,r,hk,h=>by
  obtain ⟨u,rest,e1,hu,hr⟩:=yN hk
  cases es with
  |nil=>cases e1
  |cons e es =>
   simp only[List.map_cons,List.cons.injEq] at e1
   obtain ⟨rfl,rfl⟩:=e1
   simp only[fc] at h
   have same:∀ b,cg ty k x=some b→(Op.equal t v e.key).run P w=.ok b w:=fun b hb=>sF 12 t ty hty k x v e.key b hv hu hb _ (by simp[Op.maxDepth])
   split at h
   ·rename_i hb
    simp only[Option.some.injEq] at h
    subst h
    exact ⟨some (i,e.val),by simp[Instr.findAsking,same _ hb],.inr ⟨0,e,rfl,rfl,rfl⟩⟩
   ·rename_i hb
    obtain ⟨y,h1,h2⟩:=Dy hty hv ks es (i+1) r hr h
    exact ⟨y,by simp[Instr.findAsking,same _ hb,h1],h2.step⟩
   ·cases h
theorem sK{t:TypeId}{ty:cK}(hk:lL P t=some ty){k:I}{v:Value}(hv:aT w D E k v){ks:List I}{es:List MapEntry}{r:Option Nat}(hks:aI w D E ks (es.map (·.key)))(h:fc ty k ks 0=some r) :
  ∃ x,(Instr.findKey t v es).run P w=.ok x w∧oW r es 0 x:=by
 have hk0:=hk
 unfold lL at hk
 split at hk
 ·rename_i q hu
  simp only[Option.some.injEq] at hk
  subst hk
  obtain ⟨x,h1,h2⟩:=DB hv ks es 0 r hks h
  exact ⟨x,by simp[Instr.findKey,run_underlying hu,h1],h2⟩
 ·rename_i fs hu
  split at hk
  case h_2=>cases hk
  rename_i l hl
  split at hk
  case isFalse=>cases hk
  simp only[Option.some.injEq] at hk
  subst hk
  cases es with
  |nil =>
   cases ks with
   |nil =>
    simp only[fc,Option.some.injEq] at h
    subst h
    exact ⟨none,by simp[Instr.findKey,run_underlying hu,Instr.findNow],.inl ⟨rfl,rfl⟩⟩
   |cons x xs=>simp[aI] at hks
  |cons e es =>
   obtain ⟨x,h1,h2⟩:=Dy hl hv ks (e::es) 0 r hks h
   exact ⟨x,by simp[Instr.findKey,run_underlying hu,Instr.findNow,Instr.sameNow,h1],h2⟩
 ·cases hk
theorem mP:∀ {xs:List I} {vs:List Value} {j:Nat} {v:Value},aI w D E xs vs→vs[j]?=some v→∃ x,xs[j]?=some x∧aT w D E x v
 | [],vs,j,v,h,hj=>by simp only[aI] at h;subst h;simp at hj
 |x::xs,vs,j,v,h,hj=>by
  obtain ⟨u,rest,rfl,h1,h2⟩:=yN h
  cases j with
  |zero=>simp only[List.getElem?_cons_zero,Option.some.injEq] at hj;subst hj;exact ⟨x,rfl,h1⟩
  |succ j=>exact mP (xs:=xs) h2 (by simpa using hj)
end
section
variable {c:cJ} {A:ab} {o:Oper} {x:I}
theorem aiF{a:Act}{w:World}{D:aQ}{E:aU}(hs:aS c A a w D E){m:I}{v:Value}{ks vs:List I}(hv:aT w D E m v)(hm:gq A m=some (ks,vs)) :
  (v=.map none∧ks=[]∧vs=[])∨∃ b es clock,v=.map (some b)∧w.heap[b]?=some (.map es clock)∧aI w D E ks (es.toList.map (·.key))∧aI w D E vs (es.toList.map (·.val)):=by
 unfold gq at hm
 split at hm
 ·simp only[Option.some.injEq,Prod.mk.injEq] at hm
  obtain ⟨rfl,rfl⟩:=hm
  obtain ⟨cs,q1,q2⟩:=hv
  simp only[af] at q2
  obtain ⟨b,es,ck,q3,q4,q5,q6⟩:=q2
  exact .inr ⟨b,es,ck,by simpa[bK,I.isAgg,q3] using q1.symm,q4.1,q5,q6⟩
 ·rename_i n
  split at hm
  case h_2=>cases hm
  rename_i ks' vs' hn
  simp only[Option.some.injEq,Prod.mk.injEq] at hm
  obtain ⟨rfl,rfl⟩:=hm
  obtain ⟨cs,q1,q2⟩:=hv
  simp only[af] at q2
  obtain ⟨b,q3,q4⟩:=q2
  obtain ⟨b',es,ck,k1,k2,k3,k4,k5,k6,k7⟩:=hs.map hn
  rw[k1] at q3;cases q3
  exact .inr ⟨_,es,ck,by simpa[bK,I.isAgg,q4] using q1.symm,k3,k5,k6⟩
 ·simp only[Option.some.injEq,Prod.mk.injEq] at hm
  obtain ⟨rfl,rfl⟩:=hm
  obtain ⟨cs,q1,q2⟩:=hv
  simp only[af] at q2
  exact .inl ⟨by simpa[bK,I.isAgg,q2.1] using q1.symm,rfl,rfl⟩
 ·cases hm
theorem oU{w:World}{D:aQ}{E:aU}{y:I}{v:Value}(hv:y.cm=true)(h:aT w D E y v):∃ cs,bK y v cs∧af w D E y cs:=by
 cases y <;>simp[I.cm] at hv <;>exact h
theorem qa{w:World}{D:aQ}{E:aU} : ∀ {xs:List I} {vs:List Value} {j:Nat} {x:I},aI w D E xs vs→xs[j]?=some x→x.cm=true
 | [],_,j,x,_,h=>by simp at h
 |y::ys,vs,j,x,hr,h=>by
  simp only[aI] at hr
  obtain ⟨v,rest,cs,rfl,h1,h2,h3⟩:=hr
  cases j with
  |zero =>
   simp only[List.getElem?_cons_zero,Option.some.injEq] at h;subst h
   cases y <;>simp only[af] at h2 <;>rfl
  |succ j=>exact qa (xs:=ys) h3 (by simpa using h)
theorem amf{x:I}{cs r:List Value}(h:mZ x cs=some r):x.cm=true:=by
 cases x <;>first | rfl | (cases cs <;>simp[mZ] at h)
theorem amg{P:Program}{t:TypeId}{z:I}(hz:fT P t=some z)(hp:uC P t z=true):∃ zv,(∀ w,(zeroValue t).run P w=.ok zv w)∧z.cm=true∧∀ w D E,aT w D E z zv:=by
 have hz0:=hz
 obtain ⟨i,zv,hi,hzz,hzr⟩:=l9 hz
 have hv:z.cm=true:=by
  unfold fT at hz
  split at hz
  ·split at hz
   ·rename_i hk
    simp only[Option.some.injEq] at hz
    subst hz
    exact amf hk
   ·cases hz
  ·cases hz
 refine ⟨zv,fun w=>by simp[zeroValue,typeInfo,hi,hzz],hv,fun w D E =>?_⟩
 have h1:=hzr w D E
 simp only[uC,hi,Option.bind_some,hzz] at hp
 refine mE (cs:=zv.cells.toList) ?_ h1
 cases zv <;>simp only[bK] at hp ⊢ <;>first
  |(rw[if_pos hp];simp[Value.cells])
  |(have hp':z.isAgg=false:=by simpa using hp
    rw[hp'];simp[Value.cells])
theorem ahG{t kt et:TypeId}{m k:Operand}{m' k':aL}{ok:Bool}{ty:cK}{z v:I}{ks vs:List I}{there:Bool}(ho:o.op=.lookup t m k ok)(hu:c.P.underlying t=some (.map kt et))(hk:lL c.P kt=some ty)(hz:fT c.P et=some z)(hzp:uC c.P et z=true)
  (hm:bG c.P 0 m=some m') (hk':bG c.P 0 k=some k') (hmm:gq A (ae A m')=some (ks,vs)) (hl:gp ty z (ae A k') ks vs=some (v,there)):dM c A o (if ok then .tuple [v,.bool there] else v) :=
 .same fun a w D E hs=>by
  have h1:=b9 hs hm
  have h2:=b9 hs hk'
  obtain ⟨zv,hzrun,hzv,hzrv⟩:=amg hz hzp
  unfold gp at hl
  split at hl
  case isFalse=>cases hl
  rename_i hkk
  obtain ⟨rk,hrk⟩:=Option.isSome_iff_exists.1 hkk
  have hchk:=fun em=>CB (P:=c.P) (w:=w) (em:=em) hk h2 hrk 9998
  have bd:∀ u there,v.cm=true→aT w D E v u→aT w D E (if ok then .tuple [v,.bool there] else v) (if ok then Value.tuple #[u,.bool there] else u):=fun u there hval hu'=>by
   cases ok
   ·exact hu'
   ·obtain ⟨cs,q1,q2⟩:=oU hval hu'
    simp only[if_true,aT,aI]
    exact ⟨[u,.bool there],rfl,u,[.bool there],cs,rfl,q1,q2,.bool there,[],[.bool there],rfl,by simp[bK,I.isAgg],by simp[af],rfl⟩
  have main:∀ (es:Array MapEntry),aI w D E ks (es.toList.map (·.key))→aI w D E vs (es.toList.map (·.val))→∃ u,v.cm=true∧aT w D E v u ∧
    ((∃ i,(Instr.findKey kt (a.eval k) es.toList).run c.P w=.ok (some (i,u)) w∧there=true)∨((Instr.findKey kt (a.eval k) es.toList).run c.P w=.ok none w∧u=zv∧there=false)):=fun es hks hvs=>by
   split at hl
   ·rename_i i hfi
    simp only[Option.map_eq_some_iff,Prod.mk.injEq] at hl
    obtain ⟨v',hv',rfl,rfl⟩:=hl
    obtain ⟨q,q1,q2⟩:=sK hk h2 hks hfi
    rcases q2 with ⟨e,_⟩ | ⟨j,e,e1,e2,rfl⟩
    ·cases e
    ·simp only[Nat.zero_add,Option.some.injEq] at e1
     subst e1
     obtain ⟨x,k1,k2⟩:=mP (j:=i) (v:=e.val) hvs (by simp only[List.getElem?_map,e2,Option.map_some])
     rw[hv',Option.some.injEq] at k1
     subst k1
     exact ⟨e.val,qa hvs hv',k2,.inl ⟨_,q1,rfl⟩⟩
   ·rename_i hfi
    simp only[Option.some.injEq,Prod.mk.injEq] at hl
    obtain ⟨rfl,rfl⟩:=hl
    obtain ⟨q,q1,q2⟩:=sK hk h2 hks hfi
    rcases q2 with ⟨_,rfl⟩ | ⟨j,e,e1,_⟩
    ·exact ⟨zv,hzv,hzrv w D E,.inr ⟨q1,rfl,rfl⟩⟩
    ·cases e1
   ·cases hl
  rcases aiF hs h1 hmm with ⟨e1,rfl,rfl⟩ | ⟨b,es,ck,e1,e2,e3,e4⟩
  ·obtain ⟨u,hval,hu',hrun⟩:=main #[] (by simp[aI]) (by simp[aI])
   refine ⟨_,?_,bd u there hval hu'⟩
   rcases hrun with ⟨i,q1,rfl⟩ | ⟨q1,rfl,rfl⟩ <;>
    simp only[execOp,ho,Instr.lookup,e1,Sem.run_bind,run_underlying hu,Result.andThen_ok,Sem.run_pure,hchk,q1,hzrun]
  ·obtain ⟨u,hval,hu',hrun⟩:=main es e3 e4
   refine ⟨_,?_,bd u there hval hu'⟩
   rcases hrun with ⟨i,q1,rfl⟩ | ⟨q1,rfl,rfl⟩ <;>
    simp only[execOp,ho,Instr.lookup,e1,Sem.run_bind,run_underlying hu,Result.andThen_ok,MapKept.run_getObj_map e2,Sem.run_pure,hchk,q1,hzrun]
theorem IH{y:Operand}{y':aL}(ho:o.op=.nilCheck y)(hy:bG c.P 0 y=some y')(h:(∃ n p,ae A y'=.ptr n p)∨∃ z,ae A y'=.ref z):dM c A o (ae A y') :=
 .same fun a w D E hs=>by
  have h1:=b9 hs hy
  rcases h with ⟨n,p,h⟩ | ⟨z,h⟩
  ·rw[h] at h1 ⊢
   obtain ⟨b,aR,off,_,_,e⟩:=oJ h1
   exact ⟨a.eval y,by simp only[execOp,ho,e,Sem.run_pure],h1⟩
  ·rw[h] at h1 ⊢
   obtain ⟨b,off,cs,e,_⟩:=p9 h1
   exact ⟨a.eval y,by simp only[execOp,ho,e,Sem.run_pure],h1⟩
theorem I6{w:World}{D:aQ}{E:aU}{x:I}{v:Value}{b:Bool}(h:iZ x=some b)(hv:aT w D E x v):∃ ad,v=.pointer ad∧ad.isNone=b:=by
 cases x <;>simp only[iZ,Option.some.injEq] at h <;>try (cases h;done)
 case nilp =>
  subst h
  obtain ⟨cs,q1,q2⟩:=hv
  simp only[af] at q2
  exact ⟨none,by simpa[bK,I.isAgg,q2] using q1.symm,rfl⟩
 case ptr n p =>
  subst h
  obtain ⟨b,aR,off,_,_,e⟩:=oJ hv
  exact ⟨_,e,rfl⟩
 case ref z =>
  subst h
  obtain ⟨b,off,cs,e,_⟩:=p9 hv
  exact ⟨_,e,rfl⟩
theorem ahL{neg:Bool}{t yt e:TypeId}{y z:Operand}{y' z':aL}{b1 b2:Bool}(ho:o.op=.binOp (if neg then .neq else .eql) t y z yt)(hu:c.P.underlying t=some (.pointer e))(hy:bG c.P 0 y=some y')(hz:bG c.P 0 z=some z')
  (h1:iZ (ae A y')=some b1) (h2:iZ (ae A z')=some b2) (h:b1=true∨b2=true):dM c A o (.bool (if neg then !(b1&&b2) else (b1&&b2))) :=
 .same fun a w D E hs=>by
  obtain ⟨p,e1,k1⟩:=I6 h1 (b9 hs hy)
  obtain ⟨q,e2,k2⟩:=I6 h2 (b9 hs hz)
  have he:∀ d,(Op.equalIn (d+1) t (.pointer p) (.pointer q)).run c.P w=.ok (b1&&b2) w:=fun d=>by
   subst k1 k2
   cases p <;>cases q <;>simp at h <;>simp[Op.equalIn,run_underlying hu]
  refine ⟨.bool (if neg then !(b1&&b2) else (b1&&b2)),?_,ox _⟩
  cases neg <;>simp only[execOp,ho,e1,e2,if_true,Bool.false_eq_true,if_false,Sem.run_bind,eqGuard] <;>simp[binOp,Op.equal,Op.maxDepth,he]
end
section
variable {c:cJ} {A:ab} {o:Oper} {x:I}
theorem Xa{t:TypeId}{d:Nat}(ho:o.op=.makeMap t none)(hd:o.dst=some d)(hn:d<c.n)(hf:A.o d=none):iL c A o ((A.aN d (.ct [] [])).put d (.mref d)):=by
 intro a w D E hs
 have h1:=hs.aiY (.inl hn) hf
 have h2:=h1.put (x:=.mref d) (v:=.map (some w.heap.size)) hn ⟨_,by simp[bK,I.isAgg];rfl,by
  simp only[af,if_true]
  exact ⟨w.heap.size,rfl,rfl⟩⟩
 exact ⟨w.alloc (.map #[] 0),.inl ⟨.map (some w.heap.size),by simp[execOp,ho,Instr.makeMap],D,_,by rw[hd];exact h2⟩⟩
theorem yM{w:World}{D:aQ}{E:aU} : ∀ {xs ys:List I} {us vs:List Value},aI w D E xs us→aI w D E ys vs→aI w D E (xs++ys) (us++vs)
 | [],ys,us,vs,h,k=>by simp only[aI] at h;subst h;simpa using k
 |x::xs,ys,us,vs,h,k=>by
  simp only[aI,List.cons_append] at *
  obtain ⟨v,rest,cs,rfl,h1,h2,h3⟩:=h
  exact ⟨v,rest++vs,cs,rfl,h1,h2,yM h3 k⟩
theorem Mw{w:World}{D:aQ}{E:aU} : ∀ {xs:List I} {us:List Value} {i:Nat} {y:I} {v:Value} {cs:List Value},aI w D E xs us→bK y v cs→af w D E y cs→aI w D E (xs.set i y) (us.set i v)
 | [],us,i,y,v,cs,h,_,_=>by simp only[aI] at h;subst h;simp[aI]
 |x::xs,us,i,y,v,cs,h,k1,k2=>by
  simp only[aI] at h
  obtain ⟨u,rest,ds,rfl,h1,h2,h3⟩:=h
  cases i with
  |zero=>simp only[List.set_cons_zero,aI];exact ⟨v,rest,cs,rfl,k1,k2,h3⟩
  |succ i=>simp only[List.set_cons_succ,aI];exact ⟨u,_,ds,rfl,h1,h2,Mw h3 k1 k2⟩
theorem Mv{w:World}{D:aQ}{E:aU}{y:I}{v:Value}{cs:List Value}(h1:bK y v cs)(h2:af w D E y cs):aI w D E [y] [v]:=by
 simp only[aI];exact ⟨v,[],cs,rfl,h1,h2,rfl⟩
theorem DA{ty:cK}{k:I} : ∀ {ks:List I} {i j:Nat},fc ty k ks i=some (some j)→∃ x,ks[j-i]?=some x∧i≤j∧cg ty k x=some true
 | [],i,j,h=>by simp[fc] at h
 |x::xs,i,j,h=>by
  simp only[fc] at h
  split at h
  ·rename_i hb
   simp only[Option.some.injEq] at h
   subst h
   exact ⟨x,by simp,Nat.le_refl _,hb⟩
  ·obtain ⟨y,h1,h2,h3⟩:=DA h
   refine ⟨y,?_,by omega,h3⟩
   rw[show j-i=(j-(i+1))+1 from by omega]
   simpa using h1
  ·cases h
theorem C2{t kt et:TypeId}{m k v:Operand}{m' k' v':aL}{ty:cK}{n:Nat}{ks vs ks' vs':List I}(ho:o.op=.mapUpdate t m k v∨o.op=.insert t m k v)(hu:c.P.underlying t=some (.map kt et))(hk:lL c.P kt=some ty)
  (hm:bG c.P 0 m=some m') (hk':bG c.P 0 k=some k') (hv':bG c.P et v=some v') (hmm:ae A m'=.mref n) (hn:A.o n=some (.ct ks vs)) (hl:gb ty (ae A k') (ae A v') ks vs=some (ks',vs')) (hd:o.dst=none) :
  iL c A o (A.aN n (.ct ks' vs')):=by
 intro a w D E hs
 have h1:=b9 hs hm
 have h2:=b9 hs hk'
 have h3:=b9 hs hv'
 rw[hmm] at h1
 unfold gb at hl
 split at hl
 case isFalse=>cases hl
 rename_i hc
 obtain ⟨hkk,hkv,hvv⟩:=hc
 obtain ⟨rk,hrk⟩:=Option.isSome_iff_exists.1 hkk
 have hchk:=fun em=>CB (P:=c.P) (w:=w) (em:=em) hk h2 hrk 9998
 obtain ⟨kcs,kp1,kp2⟩:=oU hkv h2
 obtain ⟨vcs,vp1,vp2⟩:=oU hvv h3
 obtain ⟨b,es,ck,k1,k2,k3,k4,k5,k6,k7⟩:=hs.map hn
 have hmv:a.eval m=.map (some b):=by
  obtain ⟨cs,q1,q2⟩:=h1
  simp only[af] at q2
  obtain ⟨b',q3,q4⟩:=q2
  rw[k1] at q3;cases q3
  simpa[bK,I.isAgg,q4] using q1.symm
 -- the new entries
 have step:∀ (es':Array MapEntry) (ck':Nat),(Instr.mapUpdate t (.map (some b)) (a.eval k) (a.eval v)).run c.P w=.ok () (w.putObj b (.map es' ck'))→qf es' ck'→aI w D E ks' (es'.toList.map (·.key))→aI w D E vs' (es'.toList.map (·.val)) →
   ∃ w',((∃ u,(execOp a.eval o).run c.P w=.ok (.value u) w'∧cj c (A.aN n (.ct ks' vs')) (a.put o.dst u) w')∨((execOp a.eval o).run c.P w=.ok .skip w'∧cj c (A.aN n (.ct ks' vs')) (a.put o.dst undef) w')):=fun es' ck' hrun hst hks hvs=>by
  refine ⟨w.putObj b (.map es' ck'),.inr ⟨?_,?_⟩⟩
  ·rcases ho with ho | ho <;>simp only[execOp,ho,hmv,Sem.run_bind,hrun,Result.andThen_ok,Sem.run_pure]
  ·rw[hd]
   have:=hs.MB (o':=.map es' ck') (x:=.ct ks' vs') k1 rfl rfl k3 rfl (fun q=>by simp) k2 (fun hl' hh hno=>⟨b,es',ck',k1,k2,hh,hst,aI.bJ hl' _ _ hks,aI.bJ hl' _ _ hvs,hno⟩)
   exact ⟨D,E,this⟩
 split at hl
 ·rename_i i hfi
  simp only[Option.some.injEq,Prod.mk.injEq] at hl
  obtain ⟨rfl,rfl⟩:=hl
  obtain ⟨q,q1,q2⟩:=sK hk h2 k5 hfi
  rcases q2 with ⟨e,_⟩ | ⟨j,e,e1,e2,rfl⟩
  ·cases e
  simp only[Nat.zero_add,Option.some.injEq] at e1
  subst e1
  obtain ⟨y,y1,_,y2⟩:=DA hfi
  simp only[Nat.sub_zero] at y1
  obtain ⟨y',y3,y4⟩:=mP (j:=i) (v:=e.key) k5 (by simp only[List.getElem?_map,e2,Option.map_some])
  rw[y1,Option.some.injEq] at y3
  subst y3
  obtain ⟨_,kk2,kk3⟩:=aib hk y2 h2 y4
  have hes:es[i]?=some e:=by rw[←Array.getElem?_toList];exact e2
  have hlen:i<es.size:=(Array.getElem?_eq_some_iff.1 hes).1
  refine step (es.modify i fun e => { e with key:=a.eval k,val:=a.eval v }) ck ?_ ?_ ?_ ?_
  ·have hsb:Instr.sameBits 10000 (((es[i]?).map (·.key)).getD (a.eval k)) (a.eval k)=true:=by
    rw[hes];simp only[Option.map_some,Option.getD_some];rw[←kk2];rw[←kk2] at kk3;exact kk3
   simp only[Instr.mapUpdate,Sem.run_bind,run_underlying hu,Result.andThen_ok,MapKept.run_getObj_map k3,hchk,q1,Nat.zero_add,Instr.keyThatStays,hsb,if_true,Sem.run_pure,MapKept.run_setObj_map _ k3]
   rfl
  all_goals
   have em:(es.modify i fun e => { e with key:=a.eval k,val:=a.eval v }).toList=es.toList.set i { e with key:=a.eval k,val:=a.eval v } :=by
    rw[Array.toList_modify]
    apply List.ext_getElem?
    intro j
    rw[List.getElem?_modify,List.getElem?_set]
    by_cases hij:i=j
    ·subst hij
     have hge:es[i]'hlen=e:=(Array.getElem?_eq_some_iff.1 hes).2
     simp[hlen,hge]
    ·simp[hij]
  ·refine ⟨fun x hx =>?_,?_⟩
   ·rw[em] at hx
    rcases List.mem_or_eq_of_mem_set hx with hx | rfl
    ·exact k4.1 x hx
    ·exact k4.1 e (List.mem_of_getElem? e2)
   ·rw[em]
    have:(es.toList.set i { e with key:=a.eval k,val:=a.eval v }).map (·.born)=es.toList.map (·.born):=by
     rw[List.map_set]
     apply List.ext_getElem?
     intro j
     rw[List.getElem?_set]
     split
     ·rename_i hij;subst hij
      simp[e2]
      exact hlen
     ·rfl
    rw[this];exact k4.2
  ·rw[em,List.map_set]
   have:(es.toList.map (·.key)).set i (a.eval k)=es.toList.map (·.key):=by
    apply List.ext_getElem?
    intro j
    rw[List.getElem?_set]
    split
    ·rename_i hij;subst hij
     simp[e2,kk2]
     exact hlen
    ·rfl
   simp only[this];exact k5
  ·rw[em,List.map_set];exact Mw k6 vp1 vp2
 ·rename_i hfi
  simp only[Option.some.injEq,Prod.mk.injEq] at hl
  obtain ⟨rfl,rfl⟩:=hl
  obtain ⟨q,q1,q2⟩:=sK hk h2 k5 hfi
  rcases q2 with ⟨_,rfl⟩ | ⟨j,e,e1,_⟩
  case inr=>cases e1
  refine step (es.push { key:=a.eval k,val:=a.eval v,born:=ck }) (ck+1) ?_ ⟨fun x hx =>?_,?_⟩ ?_ ?_
  ·simp only[Instr.mapUpdate,Sem.run_bind,run_underlying hu,Result.andThen_ok,MapKept.run_getObj_map k3,hchk,q1,MapKept.run_setObj_map _ k3]
   rfl
  ·simp only[Array.toList_push,List.mem_append,List.mem_singleton] at hx
   rcases hx with hx | rfl
   ·have:=k4.1 x hx;omega
   ·simp
  ·simp only[Array.toList_push,List.map_append,List.map_cons,List.map_nil]
   refine List.nodup_append.2 ⟨k4.2,by simp,fun x hx y hy =>?_⟩
   simp only[List.mem_singleton] at hy
   subst hy
   obtain ⟨e,he,rfl⟩:=List.mem_map.1 hx
   exact Nat.ne_of_lt (k4.1 e he)
  ·simp only[Array.toList_push,List.map_append,List.map_cons,List.map_nil];exact yM k5 (Mv kp1 kp2)
  ·simp only[Array.toList_push,List.map_append,List.map_cons,List.map_nil];exact yM k6 (Mv vp1 vp2)
 ·cases hl
theorem Xc{t kt et:TypeId}{y:Operand}{y':aL}{ks vs:List I}{d:Nat}(ho:o.op=.range t y)(hu:c.P.underlying t=some (.map kt et))(hy:bG c.P 0 y=some y')(h:ae A y'=.cU ks vs)(hd:o.dst=some d)(hn:d<c.n)(hf:A.o d=none) :
  iL c A o ((A.aN d (.it ks vs (List.range ks.length) none)).put d (.dx d)):=by
 intro a w D E hs
 have h1:=b9 hs hy
 rw[h] at h1
 obtain ⟨cs,q1,q2⟩:=h1
 simp only[af] at q2
 obtain ⟨b,es,ck,q3,q4,q5,q6⟩:=q2
 have hv:a.eval y=.map (some b):=by simpa[bK,I.isAgg,q3] using q1.symm
 have h2:=hs.aiX (.inl hn) hf q4 q5 q6
 have h3:=h2.put (x:=.dx d) (v:=.pointer (some ⟨w.heap.size,0,none⟩)) hn ⟨_,by simp[bK,I.isAgg];rfl,by
  simp only[af,if_true]
  exact ⟨w.heap.size,rfl,rfl⟩⟩
 refine ⟨w.alloc (.mapIter (some b) ck #[] ck),.inl ⟨.pointer (some ⟨w.heap.size,0,none⟩),?_,D,_,by rw[hd];exact h3⟩⟩
 simp only[execOp,ho,hv,Sem.run_bind,run_range_map w t kt et b es ck hu q4.1,Result.andThen_ok,Sem.run_pure]
theorem Ji{es:Array MapEntry}{aY:Array Nat}{i:Nat} : i∈ot es aY↔∃ e,es[i]?=some e∧aY.contains e.born=false:=by
 unfold ot
 simp only[List.mem_filter,List.mem_range]
 constructor
 ·rintro ⟨h1,h2⟩
  rw[Array.getElem?_eq_getElem h1] at h2 ⊢
  exact ⟨_,rfl,by simpa using h2⟩
 ·rintro ⟨e,h1,h2⟩
  exact ⟨(Array.getElem?_eq_some_iff.1 h1).1,by rw[h1];simpa using h2⟩
theorem alH{es:Array MapEntry}{ck:Nat}(hst:qf es ck){i j:Nat}{e f:MapEntry}(hi:es[i]?=some e)(hj:es[j]?=some f)(h:e.born=f.born):i=j:=by
 have hn:=hst.2
 rw[←Array.getElem?_toList] at hi hj
 have h1:(es.toList.map (·.born))[i]?=some e.born:=by rw[List.getElem?_map,hi];rfl
 have h2:(es.toList.map (·.born))[j]?=some e.born:=by rw[List.getElem?_map,hj,h];rfl
 have hil:i<(es.toList.map (·.born)).length:=(List.getElem?_eq_some_iff.1 h1).1
 have hjl:j<(es.toList.map (·.born)).length:=(List.getElem?_eq_some_iff.1 h2).1
 exact (List.getElem?_inj hil hn).1 (h1.trans h2.symm)
theorem aiu{es:Array MapEntry}{aY:Array Nat}{ck i:Nat}{e:MapEntry}(hst:qf es ck)(hi:es[i]?=some e):ot es (aY.push e.born)=(ot es aY).filter (· != i):=by
 unfold ot
 rw[List.filter_filter]
 refine List.filter_congr fun j hj =>?_
 have hjl:j<es.size:=by simpa using hj
 rw[Array.getElem?_eq_getElem hjl]
 simp only[Array.contains_push]
 by_cases hij:j=i
 ·subst hij
  rw[Array.getElem?_eq_getElem hjl,Option.some.injEq] at hi
  simp[hi]
 ·have:(es[j].born==e.born)=false:=by
   simp only[beq_eq_false_iff_ne,ne_eq]
   exact fun h=>hij (alH hst (Array.getElem?_eq_getElem hjl) hi h)
  have h2:(j != i)=true:=by simpa using hij
  simp[this,h2]
theorem aiZ{y:Operand}{y':aL}{ks vs:List I}{left:List Nat}{cur:Option Nat}{n:Nat}(ho:o.op=.next y false)(hy:bG c.P 0 y=some y')(h:ae A y'=.dx n)(hn:A.o n=some (.it ks vs left cur))(hdn:∀ k,o.dst=some k→k<c.n){a:Act}{w:World}{D:aQ}{E:aU}(hs:aS c A a w D E) :
  ∃ w' v,(execOp a.eval o).run c.P w=.ok (.value v) w'∧((left=[]∧cj c (A.aP o.dst (.tuple [.bool false])) (a.put o.dst v) w') ∨
   ∃ i k x,i∈left∧ks[i]?=some k∧vs[i]?=some x∧cj c ((A.aN n (.it ks vs (left.filter (· != i)) (some i))).aP o.dst (.tuple [.bool true,k,x])) (a.put o.dst v) w'):=by
 have h1:=b9 hs hy
 rw[h] at h1
 obtain ⟨cs,q1,q2⟩:=h1
 simp only[af] at q2
 obtain ⟨r,q3,q4⟩:=q2
 have hv:a.eval y=.pointer (some ⟨r,0,none⟩):=by simpa[bK,I.isAgg,q4] using q1.symm
 have hob:=hs.bQ n
 rw[hn] at hob
 obtain ⟨r',b,es,ck,since,aY,last,k1,k2,k3,k4,k5,k6,k7,k8,k9,k9',k10⟩:=hob
 rw[k1] at q3;cases q3
 rcases run_next_at (P:=c.P) w o.type r b since last aY es ck k3 k4.1 k7 k8.1 with ⟨h0,hrun⟩ | ⟨e,he,w1,hal,hrun⟩
 ·refine ⟨w,.tuple #[.bool false],by simp only[execOp,ho,hv,Sem.run_bind,hrun,Result.andThen_ok,Sem.run_pure],.inl ⟨?_,D,E,hs.aP hdn ?_⟩⟩
  ·rw[k9]
   refine List.eq_nil_iff_forall_not_mem.2 fun i hi =>?_
   obtain ⟨e,h1,h2⟩:=Ji.1 hi
   have hm:e∈leftOf es aY:=by
    unfold leftOf
    simp only[Array.mem_filter]
    exact ⟨Array.mem_of_getElem? h1,by simpa using h2⟩
   rw[Array.eq_empty_of_size_eq_zero h0] at hm
   simp at hm
  ·simp only[aT,aI]
   exact ⟨[.bool false],rfl,.bool false,[],[.bool false],rfl,by simp[bK,I.isAgg],by simp[af],rfl⟩
 ·have hmem:e∈es.toList∧aY.contains e.born=false:=by
   unfold leftOf at he
   simp only[Array.toList_filter,List.mem_filter] at he
   exact ⟨he.1,by simpa using he.2⟩
  obtain ⟨i,hi⟩:=List.getElem?_of_mem hmem.1
  have hie:es[i]?=some e:=by rw[←Array.getElem?_toList];exact hi
  obtain ⟨k,hk1,hk2⟩:=mP (j:=i) (v:=e.key) k5 (by simp only[List.getElem?_map,hi,Option.map_some])
  obtain ⟨x,hx1,hx2⟩:=mP (j:=i) (v:=e.val) k6 (by simp only[List.getElem?_map,hi,Option.map_some])
  have hsw:aS c A a w1 D E:=by
   rcases hal with rfl | rfl
   ·exact hs
   ·exact hs.grow (w':=w.drew) (D':=D) ⟨rfl,rfl,rfl,Nat.le_refl _,fun _ _=>rfl⟩ (fun _ _ h=>h) (fun _ _ h _=>h) (fun b o hd=>hs.c9 b o hd)
  have hw1:w1.heap=w.heap:=by rcases hal with rfl | rfl <;>rfl
  have k3':w1.heap[r]?=some (.mapIter (some b) since aY last):=by rw[hw1];exact k3
  have hset:=hsw.MB (x:=.it ks vs (left.filter (· != i)) (some i)) (o':=.mapIter (some b) since (aY.push e.born) ck) k1 rfl rfl k3' rfl (fun q=>by simp) k2
   (fun hl hh hno=>by
    have hm:oy w1 D b es ck:=⟨by rw[hw1];exact k4.1,k4.2.1,k4.2.2⟩
    have hob:=hsw.bQ n
    rw[hn] at hob
    refine ⟨r,b,es,ck,since,aY.push e.born,ck,k1,k2,hh,hm.bJ hl,aI.bJ hl _ _ ?_,aI.bJ hl _ _ ?_,k7,?_,?_,fun j hj =>?_,hno⟩
    ·obtain ⟨dV,b2,es2,ck2,si2,se2,la2,g1,g2,g3,g4,g5,g6,_⟩:=hob
     rw[k1] at g1;cases g1
     rw[k3'] at g3;cases g3
     have:=g4.1;rw[hw1,k4.1] at this;cases this
     exact g5
    ·obtain ⟨dV,b2,es2,ck2,si2,se2,la2,g1,g2,g3,g4,g5,g6,_⟩:=hob
     rw[k1] at g1;cases g1
     rw[k3'] at g3;cases g3
     have:=g4.1;rw[hw1,k4.1] at this;cases this
     exact g6
    ·exact ⟨k8.2,k8.2⟩
    ·rw[k9,aiu k4.2.2 hie]
    ·cases hj
     exact ⟨e,hie,by simp,rfl⟩)
  have hset':aS c (A.aN n (.it ks vs (left.filter (· != i)) (some i))) a (ChangeMaps.setBlock w1 r (.mapIter (some b) since (aY.push e.born) ck)) D E:=hset
  refine ⟨_,.tuple #[.bool true,e.key,e.val],by simp only[execOp,ho,hv,Sem.run_bind,hrun,Result.andThen_ok,Sem.run_pure],.inr ⟨i,k,x,?_,hk1,hx1,D,E,hset'.aP hdn ?_⟩⟩
  ·rw[k9];exact Ji.2 ⟨e,hie,hmem.2⟩
  ·have hob2:=hset'.bQ n
   simp only[ab.aN,if_true] at hob2
   obtain ⟨dV,b2,es2,ck2,si2,se2,la2,g1,g2,g3,g4,g5,g6,_⟩:=hob2
   rw[k1] at g1;cases g1
   have hr2:(ChangeMaps.setBlock w1 r (.mapIter (some b) since (aY.push e.born) ck)).heap[r]?=some (.mapIter (some b) since (aY.push e.born) ck):=World.putObj_heap_same (w:=w1) (fR k3')
   rw[hr2] at g3;cases g3
   have hb2:(ChangeMaps.setBlock w1 r (.mapIter (some b) since (aY.push e.born) ck)).heap[b]?=some (.map es ck):=by
    have:b≠r:=fun e=>by rw[e] at k4;rw[k4.1] at k3;cases k3
    refine (World.putObj_heap_other (w:=w1) this).trans ?_
    rw[hw1];exact k4.1
   have:=g4.1;rw[hb2] at this;cases this
   obtain ⟨kk,a1,a2⟩:=mP (j:=i) (v:=e.key) g5 (by simp only[List.getElem?_map,hi,Option.map_some])
   rw[hk1] at a1;cases a1
   obtain ⟨xx,b1,b2⟩:=mP (j:=i) (v:=e.val) g6 (by simp only[List.getElem?_map,hi,Option.map_some])
   rw[hx1] at b1;cases b1
   obtain ⟨c1,c2,c3⟩:=oU (qa k5 hk1) a2
   obtain ⟨d1,d2,d3⟩:=oU (qa k6 hx1) b2
   simp only[aT,aI]
   exact ⟨[.bool true,e.key,e.val],rfl,.bool true,_,[.bool true],rfl,by simp[bK,I.isAgg],by simp[af],e.key,_,c1,rfl,c2,c3,e.val,[],d1,rfl,d2,d3,rfl⟩
theorem aht{y:Operand}{y':aL}{ks vs:List I}{left:List Nat}{i n:Nat}{k x:I}(ho:o.op=.entry y)(hy:bG c.P 0 y=some y')(h:ae A y'=.dx n)(hn:A.o n=some (.it ks vs left (some i)))(hk:ks[i]?=some k)(hx:vs[i]?=some x):dM c A o (.tuple [k,x]) :=
 .same fun a w D E hs=>by
  have h1:=b9 hs hy
  rw[h] at h1
  obtain ⟨cs,q1,q2⟩:=h1
  simp only[af] at q2
  obtain ⟨r,q3,q4⟩:=q2
  have hv:a.eval y=.pointer (some ⟨r,0,none⟩):=by simpa[bK,I.isAgg,q4] using q1.symm
  have hob:=hs.bQ n
  rw[hn] at hob
  obtain ⟨r',b,es,ck,since,aY,last,k1,k2,k3,k4,k5,k6,k7,k8,k9,k9',k10⟩:=hob
  rw[k1] at q3;cases q3
  obtain ⟨e,e1,e2,rfl⟩:=k9' i rfl
  have hi:es.toList[i]?=some e:=by rw[Array.getElem?_toList];exact e1
  obtain ⟨kk,a1,a2⟩:=mP (j:=i) (v:=e.key) k5 (by simp only[List.getElem?_map,hi,Option.map_some])
  rw[hk] at a1;cases a1
  obtain ⟨xx,b1,b2⟩:=mP (j:=i) (v:=e.val) k6 (by simp only[List.getElem?_map,hi,Option.map_some])
  rw[hx] at b1;cases b1
  obtain ⟨c1,c2,c3⟩:=oU (qa k5 hk) a2
  obtain ⟨d1,d2,d3⟩:=oU (qa k6 hx) b2
  have hf:es.find? (·.born==e.born)=some e:=by rw[←Array.find?_toList];exact find_born e es.toList k4.2.2.2 (List.mem_of_getElem? hi)
  refine ⟨.tuple #[e.key,e.val],?_,?_⟩
  ·have hr:(Instr.entry (.pointer (some ⟨r,0,none⟩))).run c.P w=.ok (.tuple #[e.key,e.val]) w:=by
    simp only[Instr.entry,getObj,Sem.run_bind,Sem.run,k3,k4.1,Result.andThen,e2,bne_self_eq_false,Bool.false_eq_true,if_false,hf]
    rfl
   simp only[execOp,ho,hv,Sem.run_bind,hr,Result.andThen_ok,Sem.run_pure]
  ·simp only[aT,aI]
   exact ⟨[e.key,e.val],rfl,e.key,_,c1,rfl,c2,c3,e.val,[],d1,rfl,d2,d3,rfl⟩
theorem L7{w:World}{D:aQ}{E:aU}{z:I}{v:Value}(h:af w D E z [v]):∀ n:Nat,aJ w D E (List.replicate n z) (List.replicate n v)
 |0=>by simp[aJ]
 |n+1=>by simp only[List.replicate_succ,aJ];exact ⟨[v],_,rfl,h,L7 h n⟩
theorem Xb{t e:TypeId}{l l':Operand}{n':aL}{z:I}{n d:Nat}{k:IntKind}(ho:o.op=.makeSlice t l l')(hll:l'=l)(hu:c.P.underlying t=some (.slice e))(hl:bG c.P 0 l=some n')(h:ae A n'=.int k n)(hz:fT c.P e=some z)(hz1:z.size=1)
  (hc1:c.P.cellsOf e=1) (hby:n*c.P.bytesOf e≤281474976710656) (hmax:n≤maxLen) (hd:o.dst=some d) (hn:d<c.n) (hf:A.o d=none):iL c A o ((A.aN d (.box (.agg (List.replicate n z)))).put d (.view d [] 1 0 n)):=by
 subst hll
 intro a w D E hs
 have h1:=b9 hs hl
 rw[h] at h1
 obtain ⟨e1,_⟩:=fB h1
 obtain ⟨i,zv,hi,hzz,hzr⟩:=l9 hz
 have hzc:=af.length _ _ (hzr w D E)
 rw[hz1] at hzc
 obtain ⟨u,hu1⟩:∃ u,zv.cells = #[u]:=by
  have:zv.cells.size=1:=by simpa using hzc
  obtain ⟨u,hu⟩:=Array.size_eq_one_iff.1 this
  exact ⟨u,hu⟩
 have hsz:i.size=1:=by have:=hc1;simp only[Program.cellsOf,hi,Option.map_some,Option.getD_some] at this;exact this
 have hbytes:(i.bytes:Int)*(n:Int)≤281474976710656:=by
  have:c.P.bytesOf e=i.bytes:=by simp[Program.bytesOf,hi]
  rw[this] at hby
  have h2:((i.bytes*n:Nat):Int)≤281474976710656:=by rw[Nat.mul_comm] at hby;omega
  rwa [Int.natCast_mul] at h2
 have hrun:=run_make (P:=c.P) w t e i zv hu hi hzz k k n n (by omega) (Int.le_refl _) hbytes (by have h9:=hmax;unfold maxLen at h9;omega)
 simp only[Int.toNat_natCast,hsz,Nat.mul_one] at hrun
 have hmc:(madeCells zv.cells n).toList=List.replicate n u:=by
  rw[hu1]
  simp only[madeCells]
  apply List.ext_getElem?
  intro j
  simp[List.getElem?_replicate]
  split <;>simp_all[Nat.mod_one]
 have hcells:af w D E (.agg (List.replicate n z)) (madeCells zv.cells n).toList:=by
  rw[hmc]
  simp only[af]
  refine L7 ?_ n
  have:=hzr w D E
  rw[hu1] at this
  simpa using this
 have h2:=hs.rh (T:=e) (.inl hn) hf hcells
 have h3:=h2.put (x:=.view d [] 1 0 n) (v:=.slice (some ⟨w.heap.size,0,none⟩) n n) hn ⟨_,by simp[bK,I.isAgg];rfl,by
  simp only[af,if_true]
  refine ⟨w.heap.size,_,0,I.cT (List.replicate n z),rfl,by simp[cO.off],by simp[I.aR,cO.part],by simp[I.dq],by simpa[I.dq] using hmax,by simp[I.dq],fun s hs =>?_⟩
  rw[I.dq] at hs
  obtain ⟨y,hy,rfl⟩:=List.mem_map.1 hs
  rw[I.l6,(List.mem_replicate.1 hy).2,hz1]⟩
 refine ⟨_,.inl ⟨_,?_,D,_,by rw[hd];exact h3⟩⟩
 simp only[execOp,ho,e1,Sem.run_bind,hrun,Result.andThen_ok,Sem.run_pure]
end
end Go.Abs
namespace Go.Abs
open Go Go.RowKit
mutual
/-- Values that lead to no memory. -/
def I.flat:I→Bool
 | .agg fs | .tuple fs=>I.pC fs
 | .bool _ | .int _ _ | .cV _ | .nilp | .de | .dS | .raw _ | .undef | .c7=>true
 |_=>false
def I.pC:List I→Bool
 | []=>true
 |x::xs=>x.flat&&I.pC xs
end
mutual
theorem af.flat{w w':World}{D D':aQ}{E E':aU} : ∀ (x:I) (cs:List Value),x.flat=true→af w D E x cs→af w' D' E' x cs
 | .agg fs,cs,hf,hr=>by simp only[af,I.flat] at *;exact aJ.flat fs cs hf hr
 | .bool b,cs,_,hr=>by simpa only[af] using hr
 | .int k n,cs,_,hr=>by simpa only[af] using hr
 | .cV s,cs,_,hr=>by simpa only[af] using hr
 | .nilp,cs,_,hr=>by simpa only[af] using hr
 | .de,cs,_,hr=>by simpa only[af] using hr
 | .dS,cs,_,hr=>by simpa only[af] using hr
 | .raw _,cs,_,hr=>by simpa only[af] using hr
 | .undef,_,_,hr=>by simp only[af] at hr
 | .c7,_,_,hr=>by simp only[af] at hr
 | .tuple _,_,_,hr=>by simp only[af] at hr
 | .nils _,_,hf,_ | .c0 _,_,hf,_ | .slice _ _,_,hf,_ | .ref _,_,hf,_ | .func _ _,_,hf,_ | .iface _ _,_,hf,_ | .ptr _ _,_,hf,_ | .own _ _,_,hf,_ | .view _ _ _ _ _,_,hf,_ | .mref _,_,hf,_ | .dx _,_,hf,_ | .cU _ _,_,hf,_=>by simp[I.flat] at hf
theorem aJ.flat{w w':World}{D D':aQ}{E E':aU} : ∀ (xs:List I) (cs:List Value),I.pC xs=true→aJ w D E xs cs→aJ w' D' E' xs cs
 | [],cs,_,hr=>by simpa only[aJ] using hr
 |x::xs,cs,hf,hr=>by
  simp only[aJ,I.pC,Bool.and_eq_true] at *
  obtain ⟨c1,c2,h1,h2,h3⟩:=hr
  exact ⟨c1,c2,h1,af.flat x c1 hf.1 h2,aJ.flat xs c2 hf.2 h3⟩
end
theorem aI.flat{w w':World}{D D':aQ}{E E':aU} : ∀ (xs:List I) (vs:List Value),I.pC xs=true→aI w D E xs vs→aI w' D' E' xs vs
 | [],vs,_,hr=>by simpa only[aI] using hr
 |x::xs,vs,hf,hr=>by
  simp only[aI,I.pC,Bool.and_eq_true] at *
  obtain ⟨v,rest,cs,h1,h2,h3,h4⟩:=hr
  exact ⟨v,rest,cs,h1,h2,af.flat x cs hf.1 h3,aI.flat xs rest hf.2 h4⟩
theorem aT.flat{w w':World}{D D':aQ}{E E':aU}{x:I}{v:Value}(hf:x.flat=true)(hr:aT w D E x v):aT w' D' E' x v:=by
 cases x <;>simp only[aT] at * <;>first
  |exact hr
  |(obtain ⟨vs,h1,h2⟩:=hr;exact ⟨vs,h1,aI.flat _ _ (by simpa[I.flat] using hf) h2⟩)
  |(obtain ⟨cs,h1,h2⟩:=hr;exact ⟨cs,h1,af.flat _ _ hf h2⟩)
def dE:aU:=fun _=>none
def av(P:Program)(f:FuncId)(args:List I)(r:I):Prop :=
 gR P f=true∧∀ (w:World) (D:aQ) (vs:List Value),(∀ b o,D b o→b<w.heap.size)→aI w D dE args vs →
  Calls P f vs.toArray w fun e w'=>∃ v D',e=.returned v∧aT w' D' dE r v∧Below w.heap.size w w'∧(∀ b o,D' b o→b<w'.heap.size)∧∀ b o,D' b o→b<w.heap.size→D b o
def cz(P:Program)(f:FuncId)(args:List I)(os:List (Nat×ah))(post:cN):Prop :=
 gR P f=true∧qo (Calls P f) (fun _ _ _=>True) args os post
def bt(p:Nat→Bool):List (Nat×ah)→Prop
 | []=>True
 |(_,v)::r=>v.only p=true∧bt p r
def cw(ns:List Nat)(os:List (Nat×ah)):List (Nat×ah):=os.filter fun q => !ns.contains q.1
def fG(ns:List Nat)(ts:List (Nat×I)):List (Nat×I):=ts.map fun q=>(q.1,if q.2.only (fun n => !ns.contains n) then q.2 else .c7)
def fS(ns:List Nat)(os:List (Nat×ah)):List (Nat×ah):=os.filter fun q=>ns.contains q.1
def jQ(ρ:List (Nat×Nat))(os:List (Nat×ah)):List Nat:=os.map fun q=>bA ρ q.1
def js(aB:Bool)(A0:ab)(ρ:List (Nat×Nat))(os:List (Nat×ah)):List I→List I→Prop
 | [],[]=>True
 |x::xs,c::cs=>((x=c.aM (bA ρ)∧c.only (ao os)=true∧c.cm=true)∨bd aB A0 x=some c)∧js aB A0 ρ os xs cs
 |_,_=>False
structure az where
 dst:Option Nat
 op:b7
 guard:Option (Nat×Bool)
 deriving Inhabited
inductive cI where
 |done (A:ab)
 |fail
 |call (f:FuncId) (avs:List I) (a1 a2:Option (List I)) (dst:Option Nat) (rest:List az) (A:ab)
 |pj (v:Value) (avs:List I) (dst:Option Nat) (rest:List az) (A:ab)
 |kr (f:FuncId) (avs:List I) (dst:Option Nat) (rest:List az) (A:ab)
 |any (p:Nat→Prop) (k:Nat→cI)
def cP(x:Option I)(k:I→cI):cI:=match x with
 |some v=>k v
 |none=>.fail
def x7(s:Option Nat)(v old:I):Prop:=v.cm=true∧b6 s v=true∧v.aR=old.aR
def x0(e esz bytes l sz:Nat)(ys:List I)(T sz':Nat)(es:List I):Prop:=l=es.length∧sz=esz∧T=e∧sz'=esz∧ys≠[]∧es.length+ys.length≤maxLen∧(es.length+ys.length)*bytes≤140737488355328
def qQ(ys:List I):List Int:=ys.filterMap fun y=>match y with | .int .i64 i=>some i | _=>none
def x1(e esz bytes l:Nat)(ys:List I)(T:Nat)(xs:List Int)(z:I):Prop:=l=xs.length∧esz=1∧T=e∧z=.int .i64 0∧ys=(qQ ys).map (.int .i64)∧ys≠[]∧xs.length+ys.length≤maxLen∧(xs.length+ys.length)*bytes≤140737488355328
def jY:I→Bool
 | .slice _ es=>es.isEmpty
 | .c0 _=>true
 |_=>false
open Classical in
noncomputable def gj(A:ab)(dst:Option Nat)(esz bytes:Nat)(z:I)(es ys:List I)(k:ab→cI):cI :=
 match dst with
 |some d=>match A.o d with
  |none=>if (es.length+ys.length)*bytes≤140737488355328∧es.length+ys.length≤maxLen then
    .any (fun m=>es.length+ys.length+m≤maxLen) (fun m=>k ((A.aN d (.box (.agg (es++(ys++List.replicate m z))))).aP dst (.view d [] esz 0 (es.length+ys.length)))) else .fail
  |some _=>.fail
 |none=>.fail
open Classical in
noncomputable def fm(A:ab)(dst:Option Nat)(esz bytes:Nat)(z:I)(s:I):Option (List I)→Option (List I)→(ab→cI)→cI
 |some es,some ys,k=>if ys=[] then k (A.aP dst s) else match s with
  | .nils _=>gj A dst esz bytes z es ys k
  | .c0 _=>gj A dst esz bytes z es ys k
  | .view n p sz lo l=>match A.o n with
   |some (.box b)=>match b.at p with
    |some (.agg fs)=>if lo+l+ys.length≤fs.length then
      (if sz=esz∧I.cT ys=I.cT ((fs.drop (lo+l)).take ys.length) then k ((A.aN n (.box (iI b p (lo+l) fs ys))).aP dst (.view n p esz lo (l+ys.length))) else .fail)
      else gj A dst esz bytes z es ys k
    |_=>.fail
   |_=>.fail
  |_=>.fail
 |_,_,_=>.fail
open Classical in
noncomputable def u5(A:ab)(dst:Option Nat)(esz bytes:Nat)(z:I)(m:Nat)(s:I):Option (List I)→(ab→cI)→cI
 |some es,k=>match s with
  | .view n p _ lo l=>match A.o n with
   |some (.box b)=>match b.at p with
    |some (.agg fs)=>if 0<m∧fs.length<lo+l+m then gj A dst esz bytes z es (List.replicate m z) k else .fail
    |_=>.fail
   |_=>.fail
  |_=>.fail
 |_,_=>.fail
open Classical in
noncomputable def nd(A:ab)(esz:Nat)(z:I)(k:ab→cI):I→cI
 | .view n p sz lo l=>match A.o n with
  |some (.box b)=>match b.at p with
   |some (.agg fs)=>if sz=esz∧I.cT (List.replicate l z)=I.cT ((fs.drop lo).take l) then k (A.aN n (.box (iI b p lo fs (List.replicate l z)))) else .fail
   |_=>.fail
  |_=>.fail
 | .nils _=>k A
 | .c0 _=>k A
 |_=>.fail
open Classical in
noncomputable def sy(A:ab)(dst:Option Nat)(esz:Nat)(k:ab→cI):I→Option (List I)→cI
 | .view n p sz lo l,some ys=>match A.o n with
  |some (.box b)=>match b.at p with
   |some (.agg fs)=>if sz=esz∧I.cT (ys.take (min ys.length l))=I.cT ((fs.drop lo).take (min ys.length l)) then k ((A.aN n (.box (iI b p lo fs (ys.take (min ys.length l))))).aP dst (.int .i64 (min ys.length l:Nat))) else .fail
   |_=>.fail
  |_=>.fail
 |_,_=>.fail
open Classical in
noncomputable def bp(A:ab)(dst:Option Nat)(op:b7)(rest:List az)(k:ab→cI):cI :=
 match op with
 | .alloc z=>match dst with
  |some d=>match A.o d with
   |none=>k ((A.aN d (.box z)).put d (.ptr d []))
   |some _=>.fail
  |none=>.fail
 | .box x=>match dst with
  |some d=>match A.o d with
   |none=>if (ae A x).cm then k ((A.aN d (.box (ae A x))).put d (.ptr d [])) else .fail
   |some _=>.fail
  |none=>.fail
 | .bg s x v=>match dst with
  |none=>match ae A x with
   | .ptr n p=>match A.o n with
    |some (.box b)=>match b.at p with
     |some old=>if x7 s (ae A v) old then k (A.aN n (.box (b.dH p (ae A v)))) else .fail
     |none=>.fail
    |_=>.fail
   |_=>.fail
  |some _=>.fail
 | .cL e esz bytes z s x=>match ae A s with
  | .own n l=>match ae A x with
   | .slice sz ys=>match A.o n with
    |some (.bT T sz' es)=>if x0 e esz bytes l sz ys T sz' es then k ((A.aN n (.bT e esz (es++ys))).aP dst (.own n (es.length+ys.length))) else .fail
    |some (.cM T xs)=>if x1 e esz bytes l ys T xs z then k ((A.aN n (.cM e (xs++qQ ys))).aP dst (.own n (xs.length+ys.length))) else .fail
    |_=>.fail
   |_=>.fail
  |s'=>fm A dst esz bytes z s' (eC A esz s') (eC A esz (ae A x)) k
 | .me _ esz bytes z s n=>match ae A n with
  | .int _ m=>u5 A dst esz bytes z m.toNat (ae A s) (eC A esz (ae A s)) k
  |_=>.fail
 | .nilS neg x=>if jY (ae A x) then .any (fun m=>m<2) (fun m=>k (A.aP dst (.bool (m==0)))) else cP (bu A (.nilS neg x)) fun v=>k (A.aP dst v)
 | .iR esz z x=>match dst with
  |none=>nd A esz z k (ae A x)
  |some _=>.fail
 | .lz esz x y=>sy A dst esz k (ae A x) (eC A esz (ae A y))
 | .call f args=>.call f (args.map (ae A)) (bY true A (args.map (ae A))) (bY false A (args.map (ae A))) dst rest A
 | .eL x args=>match ae A x with
  | .func f caps=>.call f (args.map (ae A)++caps) (bY true A (args.map (ae A)++caps)) (bY false A (args.map (ae A)++caps)) dst rest A
  | .raw v=>.pj v (args.map (ae A)) dst rest A
  |_=>.fail
 | .kr f args=>.kr f (args.map (ae A)) dst rest A
 | .jO=>match dst with
  |some d=>match A.o d with
   |none=>k ((A.aN d (.ct [] [])).put d (.mref d))
   |some _=>.fail
  |none=>.fail
 | .jP _ bytes z n=>match dst with
  |some d=>match A.o d with
   |none=>match ae A n with
    | .int _ n=>if 0≤n∧n.toNat*bytes≤281474976710656∧n.toNat≤maxLen then k ((A.aN d (.box (.agg (List.replicate n.toNat z)))).put d (.view d [] 1 0 n.toNat)) else .fail
    |_=>.fail
   |some _=>.fail
  |none=>.fail
 | .gK ty m key v=>match dst with
  |none=>match ae A m with
   | .mref n=>match A.o n with
    |some (.ct ks vs)=>match gb ty (ae A key) (ae A v) ks vs with
     |some (ks',vs')=>k (A.aN n (.ct ks' vs'))
     |none=>.fail
    |_=>.fail
   |_=>.fail
  |some _=>.fail
 | .kl x=>match dst with
  |some d=>match A.o d with
   |none=>match ae A x with
    | .cU ks vs=>k ((A.aN d (.it ks vs (List.range ks.length) none)).put d (.dx d))
    |_=>.fail
   |some _=>.fail
  |none=>.fail
 | .jx x=>match ae A x with
  | .dx n=>match A.o n with
   |some (.it ks vs left cur)=>if left=[] then k (A.aP dst (.tuple [.bool false])) else
     .any (fun i=>i∈left) fun i=>match ks[i]?,vs[i]? with
      |some kk,some x=>k ((A.aN n (.it ks vs (left.filter (· != i)) (some i))).aP dst (.tuple [.bool true,kk,x]))
      |_,_=>.fail
   |_=>.fail
  |_=>.fail
 |op=>cP (bu A op) fun v=>k (A.aP dst v)
noncomputable def ay:List az→ab→cI
 | [],A=>.done A
 |g::rest,A=>match g.guard with
  |none=>bp A g.dst g.op rest (ay rest)
  |some (t,b)=>match A.t t with
   | .bool b'=>if b'=b then bp A g.dst g.op rest (ay rest) else ay rest (A.aP g.dst .undef)
   | .undef=>ay rest (A.aP g.dst .undef)
   |_=>.fail
def OX(P:Program)(A:ab)(f:FuncId)(avs:List I)(r:I):Prop :=
 ∀ (c:cJ) (a:Act) (w:World) (D:aQ) (E:aU) (vs:List Value),c.P=P→aS c A a w D E→fP (aT w D E) avs vs→∃ v,(callFunc f vs.toArray).run P w=.ok (.value v) w∧aT w D E r v
inductive bj (P:Program) (Y:Value→List I→List (Nat×ah)→cN→Prop) (dr:Bool) (K:ab→Prop):cI→Prop where
 |done {A:ab} : K A→bj P Y dr K (.done A)
 |flat {f:FuncId} {avs cargs:List I} {a2:Option (List I)} {dst:Option Nat} {rest:List az} {A:ab} (r:I):av P f cargs r→r.flat=true→bj P Y dr K (ay rest (A.aP dst r))→bj P Y dr K (.call f avs (some cargs) a2 dst rest A)
 |lead {f:FuncId} {avs cargs:List I} {a1:Option (List I)} {dst:Option Nat} {rest:List az} {A:ab} (r:I):av P f cargs r→bj P Y dr K (ay rest (A.aP dst r))→bj P Y dr K (.call f avs a1 (some cargs) dst rest A)
 |gU {f:FuncId} {avs cargs:List I} {a1 a2:Option (List I)} {dst:Option Nat} {rest:List az} {ts:List (Nat×I)} {os0:List (Nat×ah)} (ns:List Nat) (r:I):dr=false→av P f cargs r→bY true (aq ts (fS ns os0)) avs=some cargs →
   bt (fun n => !ns.contains n) (cw ns os0)→bj P Y dr K (ay rest ((aq (fG ns ts) (cw ns os0)).aP dst r))→bj P Y dr K (.call f avs a1 a2 dst rest (aq ts os0))
 |bQ {f:FuncId} {avs:List I} {a1 a2:Option (List I)} {dst:Option Nat} {rest:List az} {ts:List (Nat×I)} {os0:List (Nat×ah)} (aB:Bool) (ρ:List (Nat×Nat)) (os:List (Nat×ah)) (cargs:List I) (post:cN):dr=false→cz P f cargs os post →
   fU ρ os os0→js aB (aq ts (cw (jQ ρ os) os0)) ρ os avs cargs→(∀ r os',post r os'→ev aB ρ os os0 r os') →
   (∀ r os',post r os'→bj P Y dr K (ay rest ((aq ts (dC ρ os'++os0)).aP dst (r.aM (bA ρ)))))→bj P Y dr K (.call f avs a1 a2 dst rest (aq ts os0))
 |zg {v:Value} {avs:List I} {dst:Option Nat} {rest:List az} {ts:List (Nat×I)} {os0:List (Nat×ah)} (os:List (Nat×ah)) (cargs:List I) (post:cN):dr=false→Y v cargs os post →
   fU [] os os0→js false (aq ts (cw (jQ [] os) os0)) [] os avs cargs→(∀ r os',post r os'→ev false [] os os0 r os') →
   (∀ r os',post r os'→bj P Y dr K (ay rest ((aq ts (dC [] os'++os0)).aP dst (r.aM (bA [])))))→bj P Y dr K (.pj v avs dst rest (aq ts os0))
 |ext {f:FuncId} {avs:List I} {dst:Option Nat} {rest:List az} {A:ab} (r:I):dr=false→OX P A f avs r→bj P Y dr K (ay rest (A.aP dst r))→bj P Y dr K (.kr f avs dst rest A)
 |any {p:Nat→Prop} {k:Nat→cI} : dr=false→(∀ m,p m→bj P Y dr K (k m))→bj P Y dr K (.any p k)
def C3(n:Nat):Option Nat→Bool
 |some d=>decide (d<n)
 |none=>true
def pg(P:Program)(n:Nat)(bx:Array Oper)(o:Oper):Option az :=
 match dF P o with
 |none=>none
 |some g=>if C3 n o.dst=true then
   match o.guard with
   |none=>some ⟨o.dst,g,none⟩
   |some (j,b)=>match (bx[j]?).bind (·.dst) with
    |some t=>some ⟨o.dst,g,some (t,b)⟩
    |none=>none
  else none
def j4(P:Program)(n:Nat)(bx:Array Oper):List Oper→Option (List az)
 | []=>some []
 |o::l=>match pg P n bx o,j4 P n bx l with
  |some g,some gs=>some (g::gs)
  |_,_=>none
end Go.Abs
namespace Go.Abs
open Go Go.RowKit
section
variable {c:cJ} {A:ab} {o:Oper} {x:I}
theorem akD{g:b7}(hg:dF c.P o=some g)(h:bu A g=some x):dM c A o x:=by
 unfold dF at hg
 split at hg
 -- move
 ·rename_i y ho
  simp only[Option.map_eq_some_iff] at hg
  obtain ⟨z,hz,rfl⟩:=hg
  simp only[bu,Option.some.injEq] at h
  subst h
  exact IG (.inl ho) hz
 ·rename_i y ho
  simp only[Option.map_eq_some_iff] at hg
  obtain ⟨z,hz,rfl⟩:=hg
  simp only[bu,Option.some.injEq] at h
  subst h
  exact IG (.inr ho) hz
 -- pick
 ·rename_i q y z ho
  split at hg
  ·rename_i q' y' z' h1 h2 h3
   simp only[Option.some.injEq] at hg
   subst hg
   simp only[bu] at h
   split at h
   ·rename_i t ht
    simp only[Option.some.injEq] at h
    subst h
    exact ahK ho h1 h2 h3 ht
   ·cases h
  ·cases hg
 -- binOp
 ·rename_i op t y z yt ho
  split at hg
  ·rename_i k y' z' hu h1 h2
   simp only[Option.some.injEq] at hg
   subst hg
   exact IE ho h1 h2 h
  ·rename_i y' z' hu h1 h2
   simp only[Option.some.injEq] at hg
   subst hg
   exact IE ho h1 h2 h
  ·rename_i e y' z' hu h1 h2
   split at hg
   ·rename_i s
    split at hg
    ·rename_i hop
     simp only[Option.some.injEq] at hg
     subst hg
     have ho':o.op=.binOp (if (op==.neq)=true then .neq else .eql) t y z yt:=by
      rcases hop with rfl | rfl <;>simpa using ho
     simp only[bu] at h
     split at h
     ·rename_i s' hs'
      simp only[Option.some.injEq] at h
      subst h
      have:=xg (r:=true) ho' hu h1 h2 (.inl ⟨s',hs',rfl⟩)
      rw[show (if (op==BinOp.neq)=true then !true else true) = !(op==BinOp.neq) from by cases (op==BinOp.neq) <;>rfl] at this
      exact this
     ·rename_i s' es hs'
      split at h
      ·cases h
      ·rename_i hne
       simp only[Option.some.injEq] at h
       subst h
       have:=xg (r:=false) ho' hu h1 h2 (.inr (.inl ⟨s',es,hs',by simpa using hne,rfl⟩))
       rw[show (if (op==BinOp.neq)=true then !false else false)=(op==BinOp.neq) from by cases (op==BinOp.neq) <;>rfl] at this
       exact this
     ·rename_i n p s' lo k hs'
      simp only[Option.some.injEq] at h
      subst h
      have:=xg (r:=false) ho' hu h1 h2 (.inr (.inr ⟨n,p,s',lo,k,hs',rfl⟩))
      rw[show (if (op==BinOp.neq)=true then !false else false)=(op==BinOp.neq) from by cases (op==BinOp.neq) <;>rfl] at this
      exact this
     ·cases h
    ·cases hg
   ·cases hg
  ·rename_i e y' z' hu h1 h2
   split at hg
   ·rename_i hop
    simp only[Option.some.injEq] at hg
    subst hg
    have ho':o.op=.binOp (if (op==.neq)=true then .neq else .eql) t y z yt:=by
     rcases hop with rfl | rfl <;>simpa using ho
    simp only[bu] at h
    cases hb1:iZ (ae A y') with
    |none=>rw[hb1] at h;cases h
    |some b1=>cases hb2:iZ (ae A z') with
     |none=>rw[hb1,hb2] at h;cases h
     |some b2 =>
      rw[hb1,hb2] at h
      simp only[mJ] at h
      split at h
      ·rename_i hor
       simp only[Option.some.injEq] at h
       subst h
       exact ahL ho' hu h1 h2 hb1 hb2 (by simpa using hor)
      ·cases h
   ·cases hg
  ·rename_i d y' z' _ _ _ _ hu h1 h2
   split at hg
   ·rename_i hop
    simp only[Option.map_eq_some_iff] at hg
    obtain ⟨ty,hty,rfl⟩:=hg
    have ho':o.op=.binOp (if (op==.neq)=true then .neq else .eql) t y z yt:=by
     rcases hop.1 with rfl | rfl <;>simpa using ho
    simp only[bu,Option.map_eq_some_iff] at h
    obtain ⟨r,hr,rfl⟩:=h
    exact ahu ho' h1 h2 hop.2 hty hr
   ·cases hg
  ·cases hg
 -- unOp
 ·rename_i op t y ho
  simp only[Option.map_eq_some_iff] at hg
  obtain ⟨z,hz,rfl⟩:=hg
  simp only[bu] at h
  split at h
  ·rename_i b hb
   simp only[Option.some.injEq] at h
   subst h
   exact ahJ ho hz hb
  ·rename_i k n hb
   simp only[Option.some.injEq] at h
   subst h
   exact ahI ho hz hb
  ·rename_i k n hb
   simp only[Option.some.injEq] at h
   subst h
   exact ahs ho hz hb
  ·cases h
 -- nilCheck
 ·rename_i y ho
  simp only[Option.map_eq_some_iff] at hg
  obtain ⟨z,hz,rfl⟩:=hg
  simp only[bu] at h
  cases hy:ae A z <;>rw[hy] at h <;>simp only[mF,Option.some.injEq] at h <;>try (cases h;done)
  ·subst h;rw[←hy];exact IH ho hz (.inr ⟨_,hy⟩)
  ·subst h;rw[←hy];exact IH ho hz (.inl ⟨_,_,hy⟩)
 -- makeMap
 ·simp only[Option.some.injEq] at hg
  subst hg
  simp[bu] at h
 -- lookup
 ·rename_i t m k ok ho
  split at hg
  ·rename_i kt et m' k' hu h1 h2
   split at hg
   ·rename_i ty z hk hz
    split at hg
    ·rename_i hp
     simp only[Option.some.injEq] at hg
     subst hg
     simp only[bu] at h
     cases hm:gq A (ae A m') with
     |none=>rw[hm] at h;cases h
     |some q =>
      obtain ⟨ks,vs⟩:=q
      rw[hm] at h
      simp only[qX] at h
      cases hl:gp ty z (ae A k') ks vs with
      |none=>rw[hl] at h;cases h
      |some q =>
       obtain ⟨v,b⟩:=q
       rw[hl] at h
       simp only[qY,Option.some.injEq] at h
       subst h
       exact ahG ho hu hk hz hp h1 h2 hm hl
    ·cases hg
   ·cases hg
  ·cases hg
 -- mapUpdate,insert
 iterate 2
  ·split at hg
   ·split at hg
    ·simp only[Option.some.injEq] at hg
     subst hg
     simp[bu] at h
    ·cases hg
   ·cases hg
 -- makeSlice
 ·split at hg
  ·split at hg
   ·split at hg
    ·simp only[Option.some.injEq] at hg
     subst hg
     simp[bu] at h
    ·cases hg
   ·cases hg
  ·cases hg
 -- range
 ·split at hg
  ·simp only[Option.map_eq_some_iff] at hg
   obtain ⟨z,_,rfl⟩:=hg
   simp[bu] at h
  ·cases hg
 -- next
 ·simp only[Option.map_eq_some_iff] at hg
  obtain ⟨z,_,rfl⟩:=hg
  simp[bu] at h
 -- entry
 ·rename_i y ho
  simp only[Option.map_eq_some_iff] at hg
  obtain ⟨z,hz,rfl⟩:=hg
  simp only[bu] at h
  split at h
  ·rename_i n hn
   split at h
   ·rename_i ks vs left cur hob
    cases cur with
    |none=>cases h
    |some i =>
     simp only[pw] at h
     split at h
     ·rename_i kk xx hk hx
      simp only[Option.some.injEq] at h
      subst h
      exact aht ho hz hn hob hk hx
     ·cases h
   ·cases h
  ·cases h
 -- convert
 ·rename_i nL dst y ho
  split at hg
  ·rename_i k0 k y' h1 h2 h3
   simp only[Option.some.injEq] at hg
   subst hg
   simp only[bu] at h
   split at h
   ·rename_i k1 n hn
    simp only[Option.some.injEq] at h
    subst h
    exact ahr ho h1 h2 h3 hn
   ·cases h
  ·cases hg
 -- load
 ·rename_i t y ho
  split at hg
  ·rename_i s y' h1 h2
   simp only[Option.some.injEq] at hg
   subst hg
   simp only[bu] at h
   split at h
   ·rename_i v hv
    split at h
    ·rename_i hok
     simp only[Option.some.injEq] at h
     subst h
     exact ahF ho h1 h2 hv hok
    ·cases h
   ·cases h
  ·cases hg
 -- fieldAddr
 ·rename_i t y f ho
  split at hg
  ·rename_i fs y' hu h1
   split at hg
   ·rename_i fd hf
    split at hg
    ·cases hg
    ·rename_i hz
     simp only[Option.some.injEq] at hg
     subst hg
     simp only[bu] at h
     split at h
     ·rename_i gs hgs
      split at h
      ·rename_i v hv
       split at h
       ·rename_i hoff
        simp only[Option.some.injEq] at h
        subst h
        exact ahx ho hu hf hz h1 hgs hv hoff
       ·cases h
      ·cases h
     ·rename_i n p hp
      split at h
      ·rename_i gs hgs
       split at h
       ·rename_i hoff
        simp only[Option.some.injEq] at h
        subst h
        exact ahw ho hu hf hz h1 hp hgs hoff.1 hoff.2
       ·cases h
      ·cases h
     ·cases h
   ·cases hg
  ·cases hg
 -- field
 ·rename_i t y f ho
  split at hg
  ·rename_i fs y' hu h1
   split at hg
   ·rename_i fd hf
    simp only[Option.map_eq_some_iff] at hg
    obtain ⟨s,hs,rfl⟩:=hg
    simp only[bu] at h
    split at h
    ·rename_i gs hgs
     split at h
     ·rename_i v hv
      split at h
      ·rename_i hoff
       simp only[Option.some.injEq] at h
       subst h
       exact ahy ho hu hf hs h1 hgs hv hoff.1 hoff.2
      ·cases h
     ·cases h
    ·cases h
   ·cases hg
  ·cases hg
 -- indexAddr
 ·rename_i t y i ho
  split at hg
  ·rename_i n e y' i' hu h1 h2
   split at hg
   ·rename_i hinfo
    obtain ⟨ti,hti⟩:=Option.isSome_iff_exists.1 hinfo
    simp only[Option.some.injEq] at hg
    subst hg
    simp only[bu] at h
    split at h
    ·rename_i kk k hk
     split at h
     ·rename_i hb
      split at h
      ·rename_i gs hgs
       split at h
       ·rename_i hev
        simp only[Option.map_eq_some_iff] at h
        obtain ⟨v,hv,rfl⟩:=h
        exact ahA ho hu hti h1 h2 hgs hk hb hev hv
       ·cases h
      ·rename_i m p hp
       split at h
       ·rename_i gs hgs
        split at h
        ·rename_i hev
         simp only[Option.some.injEq] at h
         subst h
         exact ahz ho hu hti h1 h2 hp hk hb hgs hev
        ·cases h
       ·cases h
      ·cases h
     ·cases h
    ·cases h
   ·cases hg
  ·rename_i e y' i' hu h1 h2
   split at hg
   ·rename_i hinfo
    obtain ⟨ti,hti⟩:=Option.isSome_iff_exists.1 hinfo
    simp only[Option.some.injEq] at hg
    subst hg
    simp only[bu] at h
    split at h
    ·rename_i kk k hk
     split at h
     ·rename_i sz es hes
      split at h
      ·rename_i hb
       obtain ⟨rfl,hb⟩:=hb
       simp only[Option.map_eq_some_iff] at h
       obtain ⟨v,hv,rfl⟩:=h
       exact ahB ho hu hti h1 h2 hes hk hb hv
      ·cases h
     ·rename_i m l hm
      split at h
      ·rename_i T sz es hes
       split at h
       ·rename_i hb
        obtain ⟨rfl,rfl,hb⟩:=hb
        simp only[Option.map_eq_some_iff] at h
        obtain ⟨v,hv,rfl⟩:=h
        exact ahC ho hu hti h1 h2 hm hes hk hb hv
       ·cases h
      ·cases h
     ·rename_i m p sz lo l hm
      split at h
      ·rename_i fs hfs
       split at h
       ·rename_i hb
        simp only[Option.some.injEq] at h
        subst h
        exact ahD ho hu hti h1 h2 hb.1 hm hfs hk hb.2
       ·cases h
      ·cases h
     ·cases h
    ·cases h
   ·cases hg
  ·cases hg
 -- index
 ·rename_i t y i ho
  split at hg
  ·rename_i n e y' i' hu h1 h2
   simp only[Option.map_eq_some_iff] at hg
   obtain ⟨s,hs,rfl⟩:=hg
   simp only[bu] at h
   split at h
   ·rename_i kk k hk
    split at h
    ·rename_i hb
     split at h
     ·rename_i gs hgs
      split at h
      ·rename_i hev
       split at h
       ·rename_i v hv
        split at h
        ·rename_i hok
         simp only[Option.some.injEq] at h
         subst h
         exact ahE ho hu hs h1 h2 hgs hk hb hev hv hok
        ·cases h
       ·cases h
      ·cases h
     ·cases h
    ·cases h
   ·cases h
  ·cases hg
 -- slice
 ·rename_i t y lo hi mx ho
  split at hg
  ·rename_i n e y' hu h1
   split at hg
   ·split at hg
    ·rename_i hinfo
     obtain ⟨ti,hti⟩:=Option.isSome_iff_exists.1 hinfo
     simp only[Option.some.injEq] at hg
     subst hg
     simp only[bu] at h
     split at h
     ·rename_i m p hp
      split at h
      ·rename_i gs hgs
       split at h
       ·rename_i hev
        simp only[Option.some.injEq] at h
        subst h
        exact ahN ho hu hti h1 hp hgs hev.1 hev.2.1 hev.2.2
       ·cases h
      ·cases h
     ·rename_i gs hgs
      split at h
      ·rename_i hev
       simp only[Option.some.injEq] at h
       subst h
       exact ahO ho hu hti h1 hgs hev.1 hev.2.1
      ·cases h
     ·cases h
    ·cases hg
   ·cases hg
  ·rename_i e y' hu h1
   split at hg
   ·rename_i lo' hi' mx' q1 q2 q3
    split at hg
    ·rename_i hc
     obtain ⟨ti,hti⟩:=Option.isSome_iff_exists.1 hc.2
     simp only[Option.some.injEq] at hg
     subst hg
     simp only[bu] at h
     split at h
     ·rename_i sz es hes
      split at h
      ·rename_i hsz
       subst hsz
       exact xh ho hu hti h1 q1 q2 q3 hc.1 (.inl hes) h
      ·cases h
     ·rename_i sz hes
      split at h
      ·rename_i hsz
       subst hsz
       exact xh ho hu hti h1 q1 q2 q3 hc.1 (.inr (.inl ⟨hes,rfl⟩)) h
      ·cases h
     ·rename_i sz hes
      split at h
      ·rename_i hsz
       subst hsz
       exact xh ho hu hti h1 q1 q2 q3 hc.1 (.inr (.inr ⟨hes,rfl⟩)) h
      ·cases h
     ·rename_i n p sz l0 k hv
      split at h
      ·rename_i fs hfs
       split at h
       ·rename_i hsz
        exact ahM ho hu hti h1 q1 q2 q3 hc.1 hsz hv hfs h
       ·cases h
      ·cases h
     ·cases h
    ·cases hg
   ·cases hg
  ·cases hg
 -- build
 ·rename_i t parts ho
  split at hg
  ·rename_i zs ps hz hp
   split at hg
   ·rename_i fs hu
    split at hg
    ·rename_i hc
     simp only[Option.some.injEq] at hg
     subst hg
     simp only[bu,Option.map_eq_some_iff] at h
     obtain ⟨zs',h,rfl⟩:=h
     exact IF ho hz hp (.inl ⟨fs,hu,hc.1,hc.2⟩) h
    ·cases hg
   ·rename_i n e hu
    split at hg
    ·rename_i hc
     simp only[Option.some.injEq] at hg
     subst hg
     simp only[bu,Option.map_eq_some_iff] at h
     obtain ⟨zs',h,rfl⟩:=h
     exact IF ho hz hp (.inr ⟨n,e,hu,hc.1,hc.2.1,hc.2.2⟩) h
    ·cases hg
   ·cases hg
  ·cases hg
 -- buildSlice
 ·rename_i t len parts ho
  split at hg
  ·rename_i e hu
   split at hg
   ·rename_i ps hp
    split at hg
    ·rename_i h0
     obtain ⟨rfl,rfl,h0⟩:=h0
     obtain ⟨ti,hti⟩:=Option.isSome_iff_exists.1 h0
     simp only[Option.some.injEq] at hg
     subst hg
     simp only[bu,Option.some.injEq] at h
     subst h
     exact ahq ho hu hti
    split at hg
    ·rename_i hc
     obtain ⟨c1,c2,c3,j0,lu⟩:=hc
     simp only[Option.some.injEq] at hg
     subst hg
     simp only[bu] at h
     split at h
     ·rename_i es hes
      split at h
      ·rename_i hev
       simp only[Option.some.injEq] at h
       subst h
       refine ahp ho hu hp c1 c2 c3 j0 lu hes (fun y hy =>?_) hev.2
       have:=List.all_eq_true.1 hev.1 y hy
       simpa using this
      ·cases h
     ·cases h
    ·cases hg
   ·cases hg
  ·cases hg
 -- extract
 ·rename_i y i ho
  simp only[Option.map_eq_some_iff] at hg
  obtain ⟨z,hz,rfl⟩:=hg
  simp only[bu] at h
  split at h
  ·rename_i fs hfs
   exact ahv ho hz hfs h
  ·cases h
 -- makeFunc
 ·rename_i f first caps ho
  split at hg
  ·rename_i hfirst
   simp only[Option.map_eq_some_iff] at hg
   obtain ⟨ys,hys,rfl⟩:=hg
   simp only[bu] at h
   split at h
   ·rename_i hv
    simp only[Option.some.injEq] at h
    subst h
    have hf:first = #[]:=by simpa using hfirst
    rw[hf] at ho
    refine ahH ho hys (fun y hy =>?_)
    have:=List.all_eq_true.1 hv (ae A y) (List.mem_map.2 ⟨y,hy,rfl⟩)
    exact this
   ·cases h
  ·cases hg
 -- alloc
 ·simp only[Option.map_eq_some_iff] at hg
  obtain ⟨z,_,rfl⟩:=hg
  simp[bu] at h
 -- box
 ·simp only[Option.map_eq_some_iff] at hg
  obtain ⟨z,_,rfl⟩:=hg
  simp[bu] at h
 -- store
 ·split at hg
  ·split at hg
   ·simp only[Option.some.injEq] at hg
    subst hg
    simp[bu] at h
   ·cases hg
  ·cases hg
 -- call
 ·split at hg
  ·simp only[Option.map_eq_some_iff] at hg
   obtain ⟨z,_,rfl⟩:=hg
   simp[bu] at h
  ·simp only[Option.map_eq_some_iff] at hg
   obtain ⟨z,_,rfl⟩:=hg
   simp[bu] at h
 ·split at hg
  ·simp only[Option.some.injEq] at hg
   subst hg
   simp[bu] at h
  ·cases hg
 -- len
 ·rename_i args tys ho
  split at hg
  ·rename_i y ty hargs htys
   have ho':o.op=.call { callee:=.builtin .len,args := #[y],argTypes := #[ty] } :=by
    rw[ho]
    have e1:args = #[y]:=by apply Array.ext';simpa using hargs
    have e2:tys = #[ty]:=by apply Array.ext';simpa using htys
    rw[e1,e2]
   split at hg
   ·rename_i e hu
    simp only[Option.map_eq_some_iff] at hg
    obtain ⟨y',hy,rfl⟩:=hg
    simp only[bu] at h
    split at h
    ·rename_i sz es hes
     simp only[Option.some.injEq] at h
     subst h
     refine pE ho' hu (.inl ⟨e,rfl⟩) hy (fun a w D E hs v hv =>?_)
     rw[hes] at hv
     obtain ⟨ad,cap,e1,e2,e3,_⟩:=nJ hv
     exact ⟨Nat.le_trans e2 e3,fun _=>⟨ad,cap,e1⟩,fun e=>by cases e⟩
    ·rename_i sz hes
     simp only[Option.some.injEq] at h
     subst h
     refine pE (n:=0) ho' hu (.inl ⟨e,rfl⟩) hy (fun a w D E hs v hv =>?_)
     rw[hes] at hv
     obtain ⟨cs,q1,q2⟩:=hv
     simp only[af] at q2
     exact ⟨by simp[maxLen],fun _=>⟨none,0,by simpa[bK,I.isAgg,q2] using q1.symm⟩,fun e=>by cases e⟩
    ·rename_i sz hes
     simp only[Option.some.injEq] at h
     subst h
     refine pE (n:=0) ho' hu (.inl ⟨e,rfl⟩) hy (fun a w D E hs v hv =>?_)
     rw[hes] at hv
     obtain ⟨cs,q1,q2⟩:=hv
     simp only[af] at q2
     obtain ⟨ad,q2⟩:=q2
     exact ⟨by simp[maxLen],fun _=>⟨ad,0,by simpa[bK,I.isAgg,q2] using q1.symm⟩,fun e=>by cases e⟩
    ·rename_i m l hm
     split at h
     ·rename_i T sz es hes
      split at h
      ·rename_i hl
       subst hl
       simp only[Option.some.injEq] at h
       subst h
       refine pE ho' hu (.inl ⟨e,rfl⟩) hy (fun a w D E hs v hv =>?_)
       rw[hm] at hv
       rcases hs.own hes hv with ⟨rfl,_,rfl⟩ | ⟨b,cap,cs,pre,rest,_,rfl,_,_,_,_,_,k8,k9,_⟩
       ·exact ⟨by simp[maxLen],fun _=>⟨none,0,rfl⟩,fun e=>by cases e⟩
       ·exact ⟨Nat.le_trans k8 k9,fun _=>⟨_,_,rfl⟩,fun e=>by cases e⟩
      ·cases h
     ·cases h
    ·rename_i n p sz lo k hm
     simp only[Option.some.injEq] at h
     subst h
     refine pE ho' hu (.inl ⟨e,rfl⟩) hy (fun a w D E hs v hv =>?_)
     rw[hm] at hv
     obtain ⟨cs,q1,q2⟩:=hv
     simp only[af] at q2
     obtain ⟨b,aR,off,l,_,_,_,q2,q3,q4,_⟩:=q2
     exact ⟨by omega,fun _=>⟨_,_,by simpa[bK,I.isAgg,q2] using q1.symm⟩,fun e=>by cases e⟩
    ·cases h
   ·rename_i hu
    simp only[Option.map_eq_some_iff] at hg
    obtain ⟨y',hy,rfl⟩:=hg
    simp only[bu] at h
    split at h
    ·rename_i s hs'
     simp only[Option.some.injEq] at h
     subst h
     refine pE ho' hu (.inr rfl) hy (fun a w D E hs v hv =>?_)
     rw[hs'] at hv
     obtain ⟨e1,e2⟩:=nK hv
     exact ⟨e2,(fun e=>by obtain ⟨_,e⟩:=e;cases e),fun _=>⟨s,e1,rfl⟩⟩
    ·cases h
   ·cases hg
  ·cases hg
 -- append
 ·split at hg
  ·split at hg
   ·split at hg
    ·simp only[Option.map_eq_some_iff] at hg
     obtain ⟨z,_,rfl⟩:=hg
     simp[bu] at h
    ·split at hg
     ·simp only[Option.map_eq_some_iff] at hg
      obtain ⟨z,_,rfl⟩:=hg
      simp[bu] at h
     ·cases hg
   ·cases hg
  ·cases hg
 -- cap
 ·rename_i args tys ho
  split at hg
  ·rename_i y ty hargs htys
   have ho':o.op=.call { callee:=.builtin .cap,args := #[y],argTypes := #[ty] } :=by
    rw[ho]
    have e1:args = #[y]:=by apply Array.ext';simpa using hargs
    have e2:tys = #[ty]:=by apply Array.ext';simpa using htys
    rw[e1,e2]
   split at hg
   ·rename_i e hu
    simp only[Option.map_eq_some_iff] at hg
    obtain ⟨y',hy,rfl⟩:=hg
    simp only[bu] at h
    split at h
    ·rename_i sz hes
     simp only[Option.some.injEq] at h
     subst h
     refine xf ho' hu hy (fun a w D E hs v hv =>?_)
     rw[hes] at hv
     obtain ⟨cs,q1,q2⟩:=hv
     simp only[af] at q2
     exact ⟨by simp[maxLen],_,_,by simpa[bK,I.isAgg,q2] using q1.symm⟩
    ·rename_i sz hes
     simp only[Option.some.injEq] at h
     subst h
     refine xf ho' hu hy (fun a w D E hs v hv =>?_)
     rw[hes] at hv
     obtain ⟨cs,q1,q2⟩:=hv
     simp only[af] at q2
     obtain ⟨ad,q2⟩:=q2
     exact ⟨by simp[maxLen],_,_,by simpa[bK,I.isAgg,q2] using q1.symm⟩
    ·rename_i n p sz lo k hm
     split at h
     ·rename_i fs hfs
      simp only[Option.some.injEq] at h
      subst h
      refine xf ho' hu hy (fun a w D E hs v hv =>?_)
      rw[hm] at hv
      obtain ⟨_,b,cs,T,off,c1,c2,c3,_,_,_,_,_,_,_,_,_,_,_,q1,q2⟩:=hs.view hv hfs
      exact ⟨by omega,_,_,q2⟩
     ·cases h
    ·cases h
   ·cases hg
  ·cases hg
 -- clear
 ·split at hg
  ·split at hg
   ·simp only[Option.map_eq_some_iff] at hg
    obtain ⟨z,_,rfl⟩:=hg
    simp[bu] at h
   ·cases hg
  ·cases hg
 -- copy
 ·split at hg
  ·split at hg
   ·split at hg
    ·simp only[Option.some.injEq] at hg
     subst hg
     simp[bu] at h
    ·cases hg
   ·cases hg
  ·cases hg
 ·cases hg
theorem fP.append{α β:Type}{R:α→β→Prop} : ∀ {xs:List α} {ys:List β} {xs':List α} {ys':List β},fP R xs ys→fP R xs' ys'→fP R (xs++xs') (ys++ys')
 |_,_,_,_,.nil,h=>h
 |_,_,_,_,.cons h1 h2,h=>.cons h1 (h2.append h)
theorem yL{w:World}{D:aQ}{E:aU} : ∀ {xs:List I} {vs:List Value},aI w D E xs vs→fP (aT w D E) xs vs
 | [],vs,h=>by simp only[aI] at h;subst h;exact .nil
 |x::xs,vs,h=>by
  simp only[aI] at h
  obtain ⟨v,rest,cs,rfl,h1,h2,h3⟩:=h
  exact .cons (mE h1 h2) (yL h3)
theorem RW {P : Program} {f : FuncId} (h : gR P f = true) : ∃ fn, P.funcs[f]? = some fn ∧ ¬ fn.name = "runtime.NumGoroutine" ∧ ¬ fn.body = none := by
 unfold gR at h
 cases hf:P.funcs[f]? with
 |none=>simp[hf] at h
 |some fn =>
  simp only[hf,Option.any_some,Bool.and_eq_true,bne_iff_ne,ne_eq] at h
  refine ⟨fn,rfl,by simpa using h.1,?_⟩
  cases hb:fn.body <;>simp_all
theorem yH{P:Program}{w:World}{f:FuncId}{args:Array Value}(h:gR P f=true):(callFunc f args).run P w=.ok (.enter f args) w:=by
 obtain ⟨fn,h1,h2,h3⟩:=RW h
 simp[callFunc,h1,h2,h3]
theorem av.al4{f:FuncId}{avs cargs:List I}{r:I}{vs:List Value}{a:Act}{w:World}{D:aQ}{E:aU}(hs:aS c A a w D E)(h:av c.P f cargs r)(hf:r.flat=true)(hc:bY true A avs=some cargs)(hv:fP (aT w D E) avs vs) :
  Calls c.P f vs.toArray w fun e w'=>∃ v D',e=.returned v∧aS c A a w' D' E∧aT w' D' E r v:=by
 have hw:iw true A D E (fun b _=>b<w.heap.size):=by
  refine ⟨fun b o hd=>hs.c9 b o hd,fun n T sz es b cap hn ar o _=>hs.fQ ar rfl,fun _ n x b aR hn ar o _=>hs.fQ ar rfl,fun _ n ks vs b hn ar=>hs.fQ ar rfl⟩
 have hrv:=my (E':=dE) hs (fun _ _ h=>h) hw avs cargs vs (mQ _ _ hv (qK hc)) hc
 refine (h.2 w _ vs (fun _ _ hd=>hd) hrv).mono fun e w' ⟨v,D',he,h1,h2,h3,h4⟩=>⟨v,D,he,?_,aT.flat hf h1⟩
 exact hs.grow h2 (fun _ _ hd=>hd) (fun _ _ hd _=>hd) (fun b o hd=>Nat.lt_of_lt_of_le (hs.c9 b o hd) h2.size)
theorem av.al6{f:FuncId}{avs cargs:List I}{r:I}{vs:List Value}{a:Act}{w:World}{D:aQ}{E:aU}(hs:aS c A a w D E)(h:av c.P f cargs r)(hc:bY false A avs=some cargs)(hv:fP (aT w D E) avs vs) :
  Calls c.P f vs.toArray w fun e w'=>∃ v D',e=.returned v∧aS c A a w' D' E∧aT w' D' E r v:=by
 obtain ⟨hs1,hw⟩:=hs.oL
 have hrv:=my (E':=dE) hs (fun _ _ h=>h) hw avs cargs vs (mQ _ _ hv (qK hc)) hc
 refine (h.2 w _ vs hs1.c9 hrv).mono fun e w' ⟨v,D',he,h1,h2,h3,h4⟩=>⟨v,fun b o=>oH A D E b o∨(w.heap.size≤b∧D' b o),he,?_,?_⟩
 ·refine hs1.grow h2 (fun _ _ hd=>.inl hd) ?_ ?_
  ·rintro b o (hd | ⟨hle,_⟩) hlt
   ·exact hd
   ·omega
  ·rintro b o (hd | ⟨_,hd⟩)
   ·exact Nat.lt_of_lt_of_le (hs1.c9 b o hd) h2.size
   ·exact h3 b o hd
 ·refine aT.bJ (E:=dE) ⟨fun b o hd =>?_,fun _ _ _ _ h=>h,fun n b aR hn=>by simp[dE] at hn,fun n aD l hn=>by simp[dE] at hn,fun n b hn=>by simp[dE] at hn,fun n b hn=>by simp[dE] at hn,fun _ _ _ _ h=>h⟩ h1
  rcases Nat.lt_or_ge b w.heap.size with hlt | hge
  ·exact .inl (h4 b o hd hlt)
  ·exact .inr ⟨hge,hd⟩
theorem Jo(p:Nat→Bool)(os:List (Nat×ah))(n:Nat):ai (os.filter fun q=>p q.1) n=if p n then ai os n else none:=by
 induction os with
 |nil=>simp[ai]
 |cons q os ih =>
  obtain ⟨k,v⟩:=q
  simp only[List.filter_cons]
  by_cases hk:p k=true
  ·simp only[hk,if_true,ai,ih]
   by_cases hn:n=k
   ·subst hn;simp only[hk,if_true]
   ·simp only[if_neg hn]
  ·simp only[hk,Bool.false_eq_true,if_false,ih,ai]
   by_cases hn:n=k
   ·subst hn;simp[hk]
   ·simp only[if_neg hn]
theorem lM(ns:List Nat)(os:List (Nat×ah))(n:Nat):ai (cw ns os) n=if ns.contains n then none else ai os n:=by
 rw[cw,Jo (fun n => !ns.contains n)]
 cases ns.contains n <;>rfl
theorem lN(ns:List Nat)(os:List (Nat×ah))(n:Nat):ai (fS ns os) n=if ns.contains n then ai os n else none:=Jo _ _ _
theorem tL{p:Nat→Bool} : ∀ {os:List (Nat×ah)},bt p os→∀ k x,ai os k=some x→x.only p=true
 | [],_,k,x,hx=>by simp[ai] at hx
 |(j,v)::r,h,k,x,hx=>by
  simp only[bt] at h
  simp only[ai] at hx
  split at hx
  ·simp only[Option.some.injEq] at hx;subst hx;exact h.1
  ·exact tL h.2 k x hx
theorem Jp(ns:List Nat):∀ (ts:List (Nat×I)) (t:Nat),bH (fG ns ts) t=if (bH ts t).only (fun n => !ns.contains n) then bH ts t else .c7
 | [],t=>by simp[fG,bH,I.only]
 |(k,v)::r,t=>by
  simp only[fG,List.map_cons,bH]
  by_cases h:t=k
  ·simp only[if_pos h]
  ·simp only[if_neg h];exact Jp ns r t
theorem aS.DI{a:Act}{w:World}{D:aQ}{E:aU}{ts:List (Nat×I)}{os0:List (Nat×ah)}(h:aS c (aq ts os0) a w D E)(ns:List Nat)(ho:bt (fun n => !ns.contains n) (cw ns os0)) :
  ∃ D' E',aS c (aq (fG ns ts) (cw ns os0)) a w D' E'∧iw true (aq ts (fS ns os0)) D E D':=by
 have h1:=h.oL.1
 have hw1:=h.oL.2
 obtain ⟨D1,hD1⟩:∃ D1,D1=oH (aq ts os0) D E:=⟨_,rfl⟩
 rw[←hD1] at h1 hw1
 obtain ⟨D2,hD2⟩:∃ D2:aQ,D2=fun b o=>D1 b o∨(∃ n x aR,ns.contains n=true∧ai os0 n=some (.box x)∧E n=some (.aB b aR)∧o<x.size)∨∃ n ks vs,ns.contains n=true∧ai os0 n=some (.ct ks vs)∧E n=some (.ct b)∧o=0:=⟨_,rfl⟩
 obtain ⟨E2,hE2⟩:∃ E2:aU,E2=fun n=>if ns.contains n then none else E n:=⟨_,rfl⟩
 have e2:∀ n,(!ns.contains n)=true→E2 n=E n:=fun n hn=>by rw[hE2];simp at hn;simp[hn]
 have hl:dN w D1 E2 w D2 E2:=⟨fun b o hd=>by rw[hD2];exact .inl hd,fun _ _ _ _ h=>h,fun _ _ _ h=>h,fun _ aD l h=>⟨aD,l,h,Nat.le_refl _,fun _=>rfl⟩,fun _ _ h=>h,fun _ _ h=>h,fun _ _ _ _ h=>h⟩
 have pO:∀ b o,D2 b o→D1 b o∨∃ n e q,ns.contains n=true∧E n=some e∧e.aD=some b∧c.fj b∧w.heap[b]?=some q:=fun b o hd=>by
  rw[hD2] at hd
  rcases hd with hd | ⟨n,x,aR,k1,k2,k3,k4⟩ | ⟨n,ks,vs,k1,k2,k3,_⟩
  ·exact .inl hd
  ·obtain ⟨b',cs,T,q1,q2,q3,_⟩:=h.box (n:=n) (x:=x) (by simpa[aq] using k2)
   rw[k3] at q1
   simp only[Option.some.injEq,bR.aB.injEq] at q1
   obtain ⟨rfl,rfl⟩:=q1
   exact .inr ⟨n,_,_,k1,k3,rfl,q2,q3⟩
  ·obtain ⟨b',es,ck,q1,q2,q3,_⟩:=h.map (n:=n) (ks:=ks) (vs:=vs) (by simpa[aq] using k2)
   rw[k3] at q1
   cases q1
   exact .inr ⟨n,_,_,k1,k3,rfl,q2,q3⟩
 refine ⟨D2,E2,⟨h1.sz,h1.eQ,fun t =>?_,h1.dO,fun b o hd hm =>?_,fun b o hd =>?_,fun n =>?_,fun n m e e' b g1 g2 g3 g4 =>?_,fun n e hn =>?_,h1.eV,fun b o hd=>hl.c5 b o (h1.cF b o hd),h1.eX,h1.fE⟩,?_⟩
 ·simp only[aq,Jp]
  have ht:=h1.dZ t
  simp only[aq] at ht
  split
  ·rename_i hp
   exact aT.bJ hl (aT.dD e2 hp ht)
  ·simp[aT]
 ·rcases pO b o hd with hd | ⟨n,e,q,_,_,_,k,_⟩
  ·exact h1.c5 b o hd hm
  ·exact absurd k hm
 ·rcases pO b o hd with hd | ⟨n,e,q,_,_,_,_,k⟩
  ·exact h1.c9 b o hd
  ·exact fR k
 ·simp only[aq,lM]
  by_cases hn:ns.contains n=true
  ·simp only[hn,if_true,c8];rw[hE2];simp only[hn,if_true]
  ·have hnb:(!ns.contains n)=true:=by simpa using hn
   simp only[hn,Bool.false_eq_true,if_false]
   have hob:=h1.bQ n
   simp only[aq] at hob
   cases hx:ai os0 n with
   |none=>rw[hx] at hob;simp only[c8] at hob ⊢;rw[e2 n hnb];exact hob
   |some x =>
    have hon:=tL ho n x (by rw[lM,if_neg hn];exact hx)
    have nD:∀ e b,E n=some e→e.aD=some b→∀ o,D2 b o→D1 b o:=fun e b he hb o hd=>by
     rcases pO b o hd with hd | ⟨m,e',q,k1,k3,k2,_⟩
     ·exact hd
     ·have:=h.cS n m e _ b he k3 hb k2
      subst this
      exact absurd k1 hn
    rw[hx] at hob
    cases x with
    |box x =>
     obtain ⟨b,cs,T,k1,k2,k3,k4,k5⟩:=hob
     exact ⟨b,cs,T,(e2 n hnb).trans k1,k2,k3,af.bJ hl _ _ (af.dD e2 _ _ (by simpa[ah.only] using hon) k4),fun o hd=>k5 o (nD _ b k1 rfl o hd)⟩
    |bT T sz es =>
     obtain ⟨aD,k1,k2,k3⟩:=hob
     refine ⟨aD,(e2 n hnb).trans k1,k2,?_⟩
     cases aD with
     |none=>exact k3
     |some bc =>
      obtain ⟨b,cap⟩:=bc
      obtain ⟨cs,pre,rest,q1,q2,q3,q4,q5,q6,q7,q8⟩:=k3
      exact ⟨cs,pre,rest,q1,q2,q3,aJ.bJ hl _ _ (aJ.dD e2 _ _ (by simpa[ah.only] using hon) q4),q5,q6,q7,fun o hd=>q8 o (nD _ b k1 rfl o hd)⟩
    |cM T xs =>
     obtain ⟨aD,k1,k2,k3⟩:=hob
     refine ⟨aD,(e2 n hnb).trans k1,k2,?_⟩
     cases aD with
     |none=>exact k3
     |some bc =>
      obtain ⟨b,cap⟩:=bc
      obtain ⟨cs,r,q1,q2,q3,q4,q5,q6,q7⟩:=k3
      exact ⟨cs,r,q1,q2,q3,q4,q5,q6,fun o hd=>q7 o (nD _ b k1 rfl o hd)⟩
    |dL x =>
     obtain ⟨b,k1,k2,k3,k4,k5⟩:=hob
     exact ⟨b,(e2 n hnb).trans k1,k2,k3,k4,fun o hd=>k5 o (nD _ b k1 rfl o hd)⟩
    |ct ks vs =>
     obtain ⟨b,es,ck,k1,k2,k3,k4,k5,k6,k7⟩:=hob
     simp only[ah.only,Bool.and_eq_true] at hon
     exact ⟨b,es,ck,(e2 n hnb).trans k1,k2,k3,k4,aI.bJ hl _ _ (aI.dD e2 _ _ hon.1 k5),aI.bJ hl _ _ (aI.dD e2 _ _ hon.2 k6),fun o hd=>k7 o (nD _ b k1 rfl o hd)⟩
    |it ks vs left cur =>
     obtain ⟨r,b,es,ck,si,se,la,k1,k2,k3,k4,k5,k6,k7,k8,k9,k9',k10⟩:=hob
     simp only[ah.only,Bool.and_eq_true] at hon
     exact ⟨r,b,es,ck,si,se,la,(e2 n hnb).trans k1,k2,k3,k4.bJ hl,aI.bJ hl _ _ (aI.dD e2 _ _ hon.1 k5),aI.bJ hl _ _ (aI.dD e2 _ _ hon.2 k6),k7,k8,k9,k9',fun o hd=>k10 o (nD _ r k1 rfl o hd)⟩
 ·have cut:∀ n e,E2 n=some e→E n=some e:=fun n e he=>by
   rw[hE2] at he
   simp only at he
   split at he
   ·cases he
   ·exact he
  exact h.cS n m e e' b (cut n e g1) (cut m e' g2) g3 g4
 ·by_cases hm:ns.contains n=true
  ·left;rw[hE2];simp only[hm,if_true]
  ·rw[e2 n (by simpa using hm)];exact h.dR n e hn
 ·refine ⟨fun b o hd=>by rw[hD2];exact .inl (hw1.c5 b o hd),fun n T sz es b cap hn ar o hlt =>?_,fun _ n x b aR hn ar o hlt =>?_,fun _ n ks vs b hn ar =>?_⟩
  ·simp only[aq,lN] at hn
   split at hn
   ·rw[hD2];exact .inl (hw1.bT n T sz es b cap hn ar o hlt)
   ·cases hn
  ·simp only[aq,lN] at hn
   split at hn
   ·rename_i hk
    rw[hD2];exact .inr (.inl ⟨n,x,aR,hk,hn,ar,hlt⟩)
   ·cases hn
  ·simp only[aq,lN] at hn
   split at hn
   ·rename_i hk
    rw[hD2];exact .inr (.inr ⟨n,ks,vs,hk,hn,ar,rfl⟩)
   ·cases hn
theorem av.al5{f:FuncId}{avs cargs:List I}{r:I}{vs:List Value}{a:Act}{w:World}{D:aQ}{E:aU}{ts:List (Nat×I)}{os0:List (Nat×ah)}(hs:aS c (aq ts os0) a w D E)(ns:List Nat)(ho:bt (fun n => !ns.contains n) (cw ns os0))
  (h:av c.P f cargs r) (hc:bY true (aq ts (fS ns os0)) avs=some cargs) (hv:fP (aT w D E) avs vs) :
  Calls c.P f vs.toArray w fun e w'=>∃ v D' E',e=.returned v∧aS c (aq (fG ns ts) (cw ns os0)) a w' D' E'∧aT w' D' E' r v:=by
 obtain ⟨D1,E1,hs1,hw⟩:=hs.DI ns ho
 have hu:ef (aq ts (fS ns os0)) (aq ts os0):=fun n x hx=>by
  simp only[aq,lN] at hx ⊢
  split at hx
  ·exact hx
  ·cases hx
 have hrv:=my (E':=dE) hs hu hw avs cargs vs (mQ _ _ hv (qK hc)) hc
 refine (h.2 w _ vs hs1.c9 hrv).mono fun e w' ⟨v,D',he,h1,h2,h3,h4⟩=>⟨v,fun b o=>D1 b o∨(w.heap.size≤b∧D' b o),E1,he,?_,?_⟩
 ·refine hs1.grow h2 (fun _ _ hd=>.inl hd) ?_ ?_
  ·rintro b o (hd | ⟨hle,_⟩) hlt
   ·exact hd
   ·omega
  ·rintro b o (hd | ⟨_,hd⟩)
   ·exact Nat.lt_of_lt_of_le (hs1.c9 b o hd) h2.size
   ·exact h3 b o hd
 ·refine aT.bJ (E:=dE) ⟨fun b o hd =>?_,fun _ _ _ _ h=>h,fun n b aR hn=>by simp[dE] at hn,fun n aD l hn=>by simp[dE] at hn,fun n b hn=>by simp[dE] at hn,fun n b hn=>by simp[dE] at hn,fun _ _ _ _ h=>h⟩ h1
  rcases Nat.lt_or_ge b w.heap.size with hlt | hge
  ·exact .inl (h4 b o hd hlt)
  ·exact .inr ⟨hge,hd⟩
theorem u7{a:Act}{w:World}{D D1:aQ}{E:aU}{ts:List (Nat×I)}{os0 os:List (Nat×ah)}{ρ:List (Nat×Nat)}{aB:Bool}{A0:ab}(hs:aS c (aq ts os0) a w D E)(hu:ef A0 (aq ts os0))(hD:∀ b o,D b o→D1 b o)(hw:iw aB A0 D E D1) :
  ∀ (avs cargs:List I) (vs:List Value),js aB A0 ρ os avs cargs→fP (aT w D E) avs vs→aI w D1 (ar ρ os E) cargs vs
 | [],[],vs,_,hv=>by cases hv;simp[aI]
 | [],_::_,_,h,_=>by simp[js] at h
 |_::_,[],_,h,_=>by simp[js] at h
 |x::xs,y::ys,vs,h,hv=>by
  cases hv with
  |cons hv hvs =>
  rename_i v vs
  simp only[js] at h
  have ih:=u7 hs hu hD hw xs ys vs h.2 hvs
  have hl:dN w D (ar ρ os E) w D1 (ar ρ os E):=⟨hD,fun _ _ _ _ h=>h,fun _ _ _ h=>h,fun _ aD l h=>⟨aD,l,h,Nat.le_refl _,fun _=>rfl⟩,fun _ _ h=>h,fun _ _ h=>h,fun _ _ _ _ h=>h⟩
  have h1:∃ cs,bK y v cs∧af w D1 (ar ρ os E) y cs:=by
   rcases h.1 with ⟨k1,k2,k3⟩ | k
   ·rw[k1] at hv
    have h2:=aT.bJ hl ((aT.aM (w:=w) (D:=D) (p:=ao os) (ρ:=bA ρ) (E:=ar ρ os E) (E':=E) (fun n hn=>by simp only[ar,hn,if_true]) k2).1 hv)
    cases y <;>simp only[aT] at h2 <;>first | (simp[I.cm] at k3;done) | exact h2
   ·have h2:aI w D E [x] [v]:=mQ [x] [v] (.cons hv .nil) (by
     intro z hz
     simp only[List.mem_singleton] at hz
     subst hz
     cases z <;>simp_all[bd,I.cm])
    have h3:=my (E':=ar ρ os E) hs hu hw [x] [y] [v] h2 (by simp[bY,k])
    simp only[aI] at h3
    obtain ⟨v',rest,cs,e,k1,k2,_⟩:=h3
    simp only[List.cons.injEq] at e
    obtain ⟨rfl,_⟩:=e
    exact ⟨cs,k1,k2⟩
  obtain ⟨cs,k1,k2⟩:=h1
  simp only[aI]
  exact ⟨v,vs,cs,rfl,k1,k2,ih⟩
theorem ef.drop(ts:List (Nat×I))(ns:List Nat)(os0:List (Nat×ah)):ef (aq ts (cw ns os0)) (aq ts os0):=fun n x hx=>by
 simp only[aq,lM] at hx ⊢
 split at hx
 ·cases hx
 ·exact hx
theorem qo.use{run:Array Value→World→(Ending→World→Prop)→Prop}{since:World→aQ→aU→Prop}{avs cargs:List I}{post:cN}{vs:List Value}{a:Act}{w:World}{D:aQ}{E:aU}{ts:List (Nat×I)}{os0 os:List (Nat×ah)}{ρ:List (Nat×Nat)}
  (hs:aS c (aq ts os0) a w D E) (h:qo run since cargs os post) (aB:Bool) (hmono:∀ {vs w R R'},run vs w R→(∀ e w,R e w→R' e w)→run vs w R') (hsince:(aB=true→∀ D E,since w D E)∧(aB=false→since w (oH (aq ts os0) D E) (ar ρ os E)))
  (hg:fU ρ os os0) (ha:js aB (aq ts (cw (jQ ρ os) os0)) ρ os avs cargs) (hb:∀ r os',post r os'→ev aB ρ os os0 r os') (hv:fP (aT w D E) avs vs) :
  run vs.toArray w fun e w'=>∃ v r os' D2 E2,e=.returned v∧post r os'∧aS c (aq ts (dC ρ os'++os0)) a w' D2 E2∧aT w' D2 E2 (r.aM (bA ρ)) v∧∀ m e,ar ρ os E m=some e→ao os' m=true→∃ e',E2 (bA ρ m)=some e'∧e.le e':=by
 have notName:∀ n,(jQ ρ os).contains n=false→∀ m,ao os m=true→bA ρ m≠n:=fun n hn m hm he=>by
  obtain ⟨q,hq,rfl⟩:=xz.1 hm
  have:(jQ ρ os).contains n=true:=by simp only[jQ,List.contains_iff_mem,List.mem_map];exact ⟨q,hq,he⟩
  rw[this] at hn;cases hn
 have other:∀ {D:aQ},aS c (aq ts os0) a w D E→∀ n e b x,ai (cw (jQ ρ os) os0) n=some x→E n=some e→e.aD=some b→¬ dy (ar ρ os E) b:=fun hs n e b x hx he hb ho=>by
  obtain ⟨m,e',h1,h2,hb',_⟩:=hs.sZ hg ho
  rw[lM] at hx
  split at hx
  ·cases hx
  ·rename_i hc
   have:=hs.cS n (bA ρ m) e _ b he h2 hb hb'
   exact notName n (by simpa using hc) m h1 this.symm
 cases aB with
 |true =>
  obtain ⟨D1,hD1⟩:∃ D1:aQ,D1=fun b o=>D b o∨(b<w.heap.size∧¬ dy (ar ρ os E) b):=⟨_,rfl⟩
  have hD:∀ b o,D b o→D1 b o:=fun b o hd=>by rw[hD1];exact .inl hd
  have hw:iw true (aq ts (cw (jQ ρ os) os0)) D E D1:=by
   refine ⟨hD,fun n T sz es b cap hn ar o _ =>?_,fun _ n x b aR hn ar o _ =>?_,fun _ n ks vs b hn ar =>?_⟩
   ·rw[hD1];exact .inr ⟨hs.fQ ar rfl,other hs n _ b _ hn ar rfl⟩
   ·rw[hD1];exact .inr ⟨hs.fQ ar rfl,other hs n _ b _ hn ar rfl⟩
   ·rw[hD1];exact .inr ⟨hs.fQ ar rfl,other hs n _ b _ hn ar rfl⟩
  have hrv:=u7 hs (ef.drop ts _ os0) hD hw avs cargs vs ha hv
  refine hmono (h w D1 (ar ρ os E) vs (hsince.1 rfl _ _) (fun b o hd=>by
   rw[hD1] at hd
   rcases hd with hd | hd
   ·exact hs.c9 b o hd
   ·exact hd.1) (hs.IL hg hD fun b o hd ho=>by
    rw[hD1] at hd
    rcases hd with hd | hd
    ·exact hd
    ·exact absurd ho hd.2) hrv) ?_
  rintro e w' ⟨v,D',E',r,os',he,hp,h1,h2,h3,h4,h5,h6,h7,h8⟩
  obtain ⟨D2,E2,k1,k2⟩:=hs.m8 hg hD (fun h=>by cases h) (hb r os' hp) h1 h2 h3 h5 h4 h8 h6 h7
  exact ⟨v,r,os',D2,E2,he,hp,k1,k2⟩
 |false =>
  obtain ⟨hs1,hw⟩:=hs.oL
  have hw':iw false (aq ts (cw (jQ ρ os) os0)) D E (oH (aq ts os0) D E):=⟨hw.c5,fun n T sz es b cap hn ar o hlt=>hw.bT n T sz es b cap (ef.drop ts _ os0 n _ hn) ar o hlt,(fun hb=>by cases hb),fun hb=>by cases hb⟩
  have hrv:=u7 hs (ef.drop ts _ os0) hw.c5 hw' avs cargs vs ha hv
  refine hmono (h w _ (ar ρ os E) vs (hsince.2 rfl) hs1.c9 (hs1.IL hg (fun _ _ h=>h) fun b o hd _=>hd) hrv) ?_
  rintro e w' ⟨v,D',E',r,os',he,hp,h1,h2,h3,h4,h5,h6,h7,h8⟩
  obtain ⟨D2,E2,k1,k2⟩:=hs1.m8 hg (fun _ _ h=>h) (fun _ _ _ h=>h) (hb r os' hp) h1 h2 h3 h5 h4 h8 h6 h7
  exact ⟨v,r,os',D2,E2,he,hp,k1,k2⟩
theorem aS.since{A:ab}{a:Act}{w:World}{D:aQ}{E E':aU}(h:aS c A a w D E)(ar:∀ n,E' n=E n∨E' n=none):zS c w D E' :=
 ⟨h.dO,h.cF,h.c5,fun n e hn=>by
  rcases ar n with k | k
  ·rw[k];exact h.dR n e hn
  ·exact .inl k,h.fE⟩
theorem od(c:cJ)(f:FuncId):c.bl.fn f:=by unfold cJ.bl;split <;>trivial
theorem C0(c:cJ):c.bl.depth.isSome=true→1≤9:=fun _=>by omega
theorem mc{a:Act}{w:World} : ∀ f,o.about c.P w a.eval=some f→c.bl.fn f:=fun f _=>od c f
theorem mS{g:b7}(hg:dF c.P o=some g)(r:Option Nat)(ρ:Operand→Value):o.semAt r ρ=execOp ρ o:=by
 cases r with
 |none=>rfl
 |some l =>
  refine Oper.semAt_some l ρ o fun cl h =>?_
  unfold dF at hg
  rw[h] at hg
  simp at hg
theorem RY{f:FuncId}{args:Array Value}{w:World}{R:Ending→World→Prop}(h:Calls c.P f args w R):CallsIn c.bl (9-1) c.P f args w R:=by
 have h1:CallsIn Fence.wide (9-1) c.P f args w R:=callsIn_wide.2 h
 unfold cJ.bl
 split
 ·exact h1
 ·exact h1
theorem r5.mono{P:Program}{v:Value}{vs:Array Value}{w:World}{R R':Ending→World→Prop}(h:r5 P v vs w R)(hr:∀ e w,R e w→R' e w):r5 P v vs w R':=by
 obtain ⟨l,h1,fn,tmps,assign,body,h2,h3⟩:=h
 exact ⟨l,h1,fn,tmps,assign,body,h2,h3.mono hr⟩
theorem ak5{l:Nat}{f:FuncId}{tmps:Array Value}{assign body:Code}{w:World}{R:Ending→World→Prop}(h:RoundIn Fence.wide 9 c.P l f tmps assign body w R):RoundIn c.bl (9-1) c.P l f tmps assign body w R:=by
 have h1:RoundIn Fence.wide (9-1) c.P l f tmps assign body w R:=⟨h.1,fun cc cs _=>h.2 cc cs (room_wide _)⟩
 unfold cJ.bl
 split
 ·exact h1
 ·exact h1
theorem iL.wp{B:ab}{g:b7}(hg:dF c.P o=some g)(h:iL c A o B){a:Act}{w:World}{K:Act→World→Prop}{Q:Exit→Act→World→Prop}(hs:cj c A a w)(hK:∀ a w,cj c B a w→K a w):o.wpIn c.bl 9 c.P a w K Q:=by
 obtain ⟨D,E,hs⟩:=hs
 obtain ⟨w',h⟩:=h a w D E hs
 refine ⟨mc,?_⟩
 rw[mS hg]
 rcases h with ⟨v,h1,h2⟩ | ⟨h1,h2⟩
 ·rw[h1];exact hK _ _ h2
 ·rw[h1];exact hK _ _ h2
theorem Cu{dr:Bool}{K:ab→Prop}{f:FuncId}{avs:List I}{a1 a2:Option (List I)}{vs:List Value}{dst:Option Nat}{rest:List az}{a:Act}{w:World}{Kw:Act→World→Prop}{Q:Exit→Act→World→Prop}{g:b7}(hg:dF c.P o=some g)(h1:bY true A avs=a1)(h2:bY false A avs=a2)
  (hs:∀ D E,aS c A a w D E→fP (aT w D E) avs vs) (hsim:cj c A a w) (hwp:bj c.P c.Y dr K (.call f avs a1 a2 dst rest A)) (hd:o.dst=dst) (hdn:∀ k,dst=some k→k<c.n)
  (hrun:gR c.P f=true→(execOp a.eval o).run c.P w=.ok (.enter f vs.toArray) w)
  (hK:∀ B a' w',bj c.P c.Y dr K (ay rest B)→cj c B a' w'→Kw a' w'):o.wpIn c.bl 9 c.P a w Kw Q:=by
 obtain ⟨D,E,hsw⟩:=hsim
 have oR:∀ {R:Ending→World→Prop},gR c.P f=true→Calls c.P f vs.toArray w R→(∀ e w',R e w'→∃ v,e=.returned v∧Kw (a.put o.dst v) w')→o.wpIn c.bl 9 c.P a w Kw Q:=fun {R} hc hcl hR=>by
  refine ⟨mc,?_⟩
  rw[mS hg,hrun hc,Oper.uponIn_enter]
  refine ⟨C0 c,RY (hcl.mono fun e w' he =>?_)⟩
  obtain ⟨v,rfl,hv⟩:=hR e w' he
  exact hv
 cases hwp with
 |flat r hspec hflat hrest =>
  refine oR hspec.1 (hspec.al4 hsw hflat h1 (hs D E hsw)) ?_
  rintro e w' ⟨v,D',he,hs',hv⟩
  refine ⟨v,he,?_⟩
  rw[hd]
  exact hK _ _ _ hrest ⟨D',E,hs'.aP hdn hv⟩
 |lead r hspec hrest =>
  refine oR hspec.1 (hspec.al6 hsw h2 (hs D E hsw)) ?_
  rintro e w' ⟨v,D',he,hs',hv⟩
  refine ⟨v,he,?_⟩
  rw[hd]
  exact hK _ _ _ hrest ⟨D',E,hs'.aP hdn hv⟩
 |gU ns r hdr hspec hf ho hrest =>
  refine oR hspec.1 (hspec.al5 hsw ns ho hf (hs D E hsw)) ?_
  rintro e w' ⟨v,D',E',he,hs',hv⟩
  refine ⟨v,he,?_⟩
  rw[hd]
  exact hK _ _ _ hrest ⟨D',E',hs'.aP hdn hv⟩
 |bQ aB ρ os cargs post hdr hspec hgv ha hb hrest =>
  refine oR hspec.1 (hspec.2.use hsw aB (fun h=>h.mono) ⟨fun _ _ _=>trivial,fun _=>trivial⟩ hgv ha hb (hs D E hsw)) ?_
  rintro e w' ⟨v,r,os',D2,E2,he,hp,hs',hv,_⟩
  refine ⟨v,he,?_⟩
  rw[hd]
  exact hK _ _ _ (hrest r os' hp) ⟨D2,E2,hs'.aP hdn hv⟩
theorem RX{dr:Bool}{K:ab→Prop}{v:Value}{avs:List I}{vs:List Value}{dst:Option Nat}{rest:List az}{a:Act}{w:World}{Kw:Act→World→Prop}{Q:Exit→Act→World→Prop}{g:b7}(hg:dF c.P o=some g)
  (hs:∀ D E,aS c A a w D E→fP (aT w D E) avs vs) (hsim:cj c A a w) (hwp:bj c.P c.Y dr K (.pj v avs dst rest A)) (hd:o.dst=dst) (hdn:∀ k,dst=some k→k<c.n)
  (hrun:∀ l,v=.func (.yield l) #[] #[]→(execOp a.eval o).run c.P w=(Instr.yield l vs.toArray).run c.P w)
  (hK:∀ B a' w',bj c.P c.Y dr K (ay rest B)→cj c B a' w'→Kw a' w'):o.wpIn c.bl 9 c.P a w Kw Q:=by
 obtain ⟨D,E,hsw⟩:=hsim
 cases hwp with
 |zg os cargs post hdr hY hgv ha hb hrest =>
  have hyr:=(hsw.eX _ _ _ _ hY).use (ρ:=[]) hsw false (fun h=>h.mono) ⟨(fun h=>by cases h),fun _=>hsw.oL.1.since (fun n=>by simp only[ar,bA];split <;>simp)⟩ hgv ha hb (hs D E hsw)
  obtain ⟨l,rfl,fn,tmps,assign,body,h2,h3⟩:=hyr
  refine ⟨mc,?_⟩
  rw[mS hg,hrun l rfl,h2,Oper.uponIn_round]
  refine ⟨C0 c,ak5 (h3.mono fun e w' he =>?_)⟩
  obtain ⟨v,r,os',D2,E2,rfl,hp,hs',hv,_⟩:=he
  rw[hd]
  exact hK _ _ _ (hrest r os' hp) ⟨D2,E2,hs'.aP hdn hv⟩
end
section
variable {c:cJ} {A:ab} {o:Oper}
theorem vk{P:Program}{n:Nat}{bx:Array Oper}{g:az}(h:pg P n bx o=some g):dF P o=some g.op∧g.dst=o.dst∧(∀ k,o.dst=some k→k<n) ∧
  ((o.guard=none∧g.guard=none)∨∃ j b t,o.guard=some (j,b)∧(bx[j]?).bind (·.dst)=some t∧g.guard=some (t,b)):=by
 unfold pg at h
 split at h
 ·cases h
 rename_i g' hg'
 split at h
 case isFalse=>cases h
 rename_i hd
 have hdst:∀ k,o.dst=some k→k<n:=by
  intro k hk
  rw[hk] at hd
  simpa[C3] using hd
 split at h
 ·rename_i hgd
  simp only[Option.some.injEq] at h
  subst h
  exact ⟨hg',rfl,hdst,.inl ⟨hgd,rfl⟩⟩
 ·rename_i j b hgd
  split at h
  ·rename_i t ht
   simp only[Option.some.injEq] at h
   subst h
   exact ⟨hg',rfl,hdst,.inr ⟨j,b,t,hgd,ht,rfl⟩⟩
  ·cases h
theorem IC{dr:Bool}{K:ab→Prop}{op:b7}{dst:Option Nat}{rest:List az}{a:Act}{w:World}{Kw:Act→World→Prop}{Q:Exit→Act→World→Prop}(hop:dF c.P o=some op)(hd:o.dst=dst)(hdn:∀ k,dst=some k→k<c.n)
  (hsim:cj c A a w) (hK:∀ B a' w',bj c.P c.Y dr K (ay rest B)→cj c B a' w'→Kw a' w') (h:bj c.P c.Y dr K (cP (bu A op) fun v=>ay rest (A.aP dst v))):o.wpIn c.bl 9 c.P a w Kw Q:=by
 cases hv:bu A op with
 |some v =>
  rw[hv] at h
  exact ((akD hop hv).does (by rw[hd];exact hdn)).wp hop hsim (fun a' w' hs=>by rw[hd] at hs;exact hK _ a' w' h hs)
 |none=>rw[hv] at h;cases h
theorem ag0{dr:Bool}{K:ab→Prop}{dst:Option Nat}{rest:List az}{a:Act}{w:World}{Kw:Act→World→Prop}{Q:Exit→Act→World→Prop}{z:I}(hop:dF c.P o=some (.alloc z))(hd:o.dst=dst)(hdn:∀ k,dst=some k→k<c.n)
  (hwp:bj c.P c.Y dr K (bp A dst (.alloc z) rest (ay rest))) (hsim:cj c A a w) (hK:∀ B a' w',bj c.P c.Y dr K (ay rest B)→cj c B a' w'→Kw a' w'):o.wpIn c.bl 9 c.P a w Kw Q:=by
 have hop0:=hop
 simp only[bp] at hwp
 split at hwp
 case h_2=>cases hwp
 rename_i d
 split at hwp
 case h_2=>cases hwp
 rename_i hf
 unfold dF at hop
 split at hop <;>try (first | (simp at hop;done) | ((repeat' split at hop) <;>simp at hop;done))
 rename_i t ho
 simp only[Option.map_eq_some_iff,b7.alloc.injEq] at hop
 obtain ⟨z',hz,rfl⟩:=hop
 exact (W2 ho hz hd (hdn d rfl) hf).wp hop0 hsim (fun a' w' hs=>hK _ a' w' hwp hs)
theorem ag3{dr:Bool}{K:ab→Prop}{dst:Option Nat}{rest:List az}{a:Act}{w:World}{Kw:Act→World→Prop}{Q:Exit→Act→World→Prop}{x:aL}(hop:dF c.P o=some (.box x))(hd:o.dst=dst)(hdn:∀ k,dst=some k→k<c.n)
  (hwp:bj c.P c.Y dr K (bp A dst (.box x) rest (ay rest))) (hsim:cj c A a w) (hK:∀ B a' w',bj c.P c.Y dr K (ay rest B)→cj c B a' w'→Kw a' w'):o.wpIn c.bl 9 c.P a w Kw Q:=by
 have hop0:=hop
 simp only[bp] at hwp
 split at hwp
 case h_2=>cases hwp
 rename_i d
 split at hwp
 case h_2=>cases hwp
 rename_i hf
 split at hwp
 case isFalse=>cases hwp
 rename_i hv
 unfold dF at hop
 split at hop <;>try (first | (simp at hop;done) | ((repeat' split at hop) <;>simp at hop;done))
 rename_i t y ho
 simp only[Option.map_eq_some_iff,b7.box.injEq] at hop
 obtain ⟨z',hz,rfl⟩:=hop
 exact (W7 ho hz hv hd (hdn d rfl) hf).wp hop0 hsim (fun a' w' hs=>hK _ a' w' hwp hs)
theorem ahe{dr:Bool}{K:ab→Prop}{dst:Option Nat}{rest:List az}{a:Act}{w:World}{Kw:Act→World→Prop}{Q:Exit→Act→World→Prop}{s:Option Nat}{x v:aL}(hop:dF c.P o=some (.bg s x v))(hd:o.dst=dst)(hdn:∀ k,dst=some k→k<c.n)
  (hwp:bj c.P c.Y dr K (bp A dst (.bg s x v) rest (ay rest))) (hsim:cj c A a w) (hK:∀ B a' w',bj c.P c.Y dr K (ay rest B)→cj c B a' w'→Kw a' w'):o.wpIn c.bl 9 c.P a w Kw Q:=by
 have hop0:=hop
 simp only[bp] at hwp
 split at hwp
 case h_2=>cases hwp
 split at hwp
 case h_2=>cases hwp
 rename_i n p hp
 split at hwp
 case h_2=>cases hwp
 rename_i b hb
 split at hwp
 case h_2=>cases hwp
 rename_i old hat
 split at hwp
 case isFalse=>cases hwp
 rename_i hok
 unfold dF at hop
 split at hop <;>try (first | (simp at hop;done) | ((repeat' split at hop) <;>simp at hop;done))
 rename_i t y z ho
 split at hop
 case h_2=>cases hop
 rename_i s' x' v' h1 h2 h3
 split at hop
 case isFalse=>cases hop
 rename_i hk
 simp only[Option.some.injEq,b7.bg.injEq] at hop
 obtain ⟨rfl,rfl,rfl⟩:=hop
 exact (Xd ho h1 hk h2 h3 hp hb hat hok.1 hok.2.1 hok.2.2 hd).wp hop0 hsim (fun a' w' hs=>hK _ a' w' hwp hs)
theorem ag4{dr:Bool}{K:ab→Prop}{dst:Option Nat}{rest:List az}{a:Act}{w:World}{Kw:Act→World→Prop}{Q:Exit→Act→World→Prop}{f:FuncId}{args:List aL}(hop:dF c.P o=some (.call f args))(hd:o.dst=dst)(hdn:∀ k,dst=some k→k<c.n)
  (hwp:bj c.P c.Y dr K (bp A dst (.call f args) rest (ay rest))) (hsim:cj c A a w) (hK:∀ B a' w',bj c.P c.Y dr K (ay rest B)→cj c B a' w'→Kw a' w'):o.wpIn c.bl 9 c.P a w Kw Q:=by
 have hop0:=hop
 simp only[bp] at hwp
 unfold dF at hop
 split at hop <;>try (first | (simp at hop;done) | ((repeat' split at hop) <;>simp at hop;done))
 rename_i f' xs ts ho
 split at hop
 case isFalse=>simp at hop
 simp only[Option.map_eq_some_iff,b7.call.injEq] at hop
 obtain ⟨ys,hys,rfl,rfl⟩:=hop
 refine Cu (vs:=xs.toList.map a.eval) hop0 rfl rfl (fun D E hs=>pb hs xs.toList ts.toList ys hys) hsim hwp hd hdn (fun hc =>?_) hK
 have e:xs.map a.eval=(xs.toList.map a.eval).toArray:=by apply Array.ext';simp
 simp only[execOp,ho,resolve,Act.eval,Deferred.ofValue,Sem.run_bind,Sem.run_pure,Result.andThen_ok,invoke,Array.append_empty,Array.empty_append,yH hc]
 rw[←e]
theorem ahf{dr:Bool}{K:ab→Prop}{dst:Option Nat}{rest:List az}{a:Act}{w:World}{Kw:Act→World→Prop}{Q:Exit→Act→World→Prop}{f:FuncId}{args:List aL}(hop:dF c.P o=some (.kr f args))(hd:o.dst=dst)(hdn:∀ k,dst=some k→k<c.n)
  (hwp:bj c.P c.Y dr K (bp A dst (.kr f args) rest (ay rest))) (hsim:cj c A a w) (hK:∀ B a' w',bj c.P c.Y dr K (ay rest B)→cj c B a' w'→Kw a' w'):o.wpIn c.bl 9 c.P a w Kw Q:=by
 have hop0:=hop
 simp only[bp] at hwp
 unfold dF at hop
 split at hop <;>try (first | (simp at hop;done) | ((repeat' split at hop) <;>simp at hop;done))
 rename_i f' xs ts ho
 split at hop
 case isTrue=>simp at hop
 simp only[Option.map_eq_some_iff,b7.kr.injEq] at hop
 obtain ⟨ys,hys,rfl,rfl⟩:=hop
 obtain ⟨D,E,hs⟩:=hsim
 cases hwp with
 |ext r hdr hx hw =>
  obtain ⟨v,g1,g2⟩:=hx c a w D E (xs.toList.map a.eval) rfl hs (pb hs xs.toList ts.toList ys hys)
  have e:xs.map a.eval=(xs.toList.map a.eval).toArray:=by apply Array.ext';simp
  have hrun:(execOp a.eval o).run c.P w=.ok (.value v) w:=by
   simp only[execOp,ho,resolve,Act.eval,Deferred.ofValue,Sem.run_bind,Sem.run_pure,Result.andThen_ok,invoke,Array.append_empty,Array.empty_append]
   rw[←e] at g1
   exact g1
  refine ⟨mc,?_⟩
  rw[mS hop0,hrun,Oper.uponIn_value]
  exact hK _ _ _ hw ⟨D,E,by rw[hd];exact hs.aP hdn g2⟩
theorem ag8{dr:Bool}{K:ab→Prop}{dst:Option Nat}{rest:List az}{a:Act}{w:World}{Kw:Act→World→Prop}{Q:Exit→Act→World→Prop} (hop:dF c.P o=some (.jO))(hd:o.dst=dst)(hdn:∀ k,dst=some k→k<c.n)
  (hwp:bj c.P c.Y dr K (bp A dst (.jO) rest (ay rest))) (hsim:cj c A a w) (hK:∀ B a' w',bj c.P c.Y dr K (ay rest B)→cj c B a' w'→Kw a' w'):o.wpIn c.bl 9 c.P a w Kw Q:=by
 have hop0:=hop
 simp only[bp] at hwp
 split at hwp
 case h_2=>cases hwp
 rename_i d
 split at hwp
 case h_2=>cases hwp
 rename_i hf
 unfold dF at hop
 split at hop <;>try (first | (simp at hop;done) | ((repeat' split at hop) <;>simp at hop;done))
 rename_i t ho
 exact (Xa ho hd (hdn d rfl) hf).wp hop0 hsim (fun a' w' hs=>hK _ a' w' hwp hs)
theorem ag9{dr:Bool}{K:ab→Prop}{dst:Option Nat}{rest:List az}{a:Act}{w:World}{Kw:Act→World→Prop}{Q:Exit→Act→World→Prop}{e:TypeId}{bytes:Nat}{z:I}{n:aL}(hop:dF c.P o=some (.jP e bytes z n))(hd:o.dst=dst)(hdn:∀ k,dst=some k→k<c.n)
  (hwp:bj c.P c.Y dr K (bp A dst (.jP e bytes z n) rest (ay rest))) (hsim:cj c A a w) (hK:∀ B a' w',bj c.P c.Y dr K (ay rest B)→cj c B a' w'→Kw a' w'):o.wpIn c.bl 9 c.P a w Kw Q:=by
 have hop0:=hop
 simp only[bp] at hwp
 split at hwp
 case h_2=>cases hwp
 rename_i d
 split at hwp
 case h_2=>cases hwp
 rename_i hf
 split at hwp
 case h_2=>cases hwp
 rename_i k m hn
 split at hwp
 case isFalse=>cases hwp
 rename_i hc
 unfold dF at hop
 split at hop <;>try (first | (simp at hop;done) | ((repeat' split at hop) <;>simp at hop;done))
 rename_i t l l' ho
 split at hop
 case h_2=>cases hop
 rename_i e' n' hu hl
 split at hop
 case h_2=>cases hop
 rename_i z' hz
 split at hop
 case isFalse=>cases hop
 rename_i hc2
 simp only[Option.some.injEq,b7.jP.injEq] at hop
 obtain ⟨rfl,rfl,rfl,rfl⟩:=hop
 obtain ⟨j,rfl⟩:=Int.eq_ofNat_of_zero_le hc.1
 simp only[Int.toNat_natCast] at hc hwp
 exact (Xb ho (alc hc2.1) hu hl hn hz hc2.2.1 hc2.2.2 hc.2.1 hc.2.2 hd (hdn d rfl) hf).wp hop0 hsim (fun a' w' hs=>hK _ a' w' hwp hs)
theorem aha{dr:Bool}{K:ab→Prop}{dst:Option Nat}{rest:List az}{a:Act}{w:World}{Kw:Act→World→Prop}{Q:Exit→Act→World→Prop}{ty:cK}{m k v:aL}(hop:dF c.P o=some (.gK ty m k v))(hd:o.dst=dst)(hdn:∀ k,dst=some k→k<c.n)
  (hwp:bj c.P c.Y dr K (bp A dst (.gK ty m k v) rest (ay rest))) (hsim:cj c A a w) (hK:∀ B a' w',bj c.P c.Y dr K (ay rest B)→cj c B a' w'→Kw a' w'):o.wpIn c.bl 9 c.P a w Kw Q:=by
 have hop0:=hop
 simp only[bp] at hwp
 split at hwp
 case h_2=>cases hwp
 split at hwp
 case h_2=>cases hwp
 rename_i n hm
 split at hwp
 case h_2=>cases hwp
 rename_i ks vs hn
 split at hwp
 case h_2=>cases hwp
 rename_i ks' vs' hl
 unfold dF at hop
 split at hop <;>try (first | (simp at hop;done) | ((repeat' split at hop) <;>simp at hop;done))
 all_goals
  rename_i t mo ko vo ho
  split at hop
  case h_2=>cases hop
  rename_i kt et m' k' hu h1 h2
  split at hop
  case h_2=>cases hop
  rename_i ty' v' hk h3
  simp only[Option.some.injEq,b7.gK.injEq] at hop
  obtain ⟨rfl,rfl,rfl,rfl⟩:=hop
 ·exact (C2 (.inl ho) hu hk h1 h2 h3 hm hn hl hd).wp hop0 hsim (fun a' w' hs=>hK _ a' w' hwp hs)
 ·exact (C2 (.inr ho) hu hk h1 h2 h3 hm hn hl hd).wp hop0 hsim (fun a' w' hs=>hK _ a' w' hwp hs)
theorem ahd{dr:Bool}{K:ab→Prop}{dst:Option Nat}{rest:List az}{a:Act}{w:World}{Kw:Act→World→Prop}{Q:Exit→Act→World→Prop}{x:aL}(hop:dF c.P o=some (.kl x))(hd:o.dst=dst)(hdn:∀ k,dst=some k→k<c.n)
  (hwp:bj c.P c.Y dr K (bp A dst (.kl x) rest (ay rest))) (hsim:cj c A a w) (hK:∀ B a' w',bj c.P c.Y dr K (ay rest B)→cj c B a' w'→Kw a' w'):o.wpIn c.bl 9 c.P a w Kw Q:=by
 have hop0:=hop
 simp only[bp] at hwp
 split at hwp
 case h_2=>cases hwp
 rename_i d
 split at hwp
 case h_2=>cases hwp
 rename_i hf
 split at hwp
 case h_2=>cases hwp
 rename_i ks vs hx
 unfold dF at hop
 split at hop <;>try (first | (simp at hop;done) | ((repeat' split at hop) <;>simp at hop;done))
 rename_i t y ho
 split at hop
 case h_2=>cases hop
 rename_i kt et hu
 simp only[Option.map_eq_some_iff,b7.kl.injEq] at hop
 obtain ⟨z,hz,rfl⟩:=hop
 exact (Xc ho hu hz hx hd (hdn d rfl) hf).wp hop0 hsim (fun a' w' hs=>hK _ a' w' hwp hs)
theorem ahc{dr:Bool}{K:ab→Prop}{dst:Option Nat}{rest:List az}{a:Act}{w:World}{Kw:Act→World→Prop}{Q:Exit→Act→World→Prop}{x:aL}(hop:dF c.P o=some (.jx x))(hd:o.dst=dst)(hdn:∀ k,dst=some k→k<c.n)
  (hwp:bj c.P c.Y dr K (bp A dst (.jx x) rest (ay rest))) (hsim:cj c A a w) (hK:∀ B a' w',bj c.P c.Y dr K (ay rest B)→cj c B a' w'→Kw a' w'):o.wpIn c.bl 9 c.P a w Kw Q:=by
 have hop0:=hop
 simp only[bp] at hwp
 split at hwp
 case h_2=>cases hwp
 rename_i n hx
 split at hwp
 case h_2=>cases hwp
 rename_i ks vs left cur hn
 unfold dF at hop
 split at hop <;>try (first | (simp at hop;done) | ((repeat' split at hop) <;>simp at hop;done))
 rename_i y ho
 simp only[Option.map_eq_some_iff,b7.jx.injEq] at hop
 obtain ⟨z,hz,rfl⟩:=hop
 obtain ⟨D,E,hs⟩:=hsim
 obtain ⟨w',v,hrun,hor⟩:=aiZ ho hz hx hn (by rw[hd];exact hdn) hs
 refine ⟨mc,?_⟩
 rw[mS hop0,hrun,Oper.uponIn_value]
 rw[hd] at hor
 split at hwp
 ·rename_i hl
  rcases hor with ⟨_,hor⟩ | ⟨i,k,x,hi,_⟩
  ·exact hK _ _ _ hwp (by rw[hd];exact hor)
  ·rw[hl] at hi;cases hi
 ·rename_i hl
  rcases hor with ⟨h,_⟩ | ⟨i,k,x,hi,hk,hx,hor⟩
  ·exact absurd h hl
  ·cases hwp with
   |any hdr hall =>
    have:=hall i hi
    simp only[hk,hx] at this
    exact hK _ _ _ this (by rw[hd];exact hor)
theorem ag5{dr:Bool}{K:ab→Prop}{dst:Option Nat}{rest:List az}{a:Act}{w:World}{Kw:Act→World→Prop}{Q:Exit→Act→World→Prop}{x:aL}{args:List aL}(hop:dF c.P o=some (.eL x args))(hd:o.dst=dst)(hdn:∀ k,dst=some k→k<c.n)
  (hwp:bj c.P c.Y dr K (bp A dst (.eL x args) rest (ay rest))) (hsim:cj c A a w) (hK:∀ B a' w',bj c.P c.Y dr K (ay rest B)→cj c B a' w'→Kw a' w'):o.wpIn c.bl 9 c.P a w Kw Q:=by
 have hop0:=hop
 simp only[bp] at hwp
 unfold dF at hop
 split at hop <;>try (first | (simp at hop;done) | ((repeat' split at hop) <;>simp at hop;done))
 rename_i y xs ts _ ho
 split at hop
 case h_2=>cases hop
 rename_i y' ys h1 h2
 simp only[Option.some.injEq,b7.eL.injEq] at hop
 obtain ⟨rfl,rfl⟩:=hop
 obtain ⟨D,E,hs⟩:=hsim
 have hv:=b9 hs h1
 split at hwp
 ·rename_i f caps hx
  rw[hx] at hv
  obtain ⟨cs,q1,q2⟩:=hv
  simp only[af] at q2
  obtain ⟨vs,q3,q4⟩:=q2
  have hval:a.eval y=.func (.func f) #[] vs.toArray:=by simpa[bK,I.isAgg,q3] using q1.symm
  refine Cu (vs:=xs.toList.map a.eval++vs) hop0 rfl rfl (fun D' E' hs'=>(pb hs' xs.toList ts.toList ys h2).append ?_) ⟨D,E,hs⟩ hwp hd hdn (fun hc =>?_) hK
  ·have hv':=b9 hs' h1
   rw[hx] at hv'
   obtain ⟨cs',q1',q2'⟩:=hv'
   simp only[af] at q2'
   obtain ⟨vs',q3',q4'⟩:=q2'
   have hval':a.eval y=.func (.func f) #[] vs'.toArray:=by simpa[bK,I.isAgg,q3'] using q1'.symm
   rw[hval] at hval'
   simp only[Value.func.injEq,true_and,Array.mk.injEq] at hval'
   subst hval'
   exact yL q4'
  ·have e:xs.map a.eval=(xs.toList.map a.eval).toArray:=by apply Array.ext';simp
   simp only[execOp,ho,resolve,hval,Deferred.ofValue,Sem.run_bind,Sem.run_pure,Result.andThen_ok,invoke,Array.empty_append,yH hc]
   rw[e]
   simp
 ·rename_i u hx
  rw[hx] at hv
  obtain ⟨cs,q1,q2⟩:=hv
  simp only[af] at q2
  have hval:a.eval y=u:=by simpa[bK,I.isAgg,q2.1] using q1.symm
  refine RX (vs:=xs.toList.map a.eval) hop0 (fun D' E' hs'=>pb hs' xs.toList ts.toList ys h2) ⟨D,E,hs⟩ hwp hd hdn (fun l hl =>?_) hK
  subst hl
  have e:xs.map a.eval=(xs.toList.map a.eval).toArray:=by apply Array.ext';simp
  simp only[execOp,ho,resolve,hval,Deferred.ofValue,Sem.run_bind,Sem.run_pure,Result.andThen_ok,invoke,Array.empty_append]
  rw[e]
 ·cases hwp
theorem ahb{dr:Bool}{K:ab→Prop}{dst:Option Nat}{rest:List az}{a:Act}{w:World}{Kw:Act→World→Prop}{Q:Exit→Act→World→Prop}{neg:Bool}{x:aL}(hop:dF c.P o=some (.nilS neg x))(hd:o.dst=dst)(hdn:∀ k,dst=some k→k<c.n)
  (hwp:bj c.P c.Y dr K (bp A dst (.nilS neg x) rest (ay rest))) (hsim:cj c A a w) (hK:∀ B a' w',bj c.P c.Y dr K (ay rest B)→cj c B a' w'→Kw a' w'):o.wpIn c.bl 9 c.P a w Kw Q:=by
 have hop0:=hop
 simp only[bp] at hwp
 split at hwp
 case isFalse=>exact IC hop hd hdn hsim hK hwp
 rename_i hu
 cases hwp with
 |any hdr hall =>
 unfold dF at hop
 split at hop <;>try (first | (simp at hop;done) | ((repeat' split at hop) <;>simp at hop;done))
 rename_i bop t y z yt ho
 split at hop
 ·simp at hop
 ·simp at hop
 ·rename_i e y' z' hut h1 h2
  split at hop
  ·rename_i s
   split at hop
   ·rename_i hopp
    simp only[Option.some.injEq,b7.nilS.injEq] at hop
    obtain ⟨rfl,rfl⟩:=hop
    have ho':o.op=.binOp (if (bop==.neq)=true then .neq else .eql) t y z yt:=by
     rcases hopp with rfl | rfl <;>simpa using ho
    obtain ⟨D,E,hs⟩:=hsim
    have hund:∃ sz,ae A y'=.slice sz []∨ae A y'=.c0 sz:=by
     generalize ae A y'=q at hu
     cases q <;>simp only[jY,Bool.false_eq_true,List.isEmpty_iff] at hu
     ·rename_i sz;exact ⟨sz,.inr rfl⟩
     ·rename_i sz es;subst hu;exact ⟨sz,.inl rfl⟩
    obtain ⟨b,hrun⟩:=ai1 ho' hut h1 h2 hund hs
    refine ⟨mc,?_⟩
    rw[mS hop0,hrun,Oper.uponIn_value]
    have hb:=hall (if b then 0 else 1) (by cases b <;>simp)
    refine hK _ _ _ hb ⟨D,E,?_⟩
    rw[hd]
    have e:((if b=true then (0:Nat) else 1)==0)=b:=by cases b <;>rfl
    rw[e]
    exact hs.aP hdn (ox b)
   ·cases hop
  ·cases hop
 ·split at hop <;>simp at hop
 ·split at hop <;>simp at hop
 ·cases hop
theorem ag1{dr:Bool}{K:ab→Prop}{dst:Option Nat}{rest:List az}{a:Act}{w:World}{Kw:Act→World→Prop}{Q:Exit→Act→World→Prop}{e:TypeId}{esz bytes:Nat}{z:I}{s x:aL}(hop:dF c.P o=some (.cL e esz bytes z s x))(hd:o.dst=dst)(hdn:∀ k,dst=some k→k<c.n)
  (hwp:bj c.P c.Y dr K (bp A dst (.cL e esz bytes z s x) rest (ay rest))) (hsim:cj c A a w) (hK:∀ B a' w',bj c.P c.Y dr K (ay rest B)→cj c B a' w'→Kw a' w'):o.wpIn c.bl 9 c.P a w Kw Q:=by
 have hop0:=hop
 simp only[bp] at hwp
 unfold dF at hop
 split at hop <;>try (first | (simp at hop;done) | ((repeat' split at hop) <;>simp at hop;done))
 rename_i args tys ho
 split at hop
 case h_2=>cases hop
 rename_i y q t t' ha ht
 split at hop
 case h_2=>cases hop
 rename_i e' s' x' k1 k2 k3
 split at hop
 case isFalse=>split at hop <;>simp at hop
 rename_i hk
 simp only[Option.map_eq_some_iff,b7.cL.injEq] at hop
 obtain ⟨zz,hz1,rfl,rfl,rfl,rfl,rfl,rfl⟩:=hop
 obtain ⟨rfl,hk2,hk3⟩:=hk
 have ha':args = #[y,q]:=by apply Array.ext';simpa using ha
 have ht':tys = #[t,t]:=by apply Array.ext';simpa using ht
 subst ha' ht'
 rw[hz1] at hk3
 simp only[Option.map_some,Option.some.injEq] at hk3
 have hinfo:(c.P.info? e').isSome=true:=by
  obtain ⟨ti,_,hti,_⟩:=l9 hz1
  rw[hti];rfl
 have grow:∀ es ys,eC A (c.P.cellsOf e') (ae A s')=some es→eC A (c.P.cellsOf e') (ae A x')=some ys→ys≠[]→(∀ a w D E,aS c A a w D E→∀ ad l cp,a.eval y=.slice ad l cp→cp<l+ys.length) →
   bj c.P c.Y dr K (gj A dst (c.P.cellsOf e') (c.P.bytesOf e') zz es ys (ay rest))→o.wpIn c.bl 9 c.P a w Kw Q:=fun es ys hse hsx hne hfull h=>by
  simp only[gj] at h
  split at h
  case h_2=>cases h
  rename_i d
  split at h
  case h_2=>cases h
  rename_i hf
  split at h
  case isFalse=>cases h
  rename_i hb
  cases h with
  |any hdr hall =>
   obtain ⟨D,E,hs⟩:=hsim
   obtain ⟨v,w',m,g1,g2,g3⟩:=Po ho k1 k2 k3 hz1 hk3 hse hsx hb.1 hd (hdn d rfl) hf hne hs (hfull a w D E hs) hb.2
   refine ⟨mc,?_⟩
   rw[mS hop0,g1,Oper.uponIn_value,hd]
   rw[hd] at g3
   exact hK _ _ _ (hall m g2) g3
 split at hwp
 ·rename_i n l hs'
  split at hwp
  case h_2=>cases hwp
  rename_i sz ys hx'
  split at hwp
  case h_3=>cases hwp
  case h_2 =>
   rename_i T xs hn
   split at hwp
   case isFalse=>cases hwp
   rename_i hok
   obtain ⟨h1,h2,h3,h4,h5,h6,h7,h8⟩:=hok
   subst h3 h4
   have hl5:ys.length=(qQ ys).length:=(congrArg List.length h5).trans (by simp)
   rw[hl5] at h7 h8 hwp
   rw[h5] at hx'
   have hd':=W4 (o:=o) ho k1 k2 k3 hz1 h2 hs' hn h1 hx' (fun e=>h6 (by rw[h5,e];rfl)) h7 h8 (by rw[hd];exact hdn)
   exact hd'.wp hop0 hsim (fun a' w' hs=>by rw[hd] at hs;exact hK _ a' w' hwp hs)
  rename_i T sz' es hn
  split at hwp
  case isFalse=>cases hwp
  rename_i hok
  obtain ⟨h1,h2,h3,h4,h5,h6,h7⟩:=hok
  subst h2 h3 h4
  have hd':=W3 (o:=o) ho k1 k2 k3 hz1 hk3 hk2 hs' hn h1 hx' rfl h5 h6 h7 (by rw[hd];exact hdn)
  exact hd'.wp hop0 hsim (fun a' w' hs=>by rw[hd] at hs;exact hK _ a' w' hwp hs)
 ·simp only[fm] at hwp
  split at hwp
  case h_2=>cases hwp
  rename_i es ys hse hsx
  split at hwp
  ·rename_i hne
   subst hne
   exact ((W6 ho k1 hinfo k2 k3 hse hsx).does (by rw[hd];exact hdn)).wp hop0 hsim (fun a' w' hs=>by rw[hd] at hs;exact hK _ a' w' hwp hs)
  ·rename_i hne
   have hpos:0<ys.length:=List.length_pos_iff.2 hne
   split at hwp
   ·rename_i z0 hsv
    refine grow es ys hse hsx hne (fun a w D E hs ad l cp hv =>?_) hwp
    have h0:=b9 hs k2
    rw[hsv] at h0
    obtain ⟨cs,q1,q2⟩:=h0
    simp only[af] at q2
    have:a.eval y=.slice none 0 0:=by simpa[bK,I.isAgg,q2] using q1.symm
    rw[this] at hv
    simp only[Value.slice.injEq] at hv
    omega
   ·rename_i z0 hsv
    refine grow es ys hse hsx hne (fun a w D E hs ad l cp hv =>?_) hwp
    have h0:=b9 hs k2
    rw[hsv] at h0
    obtain ⟨cs,q1,q2⟩:=h0
    simp only[af] at q2
    obtain ⟨ad',q2⟩:=q2
    have:a.eval y=.slice ad' 0 0:=by simpa[bK,I.isAgg,q2] using q1.symm
    rw[this] at hv
    simp only[Value.slice.injEq] at hv
    omega
   ·rename_i n p sz lo l hsv
    split at hwp
    case h_2=>cases hwp
    rename_i b hn
    split at hwp
    case h_2=>cases hwp
    rename_i fs hat
    split at hwp
    ·rename_i hroom
     split at hwp
     case isFalse=>cases hwp
     rename_i hok
     obtain ⟨rfl,hsh⟩:=hok
     exact (W5 ho k1 hinfo k2 k3 hsv hn hat hsx hroom hsh (by rw[hd];exact hdn)).wp hop0 hsim (fun a' w' hs=>by rw[hd] at hs;exact hK _ a' w' hwp hs)
    ·rename_i hroom
     refine grow es ys hse hsx hne (fun a w D E hs ad l' cp hv =>?_) hwp
     have h0:=b9 hs k2
     rw[hsv] at h0
     obtain ⟨_,bb,cs,T,off,c1,c2,c3,_,_,_,_,_,_,_,_,_,_,r1,dV,tT⟩:=hs.view (fs:=fs) h0 (by simp only[cu,hn,hat])
     rw[tT] at hv
     simp only[Value.slice.injEq] at hv
     omega
   ·cases hwp
theorem ag2{dr:Bool}{K:ab→Prop}{dst:Option Nat}{rest:List az}{a:Act}{w:World}{Kw:Act→World→Prop}{Q:Exit→Act→World→Prop}{e:TypeId}{esz bytes:Nat}{z:I}{s n:aL}(hop:dF c.P o=some (.me e esz bytes z s n))(hd:o.dst=dst)(hdn:∀ k,dst=some k→k<c.n)
  (hwp:bj c.P c.Y dr K (bp A dst (.me e esz bytes z s n) rest (ay rest))) (hsim:cj c A a w) (hK:∀ B a' w',bj c.P c.Y dr K (ay rest B)→cj c B a' w'→Kw a' w'):o.wpIn c.bl 9 c.P a w Kw Q:=by
 have hop0:=hop
 simp only[bp] at hwp
 unfold dF at hop
 split at hop <;>try (first | (simp at hop;done) | ((repeat' split at hop) <;>simp at hop;done))
 rename_i args tys ho
 split at hop
 case h_2=>cases hop
 rename_i y q t t' ha ht
 split at hop
 case h_2=>cases hop
 rename_i e' s' x' k1 k2 k3
 split at hop
 case isTrue=>simp at hop
 split at hop
 case isFalse=>cases hop
 rename_i hk
 simp only[Option.map_eq_some_iff,b7.me.injEq] at hop
 obtain ⟨zz,hz1,rfl,rfl,rfl,rfl,rfl,rfl⟩:=hop
 obtain ⟨hint,hk2,hk3⟩:=hk
 have ha':args = #[y,q]:=by apply Array.ext';simpa using ha
 have ht':tys = #[t,t']:=by apply Array.ext';simpa using ht
 subst ha' ht'
 rw[hz1] at hk3
 simp only[Option.map_some,Option.some.injEq] at hk3
 obtain ⟨kt,hkt⟩:∃ kt,c.P.underlying t'=some (.int kt):=by
  cases hu:c.P.underlying t' with
  |none=>rw[hu] at hint;cases hint
  |some dsc=>cases dsc <;>rw[hu] at hint <;>first | exact ⟨_,rfl⟩ | cases hint
 split at hwp
 case h_2=>cases hwp
 rename_i kx aV hx'
 simp only[u5] at hwp
 split at hwp
 case h_2=>cases hwp
 rename_i es hse
 split at hwp
 case h_2=>cases hwp
 rename_i nn p sz lo l hsv
 split at hwp
 case h_2=>cases hwp
 rename_i bb hn
 split at hwp
 case h_2=>cases hwp
 rename_i fs hat
 split at hwp
 case isFalse=>cases hwp
 rename_i hroom
 simp only[gj] at hwp
 split at hwp
 case h_2=>cases hwp
 rename_i d
 split at hwp
 case h_2=>cases hwp
 rename_i hf
 split at hwp
 case isFalse=>cases hwp
 rename_i hb
 rw[List.length_replicate] at hb
 cases hwp with
 |any hdr hall =>
  obtain ⟨D,E,hs⟩:=hsim
  obtain ⟨v,w',m,g1,g2,g3⟩:=Ps ho k1 k2 k3 hkt hx' rfl hroom.1 hk2 hz1 hk3 hse hb.1 hd (hdn d rfl) hf hs (fun ad l' cp hv=>by
   have h0:=b9 hs k2
   rw[hsv] at h0
   have hsv':=hse
   obtain ⟨_,b1,cs,T,off,c1,c2,c3,_,_,_,_,_,_,_,_,_,_,r1,dV,tT⟩:=hs.view (fs:=fs) h0 (by simp only[cu,hn,hat])
   rw[tT] at hv
   simp only[Value.slice.injEq] at hv
   have hel:es.length=l:=by
    rw[hsv] at hse
    simp only[eC,cu,hn,hat] at hse
    split at hse
    ·simp only[Option.some.injEq] at hse
     rw[←hse,List.length_take,List.length_drop]
     omega
    ·cases hse
   omega) hb.2
  refine ⟨mc,?_⟩
  rw[mS hop0,g1,Oper.uponIn_value,hd]
  rw[hd] at g3
  have:=hall m (by rw[List.length_replicate];exact g2)
  rw[List.length_replicate] at this
  exact hK _ _ _ this g3
theorem ag6{dr:Bool}{K:ab→Prop}{dst:Option Nat}{rest:List az}{a:Act}{w:World}{Kw:Act→World→Prop}{Q:Exit→Act→World→Prop}{esz:Nat}{z:I}{x:aL}(hop:dF c.P o=some (.iR esz z x))(hd:o.dst=dst)(hdn:∀ k,dst=some k→k<c.n)
  (hwp:bj c.P c.Y dr K (bp A dst (.iR esz z x) rest (ay rest))) (hsim:cj c A a w) (hK:∀ B a' w',bj c.P c.Y dr K (ay rest B)→cj c B a' w'→Kw a' w'):o.wpIn c.bl 9 c.P a w Kw Q:=by
 have hop0:=hop
 simp only[bp] at hwp
 split at hwp
 case h_2=>cases hwp
 unfold dF at hop
 split at hop <;>try (first | (simp at hop;done) | ((repeat' split at hop) <;>simp at hop;done))
 rename_i args tys ho
 split at hop
 case h_2=>cases hop
 rename_i y t ha ht
 split at hop
 case h_2=>cases hop
 rename_i e' x' k1 k2
 simp only[Option.map_eq_some_iff,b7.iR.injEq] at hop
 obtain ⟨zz,hz1,rfl,rfl,rfl⟩:=hop
 have ha':args = #[y]:=by apply Array.ext';simpa using ha
 have ht':tys = #[t]:=by apply Array.ext';simpa using ht
 subst ha' ht'
 have nothing:bj c.P c.Y dr K (ay rest A)→(∀ a w D E,aS c A a w D E→∃ ad cp,a.eval y=.slice ad 0 cp)→o.wpIn c.bl 9 c.P a w Kw Q:=fun h hv=>by
  obtain ⟨D,E,hs⟩:=hsim
  obtain ⟨ad,cp,hv⟩:=hv a w D E hs
  refine ⟨mc,?_⟩
  have hrun:(execOp a.eval o).run c.P w=.ok (.value (.tuple #[])) w:=by
   cases ad <;>simp[execOp,ho,resolve,invoke,builtin,Builtin.clear_,run_underlying k1,hv]
  rw[mS hop0,hrun,Oper.uponIn_value,hd]
  exact hK _ _ _ h ⟨D,E,hs⟩
 unfold nd at hwp
 split at hwp
 ·rename_i n p sz lo l hv
  split at hwp
  case h_2=>cases hwp
  rename_i b hn
  split at hwp
  case h_2=>cases hwp
  rename_i fs hat
  split at hwp
  case isFalse=>cases hwp
  rename_i hok
  obtain ⟨rfl,hsh⟩:=hok
  exact (W8 ho k1 k2 hz1 hv hn hat hsh hd).wp hop0 hsim (fun a' w' hs=>hK _ a' w' hwp hs)
 ·rename_i z0 hv
  refine nothing hwp fun a w D E hs =>?_
  have h0:=b9 hs k2
  rw[hv] at h0
  obtain ⟨cs,q1,q2⟩:=h0
  simp only[af] at q2
  exact ⟨none,0,by simpa[bK,I.isAgg,q2] using q1.symm⟩
 ·rename_i z0 hv
  refine nothing hwp fun a w D E hs =>?_
  have h0:=b9 hs k2
  rw[hv] at h0
  obtain ⟨cs,q1,q2⟩:=h0
  simp only[af] at q2
  obtain ⟨ad,q2⟩:=q2
  exact ⟨ad,0,by simpa[bK,I.isAgg,q2] using q1.symm⟩
 ·cases hwp
theorem ag7{dr:Bool}{K:ab→Prop}{dst:Option Nat}{rest:List az}{a:Act}{w:World}{Kw:Act→World→Prop}{Q:Exit→Act→World→Prop}{esz:Nat}{x y:aL}(hop:dF c.P o=some (.lz esz x y))(hd:o.dst=dst)(hdn:∀ k,dst=some k→k<c.n)
  (hwp:bj c.P c.Y dr K (bp A dst (.lz esz x y) rest (ay rest))) (hsim:cj c A a w) (hK:∀ B a' w',bj c.P c.Y dr K (ay rest B)→cj c B a' w'→Kw a' w'):o.wpIn c.bl 9 c.P a w Kw Q:=by
 have hop0:=hop
 simp only[bp] at hwp
 unfold dF at hop
 split at hop <;>try (first | (simp at hop;done) | ((repeat' split at hop) <;>simp at hop;done))
 rename_i args tys ho
 split at hop
 case h_2=>cases hop
 rename_i u v t t' ha ht
 split at hop
 case h_2=>cases hop
 rename_i e' x' y' k1 k2 k3
 split at hop
 case isFalse=>cases hop
 rename_i hk
 simp only[Option.some.injEq,b7.lz.injEq] at hop
 obtain ⟨rfl,rfl,rfl⟩:=hop
 obtain ⟨rfl,hinfo⟩:=hk
 have ha':args = #[u,v]:=by apply Array.ext';simpa using ha
 have ht':tys = #[t,t]:=by apply Array.ext';simpa using ht
 subst ha' ht'
 unfold sy at hwp
 split at hwp
 ·rename_i n p sz lo l ys hv hsx
  split at hwp
  case h_2=>cases hwp
  rename_i b hn
  split at hwp
  case h_2=>cases hwp
  rename_i fs hat
  split at hwp
  case isFalse=>cases hwp
  rename_i hok
  obtain ⟨rfl,hsh⟩:=hok
  exact (W9 ho k1 hinfo k2 k3 hv hn hat hsx rfl hsh (by rw[hd];exact hdn)).wp hop0 hsim (fun a' w' hs=>by rw[hd] at hs;exact hK _ a' w' hwp hs)
 ·cases hwp
theorem xb{dr:Bool}{K:ab→Prop}{op:b7}{dst:Option Nat}{rest:List az}{a:Act}{w:World}{Kw:Act→World→Prop}{Q:Exit→Act→World→Prop}(hop:dF c.P o=some op)(hd:o.dst=dst)(hdn:∀ k,dst=some k→k<c.n)
  (hwp:bj c.P c.Y dr K (bp A dst op rest (ay rest))) (hsim:cj c A a w) (hK:∀ B a' w',bj c.P c.Y dr K (ay rest B)→cj c B a' w'→Kw a' w'):o.wpIn c.bl 9 c.P a w Kw Q:=by
 cases op with
 |alloc z=>exact ag0 hop hd hdn hwp hsim hK
 |box x=>exact ag3 hop hd hdn hwp hsim hK
 |bg s x v=>exact ahe hop hd hdn hwp hsim hK
 |call f args=>exact ag4 hop hd hdn hwp hsim hK
 |kr f args=>exact ahf hop hd hdn hwp hsim hK
 |jO=>exact ag8 hop hd hdn hwp hsim hK
 |jP e bytes z n=>exact ag9 hop hd hdn hwp hsim hK
 |gK ty m k v=>exact aha hop hd hdn hwp hsim hK
 |kl x=>exact ahd hop hd hdn hwp hsim hK
 |jx x=>exact ahc hop hd hdn hwp hsim hK
 |eL x args=>exact ag5 hop hd hdn hwp hsim hK
 |nilS neg x=>exact ahb hop hd hdn hwp hsim hK
 |cL e esz bytes z s x=>exact ag1 hop hd hdn hwp hsim hK
 |me e esz bytes z s n=>exact ag2 hop hd hdn hwp hsim hK
 |iR esz z x=>exact ag6 hop hd hdn hwp hsim hK
 |lz esz x y=>exact ag7 hop hd hdn hwp hsim hK
 |_=>exact IC hop hd hdn hsim hK (by simpa only[bp] using hwp)
theorem xi{j t:Nat}{bx:Array Oper}{a:Act}{w:World}{b b':Bool}(hs:cj c A a w)(hg:o.guard=some (j,b))(ht:(bx[j]?).bind (·.dst)=some t)(hv:A.t t=.bool b'):Region.wanted o (yielded bx a.tmps)=(b'==b):=by
 obtain ⟨D,E,hs⟩:=hs
 have h:=hs.dZ t
 rw[hv] at h
 have h:=lZ h
 have hy:yielded bx a.tmps j=some b':=by
  unfold yielded
  rw[ht]
  simp only[Option.bind_some]
  simp only[Array.getD_eq_getD_getElem?] at h
  cases hh:a.tmps[t]? with
  |none=>simp[hh,undef] at h
  |some v=>simp only[hh,Option.getD_some] at h;subst h;rfl
 unfold Region.wanted
 rw[hg]
 simp only[hy]
 cases b <;>cases b' <;>rfl
theorem xj{j t:Nat}{bx:Array Oper}{a:Act}{w:World}{b:Bool}(hs:cj c A a w)(hg:o.guard=some (j,b))(ht:(bx[j]?).bind (·.dst)=some t)(hv:A.t t=.undef):Region.wanted o (yielded bx a.tmps)=false:=by
 obtain ⟨D,E,hs⟩:=hs
 have h:=hs.dZ t
 rw[hv] at h
 simp only[aT] at h
 have hy:yielded bx a.tmps j=none:=by
  unfold yielded
  rw[ht]
  simp only[Option.bind_some]
  simp only[Array.getD_eq_getD_getElem?] at h
  cases hh:a.tmps[t]? with
  |none=>rfl
  |some v=>simp only[hh,Option.getD_some] at h;subst h;rfl
 unfold Region.wanted
 rw[hg]
 simp only[hy]
 rfl
theorem cj.p6{a:Act}{w:World}(h:cj c A a w){d:Option Nat}(hd:∀ k,d=some k→k<c.n):cj c (A.aP d .undef) (a.put d undef) w:=by
 obtain ⟨D,E,h⟩:=h
 exact ⟨D,E,h.aP hd (by simp[aT])⟩
theorem s7{dr:Bool}{K:ab→Prop}{bx:Array Oper}{Q:Exit→Act→World→Prop}(hQ:∀ B a w,K B→cj c B a w→Q .normal a w):∀ (l:List Oper) (gs:List az) (A:ab) (a:Act) (w:World),j4 c.P c.n bx l=some gs→bj c.P c.Y dr K (ay gs A) →
  cj c A a w→wpListIn c.bl 9 c.P bx Q l a w
 | [],gs,A,a,w,hc,hwp,hs=>by
  simp only[j4,Option.some.injEq] at hc
  subst hc
  simp only[ay] at hwp
  cases hwp with
  |done hk=>exact hQ A a w hk hs
 |o::l,gs,A,a,w,hc,hwp,hs=>by
  simp only[j4] at hc
  split at hc
  case h_2=>cases hc
  rename_i g gs' hg hgs
  simp only[Option.some.injEq] at hc
  subst hc
  obtain ⟨h1,h2,h3,h4⟩:=vk hg
  have step:bj c.P c.Y dr K (bp A g.dst g.op gs' (ay gs'))→o.wpIn c.bl 9 c.P a w (wpListIn c.bl 9 c.P bx Q l) Q:=fun h =>
   xb h1 h2.symm (by rw[h2];exact h3) h hs (fun B a' w' hw hs'=>s7 hQ l gs' B a' w' hgs hw hs')
  simp only[wpListIn]
  simp only[ay] at hwp
  rcases h4 with ⟨h5,h6⟩ | ⟨j,b,t,h5,h6,h7⟩
  ·rw[h6] at hwp
   have hw:Region.wanted o (yielded bx a.tmps)=true:=by simp[Region.wanted,h5]
   rw[hw,if_pos rfl]
   exact step hwp
  ·rw[h7] at hwp
   simp only at hwp
   split at hwp
   ·rename_i b' hb'
    rw[xi hs h5 h6 hb']
    split at hwp
    ·rename_i hbb
     subst hbb
     simp only[BEq.rfl,if_true]
     exact step hwp
    ·rename_i hbb
     have:(b'==b)=false:=by simpa using hbb
     rw[this]
     simp only[Bool.false_eq_true,if_false]
     exact ⟨fun f _=>od c f,s7 hQ l gs' _ _ w hgs hwp (by rw[h2];exact hs.p6 h3)⟩
   ·rename_i hb'
    rw[xj hs h5 h6 hb']
    simp only[Bool.false_eq_true,if_false]
    exact ⟨fun f _=>od c f,s7 hQ l gs' _ _ w hgs hwp (by rw[h2];exact hs.p6 h3)⟩
   ·cases hwp
end
def aL.sl:aL→List Nat
 | .t n=>[n]
 | .c _=>[]
def tF:Option aL→List Nat
 |some x=>x.sl
 |none=>[]
def jW(l:List aL):List Nat:=l.flatMap aL.sl
def b7.c6:b7→List Nat
 | .mv x=>x.sl
 | .pick c a b=>c.sl++(a.sl++b.sl)
 | .bin _ x y=>x.sl++y.sl
 | .eqv _ _ x y=>x.sl++y.sl
 | .nilS _ x=>x.sl
 | .conv _ x=>x.sl
 | .un _ x=>x.sl
 | .ld _ x=>x.sl
 | .fa _ _ x=>x.sl
 | .fl _ _ _ x=>x.sl
 | .ia _ _ x i=>x.sl++i.sl
 | .is _ x i=>x.sl++i.sl
 | .ix _ _ _ x i=>x.sl++i.sl
 | .len x=>x.sl
 | .lenT x=>x.sl
 | .va _ _ x=>x.sl
 | .sl _ x lo hi mx=>x.sl++(tF lo++(tF hi++tF mx))
 | .bld _ ps=>jW (ps.map (·.2))
 | .bs _ ps=>jW ps
 | .ext x _=>x.sl
 | .mk _ caps=>jW caps
 | .alloc _=>[]
 | .box x=>x.sl
 | .bg _ x v=>x.sl++v.sl
 | .cL _ _ _ _ s x=>s.sl++x.sl
 | .me _ _ _ _ s x=>s.sl++x.sl
 | .cap x=>x.sl
 | .bs0 _=>[]
 | .iR _ _ x=>x.sl
 | .lz _ x y=>x.sl++y.sl
 | .call _ args=>jW args
 | .eL x args=>x.sl++jW args
 | .kr _ args=>jW args
 | .nilC x=>x.sl
 | .ptrE _ x y=>x.sl++y.sl
 | .jP _ _ _ n=>n.sl
 | .jO=>[]
 | .lk _ _ _ m k=>m.sl++k.sl
 | .gK _ m k v=>m.sl++(k.sl++v.sl)
 | .kl x=>x.sl
 | .jx x=>x.sl
 | .ent x=>x.sl
def az.c6(g:az):List Nat:=g.op.c6++(match g.guard with | some (t,_)=>[t] | none=>[])
def b7.gE:b7→Nat
 | .mv _ | .pick .. | .bin .. | .eqv .. | .nilS .. | .conv .. | .un .. | .fl .. | .ix .. | .lenT _ | .bld .. | .ext .. | .mk .. | .nilC _ | .ptrE .. =>0
 | .ld .. | .fa .. | .ia .. | .is .. | .len _ | .va .. | .bs .. | .sl .. | .cap _ | .bs0 _ | .lk .. | .ent _=>1
 | .call .. | .eL .. =>2
 | .alloc _ | .box _=>3
 | .bg .. =>4
 | .cL .. | .me .. | .iR .. | .lz .. | .kr .. | .jP .. | .jO | .gK .. | .kl _ | .jx _=>5
def vx(a b:Nat):Bool:=(decide (a≤2)&&decide (b≤3))||(a==0&&b==4)
def nv(g h:az):Bool:=vx g.op.gE h.op.gE&&(match g.dst with
  |some d => !h.c6.contains d&&h.dst != some d
  |none=>true)&&(match h.dst with
  |some d => !g.c6.contains d
  |none=>true)
def ea(A A':ab)(l:List Nat):Prop:=∀ k∈l,A'.t k=A.t k
section
variable {A A':ab}
theorem da{x:aL}(h:ea A A' x.sl):ae A' x=ae A x:=by
 cases x with
 |t n=>exact h n (by simp[aL.sl])
 |c x=>rfl
theorem ea.l{l m:List Nat}(h:ea A A' (l++m)):ea A A' l:=fun k hk=>h k (List.mem_append_left _ hk)
theorem ea.r{l m:List Nat}(h:ea A A' (l++m)):ea A A' m:=fun k hk=>h k (List.mem_append_right _ hk)
theorem mu:∀ {l:List aL},ea A A' (jW l)→l.map (ae A')=l.map (ae A)
 | [],_=>rfl
 |x::l,h=>by
  simp only[jW,List.flatMap_cons] at h
  simp only[List.map_cons,da h.l,mu (l:=l) h.r]
theorem pz{x:Option aL}(h:ea A A' (tF x)):x.map (ae A')=x.map (ae A):=by
 cases x with
 |none=>rfl
 |some x=>simp only[Option.map_some,da (x:=x) h]
theorem Dg:∀ {l:List (Nat×aL)},ea A A' (jW (l.map (·.2)))→(l.map fun p=>(p.1,ae A' p.2))=l.map fun p=>(p.1,ae A p.2)
 | [],_=>rfl
 |x::l,h=>by
  simp only[jW,List.map_cons,List.flatMap_cons] at h
  simp only[List.map_cons,da h.l,Dg (l:=l) h.r]
theorem rf{f g:I→Option I}(h:∀ x v,f x=some v→g x=some v):∀ {xs vs:List I},fH f xs=some vs→fH g xs=some vs
 | [],vs,hx=>by simpa only[fH] using hx
 |x::xs,vs,hx=>by
  simp only[fH] at hx ⊢
  cases h1:f x with
  |none=>rw[h1] at hx;cases hx
  |some y=>cases h2:fH f xs with
   |none=>rw[h1,h2] at hx;cases hx
   |some ys=>rw[h1,h2] at hx;rw[h x y h1,rf h h2];exact hx
theorem vU(hu:ef A A'):∀ (k:Nat) (x v:I),dv A k x=some v→dv A' k x=some v
 |0,_,_,h=>by simp[dv] at h
 |k+1,x,v,h=>by
  have ih:=vU hu k
  simp only[dv] at h ⊢
  split at h
  ·rename_i hc;rw[if_pos hc];exact h
  ·rename_i hc
   rw[if_neg hc]
   cases x <;>simp only[] at h ⊢ <;>try (cases h;done)
   case agg fs =>
    simp only[Option.map_eq_some_iff] at h ⊢
    obtain ⟨a,h1,h2⟩:=h
    exact ⟨a,rf ih h1,h2⟩
   case func f fs =>
    simp only[Option.map_eq_some_iff] at h ⊢
    obtain ⟨a,h1,h2⟩:=h
    exact ⟨a,rf ih h1,h2⟩
   case ptr n p =>
    cases hd:cu A (.ptr n p) with
    |none=>rw[hd] at h;cases h
    |some y =>
     rw[hd] at h;rw[jL hu hd]
     simp only[Option.map_eq_some_iff] at h ⊢
     obtain ⟨a,h1,h2⟩:=h
     exact ⟨a,ih _ _ h1,h2⟩
   case view n p sz lo l =>
    cases hd:cu A (.ptr n p) with
    |none=>rw[hd] at h;cases h
    |some y=>rw[hd] at h;rw[jL hu hd];exact h
   case mref n =>
    cases ho:A.o n with
    |none=>rw[ho] at h;cases h
    |some y =>
     rw[ho] at h;rw[hu n y ho]
     cases y <;>try (cases h;done)
     simp only at h ⊢
     split at h
     ·rename_i hk
      rw[if_pos hk]
      simp only[Option.map_eq_some_iff] at h ⊢
      obtain ⟨a,h1,h2⟩:=h
      exact ⟨a,rf ih h1,h2⟩
     ·cases h
   case own n l =>
    cases ho:A.o n with
    |none=>rw[ho] at h;cases h
    |some y=>rw[ho] at h;rw[hu n y ho];exact h
mutual
theorem Dv(hu:ef A A'){aB:Bool} : ∀ {x v:I},bd aB A x=some v→bd aB A' x=some v
 | .ptr n p,v,h=>by
  simp only[bd] at h ⊢
  cases aB <;>simp only[Bool.false_eq_true,if_false,if_true] at h ⊢
  ·exact h
  ·cases hd:cu A (.ptr n p) with
   |none=>rw[hd] at h;cases h
   |some y =>
    rw[hd] at h;rw[jL hu hd]
    simp only at h ⊢
    split at h
    ·rename_i hc;rw[if_pos hc];exact h
    ·rename_i hc
     rw[if_neg hc]
     simp only[Option.map_eq_some_iff] at h ⊢
     obtain ⟨a,h1,h2⟩:=h
     exact ⟨a,vU hu 9 _ _ h1,h2⟩
 | .mref n,v,h=>by
  simp only[bd] at h ⊢
  cases aB <;>simp only[Bool.false_eq_true,if_false,if_true] at h ⊢
  ·exact h
  ·cases ho:A.o n with
   |none=>rw[ho] at h;cases h
   |some y =>
    rw[ho] at h;rw[hu n y ho]
    cases y <;>try (cases h;done)
    simp only at h ⊢
    split at h
    ·rename_i hk
     rw[if_pos hk]
     simp only[Option.map_eq_some_iff] at h ⊢
     obtain ⟨a,h1,h2⟩:=h
     exact ⟨a,rf (vU hu 9) h1,h2⟩
    ·cases h
 | .dx _,_,h=>by simp[bd] at h
 | .cU _ _,_,h=>by simpa only[bd] using h
 | .own n k,v,h=>by
  simp only[bd] at h ⊢
  cases ho:A.o n with
  |none=>rw[ho] at h;cases h
  |some y=>rw[ho] at h;rw[hu n y ho];exact h
 | .view n p sz lo k,v,h=>by
  simp only[bd] at h ⊢
  cases aB <;>simp only[Bool.false_eq_true,if_false,if_true] at h ⊢
  ·exact h
  ·cases hd:cu A (.ptr n p) with
   |none=>rw[hd] at h;cases h
   |some y=>rw[hd] at h;rw[jL hu hd];exact h
 | .func f caps,v,h=>by
  simp only[bd,Option.map_eq_some_iff] at h ⊢
  obtain ⟨a,h1,h2⟩:=h
  exact ⟨a,lG hu h1,h2⟩
 | .agg fs,v,h=>by
  simp only[bd,Option.map_eq_some_iff] at h ⊢
  obtain ⟨a,h1,h2⟩:=h
  exact ⟨a,lG hu h1,h2⟩
 | .nils _,_,h | .c0 _,_,h | .tuple _,_,h | .undef,_,h | .c7,_,h | .bool _,_,h | .int _ _,_,h | .cV _,_,h | .nilp,_,h | .de,_,h | .dS,_,h | .raw _,_,h | .slice _ _,_,h | .ref _,_,h | .iface _ _,_,h=>by simpa only[bd] using h
theorem lG(hu:ef A A'){aB:Bool} : ∀ {xs vs:List I},bY aB A xs=some vs→bY aB A' xs=some vs
 | [],vs,h=>by simpa only[bY] using h
 |x::xs,vs,h=>by
  simp only[bY] at h ⊢
  cases h1:bd aB A x with
  |none=>rw[h1] at h;cases h
  |some y=>cases h2:bY aB A xs with
   |none=>rw[h1,h2] at h;cases h
   |some ys=>rw[h1,h2] at h;rw[Dv hu h1,lG hu h2];exact h
end
theorem yj{op:b7}(hc:op.gE=0)(h:ea A A' op.c6):bu A' op=bu A op:=by
 cases op <;>simp only[b7.gE] at hc <;>try (cases hc;done)
 all_goals simp only[b7.c6] at h
 case mv x=>simp only[bu,da h]
 case pick c a b=>simp only[bu,da h.l,da h.r.l,da h.r.r]
 case bin _ x y=>simp only[bu,da h.l,da h.r]
 case eqv _ _ x y=>simp only[bu,da h.l,da h.r]
 case nilS x=>simp only[bu,da h]
 case conv x=>simp only[bu,da h]
 case un x=>simp only[bu,da h]
 case fl x=>simp only[bu,da h]
 case ix x i=>simp only[bu,da h.l,da h.r]
 case lenT x=>simp only[bu,da h]
 case bld zs ps=>simp only[bu,Dg h]
 case ext x i=>simp only[bu,da h]
 case mk f caps=>simp only[bu,mu h]
 case nilC x=>simp only[bu,da h]
 case ptrE neg x y=>simp only[bu,da h.l,da h.r]
theorem aiH(hu:ef A A'){m:I}{q:List I×List I}(h:gq A m=some q):gq A' m=some q:=by
 cases m with
 |mref n =>
  simp only[gq] at h ⊢
  cases hd:A.o n with
  |none=>simp only[hd] at h;cases h
  |some y=>simp only[hd] at h;simp only[hu n y hd];exact h
 |raw v=>cases v <;>first | (cases h;done) | (rename_i m;cases m <;>first | exact h | cases h)
 |cU ks vs=>exact h
 |_=>simp only[gq] at h;cases h
theorem J9{op:b7}(hu:ef A A')(h:ea A A' op.c6){v:I}(hv:bu A op=some v):bu A' op=some v:=by
 by_cases hc:op.gE=0
 ·rw[yj hc h];exact hv
 cases op <;>try (exact absurd rfl hc)
 all_goals simp only[b7.c6] at h
 case ld s x =>
  simp only[bu,da h] at hv ⊢
  cases hd:cu A (ae A x) with
  |none=>rw[hd] at hv;cases hv
  |some y=>rw[hd] at hv;rw[jL hu hd];exact hv
 case fa f off x =>
  simp only[bu,da h] at hv ⊢
  generalize ae A x=z at *
  cases z <;>try (first | exact hv | (rename_i y;cases y <;>exact hv))
  rename_i n p
  cases hd:cu A (.ptr n p) with
  |none=>simp only[hd] at hv;cases hv
  |some y=>simp only[hd] at hv;simp only[jL hu hd];exact hv
 case ia n esz x i =>
  simp only[bu,da h.l,da h.r] at hv ⊢
  generalize ae A x=z at *
  cases z <;>try (first | exact hv | (rename_i y;cases y <;>exact hv))
  rename_i n p
  cases hd:cu A (.ptr n p) with
  |none=>simp only[hd] at hv;(repeat' split at hv) <;>cases hv
  |some y=>simp only[hd] at hv;simp only[jL hu hd];exact hv
 case is esz x i =>
  simp only[bu,da h.l,da h.r] at hv ⊢
  generalize ae A i=q at *
  cases q <;>try (exact hv)
  simp only at hv ⊢
  generalize ae A x=z at *
  cases z <;>try (first | exact hv | (rename_i y;cases y <;>exact hv))
  ·rename_i n p
   cases hd:A.o n with
   |none=>simp only[hd] at hv;cases hv
   |some y=>simp only[hd] at hv;simp only[hu n y hd];exact hv
  ·rename_i n p sz lo k
   simp only at hv ⊢
   cases hd:cu A (.ptr n p) with
   |none=>simp only[hd] at hv;cases hv
   |some y=>simp only[hd] at hv;simp only[jL hu hd];exact hv
 case len x =>
  simp only[bu,da h] at hv ⊢
  generalize ae A x=z at *
  cases z <;>try (first | exact hv | (rename_i y;cases y <;>exact hv))
  rename_i n p
  cases hd:A.o n with
  |none=>simp only[hd] at hv;cases hv
  |some y=>simp only[hd] at hv;simp only[hu n y hd];exact hv
 case cap x =>
  simp only[bu,da h] at hv ⊢
  generalize ae A x=z at *
  cases z <;>try (first | exact hv | (rename_i y;cases y <;>exact hv))
  rename_i n p sz lo k
  simp only at hv ⊢
  cases hd:cu A (.ptr n p) with
  |none=>simp only[hd] at hv;cases hv
  |some y=>simp only[hd] at hv;simp only[jL hu hd];exact hv
 case bs0 esz=>exact hv
 case sl esz x lo hi mx =>
  simp only[bu,da h.l,pz h.r.l,pz h.r.r.l,pz h.r.r.r] at hv ⊢
  generalize ae A x=z at *
  cases z <;>try (first | exact hv | (rename_i y;cases y <;>exact hv))
  rename_i n p sz l0 k
  simp only at hv ⊢
  cases hd:cu A (.ptr n p) with
  |none=>simp only[hd] at hv;cases hv
  |some y=>simp only[hd] at hv;simp only[jL hu hd];exact hv
 case va n esz x =>
  simp only[bu,da h] at hv ⊢
  generalize ae A x=z at *
  cases z <;>try (first | exact hv | (rename_i y;cases y <;>exact hv))
  rename_i n p
  cases hd:cu A (.ptr n p) with
  |none=>simp only[hd] at hv;cases hv
  |some y=>simp only[hd] at hv;simp only[jL hu hd];exact hv
 case lk ty z ok m k =>
  simp only[bu,da h.l,da h.r] at hv ⊢
  cases hd:gq A (ae A m) with
  |none=>rw[hd] at hv;cases hv
  |some y=>rw[hd] at hv;rw[aiH hu hd];exact hv
 case ent x =>
  simp only[bu,da h] at hv ⊢
  generalize ae A x=z at *
  cases z <;>try (exact hv)
  rename_i n
  simp only at hv ⊢
  cases hd:A.o n with
  |none=>simp only[hd] at hv;cases hv
  |some y=>simp only[hd] at hv;simp only[hu n y hd];exact hv
 case bs esz ps =>
  simp only[bu,mu h] at hv ⊢
  cases hd:bY false A (ps.map (ae A)) with
  |none=>rw[hd] at hv;cases hv
  |some y=>rw[hd] at hv;rw[lG hu hd];exact hv
 all_goals (simp only[bu] at hv;cases hv)
end
def pass(A:ab)(g:az):Prop:=match g.guard with | none=>True | some (t,b)=>A.t t=.bool b
def gu(A:ab)(g:az):Prop:=match g.guard with | none=>False | some (t,b)=>A.t t=.bool (!b)∨A.t t=.undef
inductive jF (P:Program) (A:ab):b7→I→Prop where
 |pure {op:b7} {v:I} : bu A op=some v→jF P A op v
 |flat {f:FuncId} {args:List aL} {cargs:List I} {r:I} : bY true A (args.map (ae A))=some cargs→av P f cargs r→r.flat=true→jF P A (.call f args) r
 |lead {f:FuncId} {args:List aL} {cargs:List I} {r:I} : bY false A (args.map (ae A))=some cargs→av P f cargs r→jF P A (.call f args) r
 |uz {x:aL} {f:FuncId} {caps:List I} {args:List aL} {cargs:List I} {r:I} : ae A x=.func f caps→bY true A (args.map (ae A)++caps)=some cargs→av P f cargs r→r.flat=true→jF P A (.eL x args) r
 |uA {x:aL} {f:FuncId} {caps:List I} {args:List aL} {cargs:List I} {r:I} : ae A x=.func f caps→bY false A (args.map (ae A)++caps)=some cargs→av P f cargs r→jF P A (.eL x args) r
def r2(A:ab)(op:b7)(x:I):Prop:=op=.alloc x∨∃ y,op=.box y∧(ae A y).cm=true∧x=ae A y
def r3(A:ab)(op:b7)(n:Nat)(z:ah):Prop:=∃ s x v p b old,op=.bg s x v∧ae A x=.ptr n p∧A.o n=some (.box b)∧b.at p=some old∧x7 s (ae A v) old∧z=.box (b.dH p (ae A v))
def OR(A:ab)(dst:Option Nat)(op:b7)(B:ab):Prop:=op.gE=5∧∀ (rest:List az) (k:ab→cI),bp A dst op rest k=k B
theorem al2{A:ab}{neg:Bool}{x:aL}{v:I}(h:bu A (.nilS neg x)=some v):jY (ae A x)=false:=by
 simp only[bu] at h
 generalize ae A x=q at *
 cases q <;>simp only[jY] <;>simp only at h <;>try (cases h;done)
 rename_i sz es
 cases es with
 |nil=>simp at h
 |cons=>rfl
inductive ft (P:Program) (g:az) (A:ab):ab→Prop where
 |skip:gu A g→ft P g A (A.aP g.dst .undef)
 |val {v:I} : pass A g→jF P A g.op v→ft P g A (A.aP g.dst v)
 |jw {d:Nat} {x:I} : pass A g→g.dst=some d→r2 A g.op x→A.o d=none→ft P g A ((A.aN d (.box x)).put d (.ptr d []))
 |bg {n:Nat} {z:ah} : pass A g→g.dst=none→r3 A g.op n z→ft P g A (A.aN n z)
 |iA {B:ab} : pass A g→OR A g.dst g.op B→ft P g A B
theorem vc{b' b:Bool}(h:b'≠b):b' = !b:=by cases b <;>cases b' <;>simp_all
section
variable {P:Program} {Y:Value→List I→List (Nat×ah)→cN→Prop} {K:ab→Prop}
theorem ft.JF{A:ab}{g:az}{rest:List az}(hp:pass A g)(h:bj P Y true K (bp A g.dst g.op rest (ay rest))):∃ B,ft P g A B∧bj P Y true K (ay rest B):=by
 have pure:bj P Y true K (cP (bu A g.op) fun v=>ay rest (A.aP g.dst v))→∃ B,ft P g A B∧bj P Y true K (ay rest B):=by
  intro h
  cases hv:bu A g.op with
  |none=>rw[hv] at h;cases h
  |some v=>rw[hv] at h;exact ⟨_,.val hp (.pure hv),h⟩
 obtain ⟨dst,op,gd⟩:=g
 cases op with
 |alloc z =>
  simp only[bp] at h
  split at h
  case h_2=>cases h
  split at h
  case h_2=>cases h
  rename_i hd _ ho
  exact ⟨_,.jw hp rfl (.inl rfl) ho,h⟩
 |box x =>
  simp only[bp] at h
  split at h
  case h_2=>cases h
  split at h
  case h_2=>cases h
  rename_i hd _ ho
  split at h
  case isFalse=>cases h
  rename_i hv
  exact ⟨_,.jw hp rfl (.inr ⟨x,rfl,hv,rfl⟩) ho,h⟩
 |bg s x v =>
  simp only[bp] at h
  split at h
  case h_2=>cases h
  split at h
  case h_2=>cases h
  rename_i n p hx
  split at h
  case h_2=>cases h
  rename_i b hb
  split at h
  case h_2=>cases h
  rename_i old hat
  split at h
  case isFalse=>cases h
  rename_i hok
  exact ⟨_,.bg hp rfl ⟨s,x,v,p,b,old,rfl,hx,hb,hat,hok,rfl⟩,h⟩
 |nilS neg x =>
  simp only[bp] at h
  split at h
  ·cases h with | any hdr=>cases hdr
  ·exact pure h
 |cL e esz bytes z s x =>
  simp only[bp] at h
  split at h
  ·rename_i n l hs'
   split at h
   case h_2=>cases h
   rename_i sz ys hx'
   split at h
   case h_3=>cases h
   case h_2 =>
    rename_i T xs hn
    split at h
    case isFalse=>cases h
    rename_i hok
    exact ⟨_,.iA hp ⟨rfl,fun rest k=>by simp only[bp,hs',hx',hn,if_pos hok]⟩,h⟩
   rename_i T sz' es hn
   split at h
   case isFalse=>cases h
   rename_i hok
   exact ⟨_,.iA hp ⟨rfl,fun rest k=>by simp only[bp,hs',hx',hn,if_pos hok]⟩,h⟩
  ·rename_i hno
   have hg:∀ (rest:List az) (k:ab→cI),bp A dst (.cL e esz bytes z s x) rest k=fm A dst esz bytes z (ae A s) (eC A esz (ae A s)) (eC A esz (ae A x)) k:=fun rest k=>by
    simp only[bp]
   simp only[fm] at h hg
   split at h
   case h_2=>cases h
   rename_i es ys hse hsx
   simp only[hse,hsx] at hg
   have grow:¬ bj P Y true K (gj A dst esz bytes z es ys (ay rest)):=fun h=>by
    simp only[gj] at h
    split at h
    case h_2=>cases h
    split at h
    case h_2=>cases h
    split at h
    case isFalse=>cases h
    cases h with | any hdr=>cases hdr
   split at h
   ·rename_i hne
    simp only[if_pos hne] at hg
    exact ⟨_,.iA hp ⟨rfl,hg⟩,h⟩
   ·rename_i hne
    simp only[if_neg hne] at hg
    split at h
    ·exact absurd h grow
    ·exact absurd h grow
    ·rename_i n p sz lo l hsv
     split at h
     case h_2=>cases h
     rename_i b hn
     split at h
     case h_2=>cases h
     rename_i fs hat
     split at h
     ·rename_i hroom
      split at h
      case isFalse=>cases h
      rename_i hok
      simp only[hsv,hn,hat,if_pos hroom,if_pos hok] at hg
      exact ⟨_,.iA hp ⟨rfl,hg⟩,h⟩
     ·exact absurd h grow
    ·cases h
 |kr f args =>
  simp only[bp] at h
  cases h with | ext r hdr=>cases hdr
 |me e esz bytes z s n =>
  exfalso
  simp only[bp] at h
  split at h
  case h_2=>cases h
  simp only[u5] at h
  split at h
  case h_2=>cases h
  split at h
  case h_2=>cases h
  split at h
  case h_2=>cases h
  split at h
  case h_2=>cases h
  split at h
  case isFalse=>cases h
  simp only[gj] at h
  split at h
  case h_2=>cases h
  split at h
  case h_2=>cases h
  split at h
  case isFalse=>cases h
  cases h with | any hdr=>cases hdr
 |jO =>
  simp only[bp] at h
  split at h
  case h_2=>cases h
  rename_i d
  split at h
  case h_2=>cases h
  rename_i hf
  exact ⟨_,.iA hp ⟨rfl,fun rest k=>by simp only[bp,hf]⟩,h⟩
 |jP e bytes z n =>
  simp only[bp] at h
  split at h
  case h_2=>cases h
  rename_i d
  split at h
  case h_2=>cases h
  rename_i hf
  split at h
  case h_2=>cases h
  rename_i k m hn
  split at h
  case isFalse=>cases h
  rename_i hc
  exact ⟨_,.iA hp ⟨rfl,fun rest k=>by simp only[bp,hf,hn,if_pos hc]⟩,h⟩
 |gK ty m key v =>
  simp only[bp] at h
  split at h
  case h_2=>cases h
  split at h
  case h_2=>cases h
  rename_i n hm
  split at h
  case h_2=>cases h
  rename_i ks vs hn
  split at h
  case h_2=>cases h
  rename_i ks' vs' hl
  exact ⟨_,.iA hp ⟨rfl,fun rest k=>by simp only[bp,hm,hn,hl]⟩,h⟩
 |kl x =>
  simp only[bp] at h
  split at h
  case h_2=>cases h
  rename_i d
  split at h
  case h_2=>cases h
  rename_i hf
  split at h
  case h_2=>cases h
  rename_i ks vs hx
  exact ⟨_,.iA hp ⟨rfl,fun rest k=>by simp only[bp,hf,hx]⟩,h⟩
 |jx x =>
  simp only[bp] at h
  split at h
  case h_2=>cases h
  rename_i n hx
  split at h
  case h_2=>cases h
  rename_i ks vs left cur hn
  split at h
  ·rename_i hl
   exact ⟨_,.iA hp ⟨rfl,fun rest k=>by simp only[bp,hx,hn,if_pos hl]⟩,h⟩
  ·cases h with | any hdr=>cases hdr
 |iR esz z x =>
  simp only[bp] at h
  split at h
  case h_2=>cases h
  have hg:∀ (rest:List az) (k:ab→cI),bp A none (.iR esz z x) rest k=nd A esz z k (ae A x):=fun rest k=>rfl
  simp only[nd] at h hg
  split at h
  ·rename_i n p sz lo l hv
   split at h
   case h_2=>cases h
   rename_i b hn
   split at h
   case h_2=>cases h
   rename_i fs hat
   split at h
   case isFalse=>cases h
   rename_i hok
   simp only[hv,hn,hat,if_pos hok] at hg
   exact ⟨_,.iA hp ⟨rfl,hg⟩,h⟩
  ·rename_i z0 hv
   simp only[hv] at hg
   exact ⟨_,.iA hp ⟨rfl,hg⟩,h⟩
  ·rename_i z0 hv
   simp only[hv] at hg
   exact ⟨_,.iA hp ⟨rfl,hg⟩,h⟩
  ·cases h
 |lz esz x y =>
  have hg:∀ (rest:List az) (k:ab→cI),bp A dst (.lz esz x y) rest k=sy A dst esz k (ae A x) (eC A esz (ae A y)):=fun rest k=>rfl
  simp only[bp] at h
  simp only[sy] at h hg
  split at h
  ·rename_i n p sz lo l ys hv hsx
   split at h
   case h_2=>cases h
   rename_i b hn
   split at h
   case h_2=>cases h
   rename_i fs hat
   split at h
   case isFalse=>cases h
   rename_i hok
   simp only[hv,hsx,hn,hat,if_pos hok] at hg
   exact ⟨_,.iA hp ⟨rfl,hg⟩,h⟩
  ·cases h
 |call f args =>
  simp only[bp] at h
  generalize h1:bY true A (args.map (ae A))=a1 at h
  generalize h2:bY false A (args.map (ae A))=a2 at h
  cases h with
  |flat r hc hf hw=>exact ⟨_,.val hp (.flat h1 hc hf),hw⟩
  |lead r hc hw=>exact ⟨_,.val hp (.lead h2 hc),hw⟩
  |gU ns r hdr=>cases hdr
  |bQ aB ρ os cargs post hdr=>cases hdr
 |eL x args =>
  simp only[bp] at h
  split at h
  case h_3=>cases h
  case h_2=>cases h with | zg os cargs post hdr=>cases hdr
  rename_i f caps hx
  generalize h1:bY true A (args.map (ae A)++caps)=a1 at h
  generalize h2:bY false A (args.map (ae A)++caps)=a2 at h
  cases h with
  |flat r hc hf hw=>exact ⟨_,.val hp (.uz hx h1 hc hf),hw⟩
  |lead r hc hw=>exact ⟨_,.val hp (.uA hx h2 hc),hw⟩
  |gU ns r hdr=>cases hdr
  |bQ aB ρ os cargs post hdr=>cases hdr
 |_=>exact pure (by simpa only[bp] using h)
theorem ft.xY{A:ab}{g:az}{rest:List az}(h:bj P Y true K (ay (g::rest) A)):∃ B,ft P g A B∧bj P Y true K (ay rest B):=by
 simp only[ay] at h
 split at h
 ·rename_i hg
  exact ft.JF (by simp only[pass,hg]) h
 ·rename_i t b hg
  split at h
  ·rename_i b' hb
   split at h
   ·rename_i hbb
    subst hbb
    exact ft.JF (by simp only[pass,hg];exact hb) h
   ·rename_i hbb
    refine ⟨_,.skip (by simp only[gu,hg];exact .inl (by rw[hb,vc hbb])),h⟩
  ·rename_i hb
   exact ⟨_,.skip (by simp only[gu,hg];exact .inr hb),h⟩
  ·cases h
theorem nS{A:ab}{g:az}{rest:List az}(hp:pass A g):ay (g::rest) A=bp A g.dst g.op rest (ay rest):=by
 simp only[ay]
 cases hg:g.guard with
 |none=>rfl
 |some tb =>
  obtain ⟨t,b⟩:=tb
  simp only[pass,hg] at hp
  simp only[hp,if_true]
theorem ft.zc{A B:ab}{g:az}{rest:List az}(h:ft P g A B)(hw:bj P Y true K (ay rest B)):bj P Y true K (ay (g::rest) A):=by
 cases h with
 |skip hn =>
  simp only[ay]
  cases hg:g.guard with
  |none=>simp only[gu,hg] at hn
  |some tb =>
   obtain ⟨t,b⟩:=tb
   simp only[gu,hg] at hn
   rcases hn with hn | hn
   ·simp only[hn];rw[if_neg (by cases b <;>simp)];exact hw
   ·simp only[hn];exact hw
 |val hp hv =>
  rw[nS hp]
  obtain ⟨dst,op,gd⟩:=g
  cases hv with
  |pure hv =>
   have hv':bu A op=some _:=hv
   cases op <;>try (simp only[bp,hv',cP] <;>first | exact hw | (simp only[bu] at hv';cases hv');done)
   all_goals first
    |(simp only[bu] at hv';cases hv';done)
    |(simp only[bp,al2 hv',Bool.false_eq_true,if_false,hv',cP];exact hw)
  |flat h1 h2 h3=>simp only[bp,h1];exact .flat _ h2 h3 hw
  |lead h1 h2=>simp only[bp,h1];exact .lead _ h2 hw
  |uz h0 h1 h2 h3=>simp only[bp,h0,h1];exact .flat _ h2 h3 hw
  |uA h0 h1 h2=>simp only[bp,h0,h1];exact .lead _ h2 hw
 |jw hp hd hm ho =>
  rw[nS hp]
  obtain ⟨dst,op,gd⟩:=g
  simp only at hd
  subst hd
  rcases hm with hm | ⟨y,hm,hv,rfl⟩ <;>simp only at hm <;>subst hm
  ·simp only[bp,ho];exact hw
  ·simp only[bp,ho,hv,if_true];exact hw
 |bg hp hd hm =>
  rw[nS hp]
  obtain ⟨dst,op,gd⟩:=g
  simp only at hd
  subst hd
  obtain ⟨s,x,v,p,b,old,h1,h2,h3,h4,h5,rfl⟩:=hm
  simp only at h1
  subst h1
  simp only[bp,h2,h3,h4,if_pos h5]
  exact hw
 |iA hp hm =>
  rw[nS hp,hm.2]
  exact hw
theorem jF.cF{A A':ab}{op:b7}{v:I}(h:jF P A op v)(hu:ef A A')(ha:ea A A' op.c6):jF P A' op v:=by
 cases h with
 |pure h=>exact .pure (J9 hu ha h)
 |flat h1 h2 h3=>exact .flat (by rw[mu ha];exact lG hu h1) h2 h3
 |lead h1 h2=>exact .lead (by rw[mu ha];exact lG hu h1) h2
 |uz h0 h1 h2 h3=>simp only[b7.c6] at ha;exact .uz (by rw[da ha.l];exact h0) (by rw[mu ha.r];exact lG hu h1) h2 h3
 |uA h0 h1 h2=>simp only[b7.c6] at ha;exact .uA (by rw[da ha.l];exact h0) (by rw[mu ha.r];exact lG hu h1) h2
theorem jF.gU{A A':ab}{op:b7}{v:I}(h:jF P A op v)(hc:op.gE=0)(ha:ea A A' op.c6):jF P A' op v:=by
 cases h with
 |pure h=>exact .pure (by rw[yj hc ha];exact h)
 |_=>simp[b7.gE] at hc
theorem nF{A A':ab}{g:az}(ha:ea A A' g.c6)(h:pass A g):pass A' g:=by
 unfold pass at *
 cases hg:g.guard with
 |none=>trivial
 |some tb=>simp only[hg] at h ⊢;rw[ha tb.1 (by simp[az.c6,hg])];exact h
theorem pR{A A':ab}{g:az}(ha:ea A A' g.c6)(h:gu A g):gu A' g:=by
 unfold gu at *
 cases hg:g.guard with
 |none=>simp only[hg] at h
 |some tb=>simp only[hg] at h ⊢;rw[ha tb.1 (by simp[az.c6,hg])];exact h
theorem az.kh{A A':ab}{g:az}(ha:ea A A' g.c6):ea A A' g.op.c6:=fun k hk=>ha k (List.mem_append_left _ hk)
def lj(P:Program)(g:az)(A:ab)(v:I):Prop:=(gu A g∧v=.undef)∨(pass A g∧jF P A g.op v)
theorem lj.step{A:ab}{g:az}{v:I}(h:lj P g A v):ft P g A (A.aP g.dst v):=by
 rcases h with ⟨h,rfl⟩ | ⟨h,k⟩
 ·exact .skip h
 ·exact .val h k
theorem lj.cF{A A':ab}{g:az}{v:I}(h:lj P g A v)(hu:ef A A')(ha:ea A A' g.c6):lj P g A' v:=by
 rcases h with ⟨h,rfl⟩ | ⟨h,k⟩
 ·exact .inl ⟨pR ha h,rfl⟩
 ·exact .inr ⟨nF ha h,k.cF hu (az.kh ha)⟩
theorem lj.gU{A A':ab}{g:az}{v:I}(h:lj P g A v)(hc:g.op.gE=0)(ha:ea A A' g.c6):lj P g A' v:=by
 rcases h with ⟨h,rfl⟩ | ⟨h,k⟩
 ·exact .inl ⟨pR ha h,rfl⟩
 ·exact .inr ⟨nF ha h,k.gU hc (az.kh ha)⟩
theorem ft.y7{A B:ab}{g:az}(h:ft P g A B)(hc:g.op.gE≤2):∃ v,lj P g A v∧B=A.aP g.dst v:=by
 cases h with
 |skip h=>exact ⟨_,.inl ⟨h,rfl⟩,rfl⟩
 |val h k=>exact ⟨_,.inr ⟨h,k⟩,rfl⟩
 |jw h1 h2 h3 h4=>rcases h3 with h3 | ⟨y,h3,_⟩ <;>(rw[h3] at hc;simp[b7.gE] at hc)
 |bg h1 h2 h3=>obtain ⟨s,x,v,p,b,old,h4,_⟩:=h3;rw[h4] at hc;simp[b7.gE] at hc
 |iA h1 h3=>rw[h3.1] at hc;omega
theorem p7{A:ab}{a b:Option Nat}{v u:I}(h:∀ d,a=some d→b≠some d):(A.aP a v).aP b u=(A.aP b u).aP a v:=by
 cases a with
 |none=>rfl
 |some d=>cases b with
  |none=>rfl
  |some e =>
   have hne:d≠e:=fun he=>h d rfl (by rw[he])
   simp only[ab.aP,ab.put,ab.mk.injEq,and_true]
   funext k
   by_cases h1:k=e <;>by_cases h2:k=d <;>simp_all
theorem iG{A:ab}{d:Option Nat}{v:I} : (A.aP d v).o=A.o:=by cases d <;>rfl
theorem mK{A:ab}{d:Option Nat}{v:I}{l:List Nat}(h:∀ k,d=some k→k∉l):ea A (A.aP d v) l:=by
 cases d with
 |none=>exact fun _ _=>rfl
 |some e =>
  intro k hk
  have:k≠e:=fun he=>h e rfl (he▸hk)
  simp[ab.aP,ab.put,this]
theorem ea.symm{A A':ab}{l:List Nat}(h:ea A A' l):ea A' A l:=fun k hk=>(h k hk).symm
theorem r2.same{A A':ab}{op:b7}{x:I}(h:r2 A op x)(ha:ea A A' op.c6):r2 A' op x:=by
 rcases h with h | ⟨y,h1,h2,h3⟩
 ·exact .inl h
 ·subst h1
  have:=da (x:=y) ha
  exact .inr ⟨y,rfl,by rw[this];exact h2,by rw[this];exact h3⟩
theorem r3.same{A A':ab}{op:b7}{n:Nat}{z:ah}(h:r3 A op n z)(ho:A'.o=A.o)(ha:ea A A' op.c6):r3 A' op n z:=by
 obtain ⟨s,x,v,p,b,old,h1,h2,h3,h4,h5,h6⟩:=h
 subst h1
 simp only[b7.c6] at ha
 have e1:=da ha.l
 have e2:=da ha.r
 exact ⟨s,x,v,p,b,old,rfl,by rw[e1];exact h2,by rw[ho];exact h3,h4,by rw[e2];exact h5,by rw[e2];exact h6⟩
theorem ahV{g h:az}(hi:nv g h=true):vx g.op.gE h.op.gE=true∧(∀ d,g.dst=some d→d∉h.c6)∧(∀ d,g.dst=some d→h.dst≠some d)∧(∀ d,h.dst=some d→d∉g.c6):=by
 simp only[nv,Bool.and_eq_true] at hi
 obtain ⟨⟨h1,h2⟩,h3⟩:=hi
 refine ⟨h1,fun d hd =>?_,fun d hd =>?_,fun d hd =>?_⟩
 ·rw[hd] at h2;simp at h2;exact h2.1
 ·rw[hd] at h2;simp at h2;exact h2.2
 ·rw[hd] at h3;simpa using h3
theorem ft.swap{A B C:ab}{g h:az}(hi:nv g h=true)(h1:ft P g A B)(h2:ft P h B C):∃ B',ft P h A B'∧ft P g B' C:=by
 obtain ⟨hc,i1,i2,i3⟩:=ahV hi
 simp only[vx,Bool.or_eq_true,Bool.and_eq_true,decide_eq_true_eq,beq_iff_eq] at hc
 have hg2:g.op.gE≤2:=by rcases hc with hc | hc <;>omega
 obtain ⟨v,hv,rfl⟩:=h1.y7 hg2
 have ag:ea (A.aP g.dst v) A h.c6:=(mK i1).symm
 have cF:ef (A.aP g.dst v) A:=fun n x hx=>by rwa [iG] at hx
 cases h2 with
 |skip hn =>
  exact ⟨_,.skip (pR ag hn),by
   rw[p7 i2];exact (hv.cF (by intro n x hx;rwa [iG]) (mK i3)).step⟩
 |val hp hu =>
  exact ⟨_,.val (nF ag hp) (hu.cF cF (az.kh ag)),by
   rw[p7 i2];exact (hv.cF (by intro n x hx;rwa [iG]) (mK i3)).step⟩
 |jw hp hd hm ho =>
  rename_i d x
  rw[iG] at ho
  refine ⟨_,.jw (nF ag hp) hd (hm.same (az.kh ag)) ho,?_⟩
  have e:((A.aP g.dst v).aN d (.box x)).put d (.ptr d [])=((A.aN d (.box x)).put d (.ptr d [])).aP g.dst v:=by
   cases hgd:g.dst with
   |none=>rfl
   |some e =>
    have hne:e≠d:=fun he=>i2 e hgd (by rw[hd,he])
    simp only[ab.aP,ab.put,ab.aN,ab.mk.injEq,and_true]
    funext k
    by_cases h1:k=e <;>by_cases h2:k=d <;>simp_all
  rw[e]
  refine (hv.cF (fun n y hy =>?_) (fun k hk =>?_)).step
  ·have:n≠d:=fun he=>by rw[he,ho] at hy;cases hy
   simp only[ab.put,ab.aN,this,if_false];exact hy
  ·have:k≠d:=fun he=>i3 d hd (he▸hk)
   simp only[ab.put,ab.aN,this,if_false]
 |bg hp hd hm =>
  rename_i n z
  have hc0:g.op.gE=0:=by
   obtain ⟨s,x,v,p,b,old,h4,_⟩:=hm
   rcases hc with hc | hc
   ·rw[h4] at hc;exact absurd hc.2 (by simp[b7.gE])
   ·exact hc.1
  refine ⟨_,.bg (nF ag hp) hd (hm.same iG.symm (az.kh ag)),?_⟩
  have e:(A.aP g.dst v).aN n z=(A.aN n z).aP g.dst v:=by cases g.dst <;>rfl
  rw[e]
  exact (lj.gU (A':=A.aN n z) hv hc0 (fun _ _=>rfl)).step
 |iA hp hm =>
  exfalso
  rw[hm.1] at hc
  omega
theorem bj.swap{A:ab}{g h:az}{rest:List az}(hi:nv g h=true)(hw:bj P Y true K (ay (g::h::rest) A)):bj P Y true K (ay (h::g::rest) A):=by
 obtain ⟨B,h1,h2⟩:=ft.xY hw
 obtain ⟨C,h3,h4⟩:=ft.xY h2
 obtain ⟨B',h5,h6⟩:=ft.swap hi h1 h3
 exact h5.zc (h6.zc h4)
theorem bj.pf{g:az} : ∀ {l:List az} {r:List az} {A:ab},(∀ j∈l,nv j g=true)→bj P Y true K (ay (l++g::r) A)→bj P Y true K (ay (g::(l++r)) A)
 | [],r,A,_,h=>h
 |j::l,r,A,hi,h=>by
  obtain ⟨B,h1,h2⟩:=ft.xY (g:=j) (rest:=l++g::r) h
  have h3:=bj.pf (l:=l) (r:=r) (fun k hk=>hi k (by simp[hk])) h2
  exact bj.swap (hi j (by simp)) (h1.zc h3)
end
def cZ(o:Oper):List Nat:=(o.after.toList.filter fun e=>Region.binds .any e).map (·.on)
def nN(cl:List Nat):List Nat→Nat
 | []=>0
 |k::ks=>(2^k ||| cl.getD k 0) ||| nN cl ks
def sB(on:List (List Nat))(gs:List az)(cl:List Nat):Bool :=
 (List.range gs.length).all fun i=>(on.getD i []).all (fun k=>decide (k<i))&&Nat.beq (cl.getD i 0) (nN cl (on.getD i [])) &&
  (List.range i).all fun j=>(cl.getD i 0).testBit j||nv (gs.getD j default) (gs.getD i default)
theorem uy{cl:List Nat}{j:Nat} : ∀ {l:List Nat},(nN cl l).testBit j=true→j∈l∨∃ k∈l,(cl.getD k 0).testBit j=true
 | [],h=>by simp[nN] at h
 |k::ks,h=>by
  simp only[nN,Nat.testBit_or,Bool.or_eq_true,Nat.testBit_two_pow,decide_eq_true_eq] at h
  rcases h with (h | h) | h
  ·exact .inl (by simp[h])
  ·exact .inr ⟨k,by simp,h⟩
  ·rcases uy h with h | ⟨m,h1,h2⟩
   ·exact .inl (by simp[h])
   ·exact .inr ⟨m,by simp[h1],h2⟩
structure uE (l:List Oper) (gs:List az):Prop where
 m8:∀ i o,l[i]?=some o→∀ k∈cZ o,k<i
 qP:∀ (S:Nat→Prop),(∀ i o,l[i]?=some o→S i→∀ k∈cZ o,S k)→∀ i o g j,l[i]?=some o→gs[i]?=some g→(∀ k∈cZ o,S k)→j<i→¬ S j→nv (gs.getD j default) g=true
theorem Xg{l:List Oper}{gs:List az}{cl:List Nat}(hlen:gs.length=l.length)(h:sB (l.map cZ) gs cl=true):uE l gs:=by
 simp only[sB,List.all_eq_true,List.mem_range] at h
 have cW:∀ i o,l[i]?=some o→∃ g,gs[i]?=some g∧(∀ k∈cZ o,k<i)∧(∀ j,(cl.getD i 0).testBit j=true→j∈cZ o∨∃ k∈cZ o,(cl.getD k 0).testBit j=true)∧∀ j,j<i→(cl.getD i 0).testBit j=true∨nv (gs.getD j default) g=true:=by
  intro i o ho
  have hi:i<l.length:=(List.getElem?_eq_some_iff.1 ho).1
  have h1:=h i (by omega)
  have hon:(l.map cZ).getD i []=cZ o:=by simp[List.getD_eq_getElem?_getD,ho]
  have hgi:i<gs.length:=by omega
  have hg:gs[i]?=some gs[i]:=List.getElem?_eq_getElem hgi
  have hgd:gs.getD i default=gs[i]:=by simp[List.getD_eq_getElem?_getD,hg]
  rw[hon,hgd] at h1
  simp only[Bool.and_eq_true,List.all_eq_true,decide_eq_true_eq,Bool.or_eq_true,List.mem_range] at h1
  have hb:=Nat.eq_of_beq_eq_true h1.1.2
  exact ⟨_,hg,h1.1.1,fun j hj=>uy (by rw[←hb];exact hj),h1.2⟩
 refine ⟨fun i o ho=>(cW i o ho).choose_spec.2.1,?_⟩
 intro S hS i o g j ho hg hon hj hnj
 have key:∀ n i o,i≤n→l[i]?=some o→(∀ k∈cZ o,S k)→∀ j,(cl.getD i 0).testBit j=true→S j:=by
  intro n
  induction n with
  |zero =>
   intro i o hi ho hon j hj
   obtain ⟨g,_,h1,h2,_⟩:=cW i o ho
   rcases h2 j hj with h | ⟨k,hk,_⟩
   ·exact hon j h
   ·have:=h1 k hk;omega
  |succ n ih =>
   intro i o hi ho hon j hj
   obtain ⟨g,_,h1,h2,_⟩:=cW i o ho
   rcases h2 j hj with h | ⟨k,hk,hjk⟩
   ·exact hon j h
   ·have hki:=h1 k hk
    have hkl:k<l.length:=Nat.lt_trans hki (List.getElem?_eq_some_iff.1 ho).1
    obtain ⟨ok,hok⟩:∃ ok,l[k]?=some ok:=⟨l[k],List.getElem?_eq_getElem hkl⟩
    exact ih k ok (by omega) hok (hS k ok hok (hon k hk)) j hjk
 obtain ⟨g',hg',_,_,h3⟩:=cW i o ho
 rw[hg,Option.some.injEq] at hg'
 subst hg'
 rcases h3 j hj with h | h
 ·exact absurd (key i i o (Nat.le_refl _) ho hon j h) hnj
 ·exact h
def ji(listed:Array Bool)(n:Nat):List Nat:=(List.range n).filter fun i => !listed.getD i true
def oE(gs:List az)(listed:Array Bool)(n:Nat):List az:=(ji listed n).map fun i=>gs.getD i default
theorem L4{i n:Nat}(h:i<n):List.range n=List.range i++i::(List.range (n-(i+1))).map (i+1 + ·):=by
 conv=>lhs;rw[show n=(i+1)+(n-(i+1)) by omega,List.range_add]
 rw[List.range_succ]
 simp
theorem akN{listed:Array Bool}{i n:Nat}(h:i<n)(hs:listed.size=n)(hu:listed.getD i true=false):∃ l1 l2,ji listed n=l1++i::l2∧ji (listed.setIfInBounds i true) n=l1++l2∧∀ j∈l1,j<i∧listed.getD j true=false:=by
 have same:∀ j,j≠i→(listed.setIfInBounds i true).getD j true=listed.getD j true:=fun j hj=>getD_set_ne true (Ne.symm hj)
 have hit:(listed.setIfInBounds i true).getD i true=true:=by simp[hs,h]
 refine ⟨(List.range i).filter fun j => !listed.getD j true,((List.range (n-(i+1))).map (i+1 + ·)).filter fun j => !listed.getD j true,?_,?_,?_⟩
 ·simp only[ji]
  rw[L4 h,List.filter_append,List.filter_cons]
  simp only[hu,Bool.not_false,if_true]
 ·simp only[ji]
  rw[L4 h,List.filter_append,List.filter_cons]
  simp only[hit,Bool.not_true,Bool.false_eq_true,if_false]
  congr 1
  ·refine List.filter_congr fun j hj =>?_
   rw[same j (by have:=List.mem_range.1 hj;omega)]
  ·refine List.filter_congr fun j hj =>?_
   obtain ⟨k,_,rfl⟩:=List.mem_map.1 hj
   rw[same _ (by omega)]
 ·intro j hj
  simp only[List.mem_filter,List.mem_range,Bool.not_eq_true'] at hj
  exact hj
theorem Ma{n:Nat} : ji (Array.replicate n false) n=List.range n:=by
 simp only[ji]
 refine List.filter_eq_self.2 fun i hi =>?_
 have:=List.mem_range.1 hi
 simp[this]
theorem aiI(gs:List az):((List.range gs.length).map fun i=>gs.getD i default)=gs:=by
 apply List.ext_getElem
 ·simp
 ·intro i h1 h2
  simp[List.getD_eq_getElem?_getD,h2]
section
variable {c:cJ}
theorem j5{P:Program}{n:Nat}{bx:Array Oper} : ∀ {l:List Oper} {gs:List az},j4 P n bx l=some gs→gs.length=l.length∧∀ (i:Nat) (o:Oper),l[i]?=some o→∃ g,gs[i]?=some g∧pg P n bx o=some g
 | [],gs,h=>by simp only[j4,Option.some.injEq] at h;subst h;exact ⟨rfl,fun i o ho=>by simp at ho⟩
 |o::l,gs,h=>by
  simp only[j4] at h
  split at h
  case h_2=>cases h
  rename_i g gs' hg hgs
  simp only[Option.some.injEq] at h
  subst h
  obtain ⟨h1,h2⟩:=j5 (l:=l) hgs
  refine ⟨by simp[h1],fun i o' ho =>?_⟩
  cases i with
  |zero=>simp only[List.getElem?_cons_zero,Option.some.injEq] at ho;subst ho;exact ⟨g,rfl,hg⟩
  |succ i=>simpa using h2 i o' (by simpa using ho)
theorem agZ{K:ab→Prop}{bx:Array Oper}{Q:Exit→Act→World→Prop}{o:Oper}{g:az}{rest:List az}{A:ab}{a:Act}{w:World}{Kw:Act→World→Prop}(hg:pg c.P c.n bx o=some g)(hwp:bj c.P c.Y true K (ay (g::rest) A))(hs:cj c A a w)
  (hK:∀ B a' w',bj c.P c.Y true K (ay rest B)→cj c B a' w'→Kw a' w'):if Region.wanted o (yielded bx a.tmps) then o.wpIn c.bl 9 c.P a w Kw Q else (∀ f,o.about c.P w a.eval=some f→c.bl.fn f)∧Kw (a.put o.dst undef) w:=by
 obtain ⟨h1,h2,h3,h4⟩:=vk hg
 have step:bj c.P c.Y true K (bp A g.dst g.op rest (ay rest))→o.wpIn c.bl 9 c.P a w Kw Q:=fun h =>
  xb h1 h2.symm (by rw[h2];exact h3) h hs (fun B a' w' hw hs'=>hK B a' w' hw hs')
 simp only[ay] at hwp
 rcases h4 with ⟨h5,h6⟩ | ⟨j,b,t,h5,h6,h7⟩
 ·rw[h6] at hwp
  have hw:Region.wanted o (yielded bx a.tmps)=true:=by simp[Region.wanted,h5]
  rw[hw,if_pos rfl]
  exact step hwp
 ·rw[h7] at hwp
  simp only at hwp
  split at hwp
  ·rename_i b' hb'
   rw[xi hs h5 h6 hb']
   split at hwp
   ·rename_i hbb
    subst hbb
    simp only[BEq.rfl,if_true]
    exact step hwp
   ·rename_i hbb
    have:(b'==b)=false:=by simpa using hbb
    rw[this]
    simp only[Bool.false_eq_true,if_false]
    exact ⟨fun f _=>od c f,hK _ _ _ hwp (by rw[h2];exact hs.p6 h3)⟩
  ·rename_i hb'
   rw[xj hs h5 h6 hb']
   simp only[Bool.false_eq_true,if_false]
   exact ⟨fun f _=>od c f,hK _ _ _ hwp (by rw[h2];exact hs.p6 h3)⟩
  ·cases hwp
theorem Pd{K:ab→Prop}{bx:Array Oper}{gs:List az}{Q:Exit→Act→World→Prop}(hQ:∀ B a w,K B→cj c B a w→Q .normal a w)(hgs:j4 c.P c.n bx bx.toList=some gs)(hd:uE bx.toList gs) :
  ∀ (fuel:Nat) (listed:Array Bool) (A:ab) (a:Act) (w:World),listed.size=bx.size→(∀ i o,bx.toList[i]?=some o→listed.getD i false=true→∀ k∈cZ o,listed.getD k false=true)→(ji listed bx.size).length≤fuel →
   bj c.P c.Y true K (ay (oE gs listed bx.size) A)→cj c A a w→wpAnyIn c.bl 9 c.P .any bx Q fuel listed a w:=by
 obtain ⟨hlen,hat⟩:=j5 hgs
 have onOf_mem:∀ (o:Oper) (e:Edge),e∈o.after→Region.binds .any e=true→e.on∈cZ o:=fun o e he hb=>by
  simp only[cZ,List.mem_map,List.mem_filter]
  exact ⟨e,⟨by simpa using he,hb⟩,rfl⟩
 have of_onOf:∀ (o:Oper) (k:Nat),k∈cZ o→∃ e∈o.after,Region.binds .any e=true∧e.on=k:=fun o k hk=>by
  simp only[cZ,List.mem_map,List.mem_filter] at hk
  obtain ⟨e,⟨h1,h2⟩,h3⟩:=hk
  exact ⟨e,by simpa using h1,h2,h3⟩
 have last:∀ (listed:Array Bool) (A:ab) (a:Act) (w:World),listed.size=bx.size→Region.ready .any bx listed=[]→bj c.P c.Y true K (ay (oE gs listed bx.size) A)→cj c A a w→Q .normal a w:=by
  intro listed A a w hsz hr hwp hs
  have hnone:ji listed bx.size=[]:=by
   have all:∀ n,∀ i,i<n→i<bx.size→listed.getD i true=true:=by
    intro n
    induction n with
    |zero=>intro i hi;omega
    |succ n ih =>
     intro i hi his
     cases hb:listed.getD i true with
     |true=>rfl
     |false =>
      exfalso
      have ho:bx[i]?=some bx[i]:=Array.getElem?_eq_getElem his
      have:i∈Region.ready .any bx listed:=mem_ready.2 ⟨hb,bx[i],ho,fun e he hbd=>by
       have hlt:=hd.m8 i bx[i] (by simp) e.on (onOf_mem _ e he hbd)
       have h1:=ih e.on (by omega) (by omega)
       have h2:e.on<listed.size:=by omega
       simpa[Array.getD_eq_getD_getElem?,h2] using h1⟩
      rw[hr] at this
      cases this
   simp only[ji]
   refine List.filter_eq_nil_iff.2 fun i hi =>?_
   have:=all (i+1) i (by omega) (List.mem_range.1 hi)
   simp only[this,Bool.not_true,Bool.false_eq_true,not_false_eq_true]
  simp only[oE,hnone,List.map_nil,ay] at hwp
  cases hwp with
  |done hk=>exact hQ A a w hk hs
 intro fuel
 induction fuel with
 |zero =>
  intro listed A a w hsz hcl hcnt hwp hs
  have hnone:ji listed bx.size=[]:=List.length_eq_zero_iff.1 (by omega)
  have hr:Region.ready .any bx listed=[]:=by
   refine List.eq_nil_iff_forall_not_mem.2 fun i hi =>?_
   obtain ⟨h1,o,ho,_⟩:=mem_ready.1 hi
   have:i∈ji listed bx.size:=by
    simp only[ji,List.mem_filter,List.mem_range,h1,Bool.not_false,and_true]
    exact (Array.getElem?_eq_some_iff.1 ho).1
   rw[hnone] at this
   cases this
  exact ⟨hr,last listed A a w hsz hr hwp hs⟩
 |succ fuel ih =>
  intro listed A a w hsz hcl hcnt hwp hs
  refine ⟨fun hr=>last listed A a w hsz hr hwp hs,fun i hi =>?_⟩
  obtain ⟨hun,o,ho,hall⟩:=mem_ready.1 hi
  have hin:i<bx.size:=(Array.getElem?_eq_some_iff.1 ho).1
  obtain ⟨l1,l2,e1,e2,hl1⟩:=akN hin hsz hun
  have hol:bx.toList[i]?=some o:=by simpa using ho
  obtain ⟨g,hgi,hcg⟩:=hat i o hol
  have hon:∀ k∈cZ o,listed.getD k false=true:=fun k hk=>by
   obtain ⟨e,h1,h2,h3⟩:=of_onOf o k hk
   exact h3▸hall e h1 h2
  have hgd:gs.getD i default=g:=by simp[List.getD_eq_getElem?_getD,hgi]
  have hwp':bj c.P c.Y true K (ay (g::oE gs (listed.setIfInBounds i true) bx.size) A):=by
   simp only[oE,e1,List.map_append,List.map_cons,hgd] at hwp
   simp only[oE,e2,List.map_append]
   refine bj.pf (fun j hj =>?_) hwp
   obtain ⟨k,hk,rfl⟩:=List.mem_map.1 hj
   obtain ⟨hk1,hk2⟩:=hl1 k hk
   refine hd.qP (fun k=>listed.getD k false=true) hcl i o g k hol hgi hon hk1 ?_
   have hks:k<listed.size:=by omega
   simp[Array.getD_eq_getD_getElem?,hks] at hk2 ⊢
   exact hk2
  unfold wpOpIn
  rw[ho]
  refine agZ hcg hwp' hs fun B a' w' hw hs'=>ih _ B a' w' (by simpa using hsz) ?_ ?_ hw hs'
  ·intro m om hom hm k hk
   by_cases hmi:m=i
   ·subst hmi
    rw[hol,Option.some.injEq] at hom
    subst hom
    exact getD_set_true (hon k hk)
   ·rw[getD_set_ne false (Ne.symm hmi)] at hm
    exact getD_set_true (hcl m om hom hm k hk)
  ·have:(ji listed bx.size).length=(ji (listed.setIfInBounds i true) bx.size).length+1:=by
    rw[e1,e2];simp;omega
   omega
theorem akM{K:ab→Prop}{bx:Array Oper}{gs:List az}{Q:Exit→Act→World→Prop}{id:Nat}{A:ab}{a:Act}{w:World}(hm:c.P.follows .mixedOrders=true)(hQ:∀ B a w,K B→cj c B a w→Q .normal a w)(hgs:j4 c.P c.n bx bx.toList=some gs)(hd:uE bx.toList gs)
  (hwp:bj c.P c.Y true K (ay gs A)) (hs:cj c A a w):(Code.region id bx true).wpIn c.bl 9 c.P Q a w:=by
 refine wpIn_region_any hm (Pd hQ hgs hd bx.size (Array.replicate bx.size false) A a _ (by simp) ?_ ?_ ?_ ?_)
 ·intro i o _ h
  exfalso
  simp only[Array.getD_eq_getD_getElem?,Array.getElem?_replicate] at h
  split at h <;>simp at h
 ·rw[Ma];simp
 ·have hl:=(j5 hgs).1
  simp only[Array.length_toList] at hl
  simp only[oE,Ma]
  rw[←hl,aiI]
  exact hwp
 ·obtain ⟨D,E,hs⟩:=hs
  exact ⟨D,E,hs.grow (w' := { w with drawn:=w.drawn+1 }) ⟨rfl,rfl,rfl,Nat.le_refl _,fun _ _=>rfl⟩ (fun _ _ h=>h) (fun _ _ h _=>h) (fun b o h=>hs.c9 b o h)⟩
end
inductive aO where
 |bS (on:Option (List (List Nat))) (gs:List az)
 |seq (x y:aO)
 |cond (b:aL) (x y:aO)
 |block (id:Nat) (x:aO)
 |loop (x:aO)
 |exit (id:Nat)
 |ret
 |skip
 |scope (x:aO)
 |label
 |jU (f:aL) (ps:List Nat) (x y:aO)
 deriving Inhabited
def eY(P:Program)(n:Nat):Code→Option aO
 | .region _ bx draw=>match j4 P n bx bx.toList with
  |some gs=>if (!draw||P.follows .mixedOrders)=true then some (.bS (bif draw then some (bx.toList.map cZ) else none) gs) else none
  |none=>none
 | .seq x y=>match eY P n x,eY P n y with
  |some x,some y=>some (.seq x y)
  |_,_=>none
 | .cond b x y=>match bG P 0 b,eY P n x,eY P n y with
  |some b,some x,some y=>some (.cond b x y)
  |_,_,_=>none
 | .block id x=>match eY P n x with
  |some x=>some (.block id x)
  |none=>none
 | .loop x=>match eY P n x with
  |some x=>some (.loop x)
  |none=>none
 | .exit id=>some (.exit id)
 | .ret=>some .ret
 | .skip=>some .skip
 | .scope x=>match eY P n x with
  |some x=>some (.scope x)
  |none=>none
 | .label _=>some .label
 | .rangeFunc f ps x y=>match bG P 0 f,eY P n x,eY P n y with
  |some f,some x,some y=>if (ps.toList.all fun p=>p<n)=true then some (.jU f ps.toList x y) else none
  |_,_,_=>none
 |_=>none
def Jk(c:cJ)(Q:Exit→ab→Prop):Exit→Act→World→Prop:=fun e a w=>∃ A,Q e A∧cj c A a w
def J(c:cJ)(x:aO)(Q:Exit→ab→Prop)(A:ab):Prop :=
 ∀ code,eY c.P c.n code=some x→∀ a w,cj c A a w→code.wpIn c.bl 9 c.P (Jk c Q) a w
def aF(k:ab→Prop)(Q:Exit→ab→Prop):Exit→ab→Prop
 | .normal,A=>k A
 |e,A=>Q e A
def b8(id:Nat)(Q:Exit→ab→Prop):Exit→ab→Prop
 | .exit id',A=>if id'=id then Q .normal A else Q (.exit id') A
 |e,A=>Q e A
section
variable {c:cJ} {A:ab} {Q:Exit→ab→Prop}
def WW(d:Option (List (List Nat)))(gs:List az)(cl:List Nat):Bool:=match d with
 |none=>true
 |some on=>sB on gs cl
theorem J.bS{d:Option (List (List Nat))}{gs:List az}{cl:List Nat}(hd:WW d gs cl=true)(h:∀ K:ab→Prop,(∀ B,Q .normal B→K B)→bj c.P c.Y d.isSome K (ay gs A)):J c (.bS d gs) Q A:=by
 intro code hc a w hs
 cases code <;>simp only[eY] at hc <;>try (first | (cases hc;done) | ((repeat' split at hc) <;>cases hc;done))
 rename_i id bx draw
 split at hc
 ·rename_i gs' hgs
  split at hc
  case isFalse=>cases hc
  rename_i hok
  simp only[Option.some.injEq,aO.bS.injEq] at hc
  obtain ⟨rfl,rfl⟩:=hc
  cases draw with
  |false=>exact wpIn_region_list (s7 (K:=Q .normal) (fun B a w hk hs=>⟨B,hk,hs⟩) bx.toList gs' A a w hgs (h _ fun _ hb=>hb) hs)
  |true =>
   simp only[Bool.not_true,Bool.false_or] at hok
   exact akM (K:=Q .normal) hok (fun B a w hk hs=>⟨B,hk,hs⟩) hgs (Xg (j5 hgs).1 hd) (h _ fun _ hb=>hb) hs
 ·cases hc
theorem J.seq{x y:aO}(h:J c x (aF (fun B=>J c y Q B) Q) A):J c (.seq x y) Q A:=by
 intro code hc a w hs
 cases code <;>simp only[eY] at hc <;>try (first | (cases hc;done) | ((repeat' split at hc) <;>cases hc;done))
 rename_i cx cy
 split at hc
 ·rename_i x' y' hx hy
  simp only[Option.some.injEq,aO.seq.injEq] at hc
  obtain ⟨rfl,rfl⟩:=hc
  refine wpIn_seq (wpIn_mono (h cx hx a w hs) ?_)
  rintro e a' w' ⟨B,hq,hs'⟩
  cases e <;>simp only[aF,Exit.then] at * <;>first | exact hq cy hy a' w' hs' | exact ⟨B,hq,hs'⟩
 ·cases hc
theorem J.cond{b:aL}{x y:aO}{t:Bool}(hb:ae A b=.bool t)(h1:t=true→J c x Q A)(h2:t=false→J c y Q A):J c (.cond b x y) Q A:=by
 intro code hc a w hs
 cases code <;>simp only[eY] at hc <;>try (first | (cases hc;done) | ((repeat' split at hc) <;>cases hc;done))
 rename_i cb cx cy
 split at hc
 ·rename_i b' x' y' hb' hx hy
  simp only[Option.some.injEq,aO.cond.injEq] at hc
  obtain ⟨rfl,rfl,rfl⟩:=hc
  obtain ⟨D,E,hs'⟩:=hs
  have hv:=b9 hs' hb'
  rw[hb] at hv
  exact wpIn_cond_split (lZ hv) (fun ht=>h1 ht cx hx a w ⟨D,E,hs'⟩) (fun ht=>h2 ht cy hy a w ⟨D,E,hs'⟩)
 ·cases hc
theorem J.block{id:Nat}{x:aO}(h:J c x (b8 id Q) A):J c (.block id x) Q A:=by
 intro code hc a w hs
 cases code <;>simp only[eY] at hc <;>try (first | (cases hc;done) | ((repeat' split at hc) <;>cases hc;done))
 rename_i id' cx
 split at hc
 ·rename_i x' hx
  simp only[Option.some.injEq,aO.block.injEq] at hc
  obtain ⟨rfl,rfl⟩:=hc
  refine wpIn_block (wpIn_mono (h cx hx a w hs) ?_)
  rintro e a' w' ⟨B,hq,hs'⟩
  cases e <;>simp only[b8,Exit.inBlock] at * <;>first
   |exact ⟨B,hq,hs'⟩
   |(split at hq
     ·rename_i he;rw[if_pos he];exact ⟨B,hq,hs'⟩
     ·rename_i he;rw[if_neg he];exact ⟨B,hq,hs'⟩)
 ·cases hc
theorem J.exit{id:Nat}(h:Q (.exit id) A):J c (.exit id) Q A:=by
 intro code hc a w hs
 cases code <;>simp only[eY] at hc <;>try (first | (cases hc;done) | ((repeat' split at hc) <;>cases hc;done))
 simp only[Option.some.injEq,aO.exit.injEq] at hc
 subst hc
 exact wpIn_exit ⟨A,h,hs⟩
theorem J.ret(h:Q .ret A):J c .ret Q A:=by
 intro code hc a w hs
 cases code <;>simp only[eY] at hc <;>try (first | (cases hc;done) | ((repeat' split at hc) <;>cases hc;done))
 exact wpIn_ret ⟨A,h,hs⟩
theorem J.skip(h:Q .normal A):J c .skip Q A:=by
 intro code hc a w hs
 cases code <;>simp only[eY] at hc <;>try (first | (cases hc;done) | ((repeat' split at hc) <;>cases hc;done))
 exact wpIn_skip ⟨A,h,hs⟩
theorem Di{p:Nat→Prop}(h:∃ n,p n):∃ n,p n∧∀ m,p m→n≤m:=by
 obtain ⟨n,hn⟩:=h
 induction n using Nat.strongRecOn with
 |_ n ih =>
  by_cases hm:∃ m,m<n∧p m
  ·obtain ⟨m,h1,h2⟩:=hm
   exact ih m h1 h2
  ·exact ⟨n,hn,fun m hp=>Nat.le_of_not_lt fun hlt=>hm ⟨m,hlt,hp⟩⟩
open Classical in
noncomputable def least(p:Nat→Prop):Nat:=if h:∃ n,p n then (Di h).choose else 0
theorem Jf{p:Nat→Prop}(h:∃ n,p n):p (least p)∧∀ m,p m→least p≤m:=by
 simp only[least,dif_pos h]
 exact (Di h).choose_spec
theorem ama{bl:Fence}{N:Nat}{P:Program}{code:Code}{QQ:Exit→Act→World→Prop}(aj:Nat→Act→World→Prop)(round:∀ n a w,aj n a w→code.wpIn bl N P (Exit.then (fun a' w'=>∃ m,m<n∧aj m a' w') QQ) a w) :
  ∀ n a w,aj n a w→(Code.loop code).wpIn bl N P QQ a w:=by
 intro n a w h
 refine wpIn_loop (fun a w=>∃ n,aj n a w) (fun a w=>least fun n=>aj n a w) ⟨n,h⟩ ?_
 intro a w hI
 have hm:=(Jf hI).1
 refine wpIn_mono (round _ a w hm) ?_
 intro e a' w' hq
 cases e <;>simp only[Exit.then] at hq ⊢ <;>try exact hq
 obtain ⟨m,h1,h2⟩:=hq
 exact ⟨⟨m,h2⟩,Nat.lt_of_le_of_lt ((Jf ⟨m,h2⟩).2 m h2) h1⟩
def aC(A B:ab):Prop:=∀ (c:cJ) (a:Act) (w:World),cj c A a w→cj c B a w
theorem aC.refl(A:ab):aC A A:=fun _ _ _ h=>h
theorem aC.trans{A B C:ab}(h:aC A B)(k:aC B C):aC A C:=fun c a w hs=>k c a w (h c a w hs)
theorem J.sub{x:aO}{B:ab}(hsub:aC A B)(h:J c x Q B):J c x Q A:=fun code hc a w hs=>h code hc a w (hsub c a w hs)
theorem J.mono{x:aO}{Q':Exit→ab→Prop}(h:J c x Q A)(hq:∀ e B,Q e B→Q' e B):J c x Q' A :=
 fun code hc a w hs=>wpIn_mono (h code hc a w hs) fun e a' w' ⟨B,h1,h2⟩=>⟨B,hq e B h1,h2⟩
theorem J.loop{σ:Type}(S:σ→ab)(C:σ→Prop)(m:σ→Nat)(s0:σ){x:aO}(h0:C s0)(hsub:aC A (S s0))
  (round:∀ s,C s→J c x (aF (fun B=>∃ s',C s'∧m s'<m s∧aC B (S s')) Q) (S s)):J c (.loop x) Q A:=by
 intro code hc a w hs
 cases code <;>simp only[eY] at hc <;>try (first | (cases hc;done) | ((repeat' split at hc) <;>cases hc;done))
 rename_i cx
 split at hc
 ·rename_i x' hx
  simp only[Option.some.injEq,aO.loop.injEq] at hc
  subst hc
  refine ama (fun n a w=>∃ s,C s∧m s=n∧cj c (S s) a w) ?_ (m s0) a w ⟨s0,h0,rfl,hsub c a w hs⟩
  rintro n a w ⟨s,hC,rfl,hs⟩
  refine wpIn_mono (round s hC cx hx a w hs) ?_
  rintro e a' w' ⟨B,hq,hs'⟩
  cases e <;>simp only[aF,Exit.then] at * <;>first
   |exact ⟨B,hq,hs'⟩
   |(obtain ⟨s',h1,h2,h3⟩:=hq;exact ⟨m s',h2,s',h1,rfl,h3 c a' w' hs'⟩)
 ·cases hc
end
inductive aZ where
 |tmp (t:Nat)
 |cell (a:Nat) (s:Option Nat)
def iQ(P:Program):List ResultVar→Option (List aZ)
 | []=>some []
 | .tmp t::l=>(iQ P l).map (.tmp t :: ·)
 | .cell a t::l=>match fO P t,iQ P l with
  |some s,some l=>some (.cell a s::l)
  |_,_=>none
def ud(A:ab):aZ→Option I
 | .tmp t=>bd true A (A.t t)
 | .cell a s=>match cu A (A.t a) with
  |some x=>if b6 s x then bd true A x else none
  |none=>none
def ff(A:ab):List aZ→Option (List I)
 | []=>some []
 |r::rs=>match ud A r,ff A rs with
  |some x,some xs=>some (x::xs)
  |_,_=>none
def kT:List I→I
 | [x]=>x
 |xs=>.tuple xs
def oR(args:List I):ab:=⟨fun t=>args.getD t .undef,fun _=>none⟩
def jB(rs:List aZ)(r:I):Exit→ab→Prop
 | .ret,A=>∃ xs,ff A rs=some xs∧kT xs=r
 | .normal,A=>∃ xs,ff A rs=some xs∧kT xs=r
 |_,_=>False
def qg(args:List I)(os:List (Nat×ah)):ab:=⟨fun t=>args.getD t .undef,ai os⟩
theorem alO{P:Program}{n:Nat}{w:World}{D:aQ}{E:aU}{Y:Value→List I→List (Nat×ah)→cN→Prop}{args:List I}{os:List (Nat×ah)}{vs:List Value}(hD:∀ b o,D b o→b<w.heap.size)(ho:lg (fun _=>True) w D E (ai os))
  (hv:aI w D E args vs) (hn:vs.length≤n) (hos:∀ m,ao os m=true→n≤m∧1000000≤m) (hy:oZ ⟨P,w,D,n,dy E,E,Y,none⟩) :
  aS ⟨P,w,D,n,dy E,E,Y,none⟩ (qg args os) { tmps:=vs.toArray++Array.replicate (n-vs.toArray.size) undef,defers:=[] } w D E:=by
 refine ⟨by simp;omega,⟨[],rfl,.nil,fun _ h=>by simp at h⟩,fun t =>?_,fK.refl _ _,fun _ _ h _=>h,hD,fun m =>?_,ho.cS,fun m e h=>.inr ⟨e,h,.refl e⟩,fun m hm =>?_,fun _ _ h=>h,hy,.refl _ _⟩
 ·have key:∀ (args:List I) (vs:List Value) (t:Nat),aI w D E args vs→aT w D E (args.getD t .undef) (vs.getD t undef):=by
   intro args
   induction args with
   |nil=>intro vs t h;simp only[aI] at h;subst h;simp[aT]
   |cons x xs ih =>
    intro vs t h
    simp only[aI] at h
    obtain ⟨v,rest,cs,rfl,h1,h2,h3⟩:=h
    cases t with
    |zero=>simpa using mE h1 h2
    |succ t=>simpa using ih rest t h3
  have:=key args vs t hv
  have e:(vs.toArray++Array.replicate (n-vs.toArray.size) undef).getD t undef=vs.getD t undef:=by
   simp only[Array.getD_eq_getD_getElem?,List.getD_eq_getElem?_getD]
   rcases Nat.lt_or_ge t vs.length with h | h
   ·rw[Array.getElem?_append_left (by simpa using h)]
    simp
   ·rw[Array.getElem?_append_right (by simpa using h),List.getElem?_eq_none h]
    simp only[Array.getElem?_replicate]
    split <;>rfl
  simp only[qg]
  rw[e]
  exact this
 ·have h:=ho.bQ m
  simp only[qg]
  cases hx:ai os m with
  |none=>rw[hx] at h;exact h
  |some x =>
   rw[hx] at h
   cases x with
   |box x =>
    obtain ⟨b,cs,T,k1,_,k3⟩:=h
    exact ⟨b,cs,T,k1,.inr ⟨m,_,k1,rfl⟩,k3⟩
   |bT T sz es =>
    obtain ⟨aD,k1,k2,k3⟩:=h
    refine ⟨aD,k1,k2,?_⟩
    cases aD with
    |none=>exact k3
    |some bc =>
     obtain ⟨b,cap⟩:=bc
     obtain ⟨cs,pre,rest,_,k4⟩:=k3
     exact ⟨cs,pre,rest,.inr ⟨m,_,k1,rfl⟩,k4⟩
   |cM T xs =>
    obtain ⟨aD,k1,k2,k3⟩:=h
    refine ⟨aD,k1,k2,?_⟩
    cases aD with
    |none=>exact k3
    |some bc =>
     obtain ⟨b,cap⟩:=bc
     obtain ⟨cs,rest,_,k4⟩:=k3
     exact ⟨cs,rest,.inr ⟨m,_,k1,rfl⟩,k4⟩
   |dL x =>
    obtain ⟨b,k1,_,k3⟩:=h
    exact ⟨b,k1,.inr ⟨m,_,k1,rfl⟩,k3⟩
   |ct ks vs =>
    obtain ⟨b,es,ck,k1,_,k3⟩:=h
    exact ⟨b,es,ck,k1,.inr ⟨m,_,k1,rfl⟩,k3⟩
   |it ks vs left cur =>
    obtain ⟨r,b,es,ck,si,se,la,k1,_,k3⟩:=h
    exact ⟨r,b,es,ck,si,se,la,k1,.inr ⟨m,_,k1,rfl⟩,k3⟩
 ·have h:=ho.bQ m
  refine hos m ?_
  cases hx:ai os m with
  |none=>rw[hx] at h;exact absurd h hm
  |some x=>simp[ao,hx]
def rF(tmps:Array Value):ResultVar→Sem Value
 | .tmp t=>pure (tmps.getD t undef)
 | .cell a t=>do loadVar t (←asAddr (tmps.getD a undef))
theorem akX(fn:Func)(tmps:Array Value):results fn tmps=(do
  let vs ←fn.results.mapM (rF tmps)
  pure (if h:vs.size=1 then vs[0] else .tuple vs)):=by
 unfold results
 rfl
def tV(A:ab):aZ→Option I
 | .tmp t=>some (A.t t)
 | .cell a s=>match cu A (A.t a) with
  |some x=>if b6 s x then some x else none
  |none=>none
def mN(A A0:ab)(os:List (Nat×ah)):List aZ→List I→Prop
 | [],[]=>True
 |r::rs,y::ys=>(∃ x,tV A r=some x∧((y=x∧x.cm=true∧x.only (ao os)=true)∨bd true A0 x=some y))∧mN A A0 os rs ys
 |_,_=>False
def ab.kX(A:ab)(os:List (Nat×ah)):ab:=⟨A.t,fun n=>if ao os n then none else A.o n⟩
def lh(rs:List aZ)(post:cN)(A:ab):Prop :=
 ∃ (os:List (Nat×ah)) (xs:List I),(∀ n x,ai os n=some x→A.o n=some x∧x.only (ao os)=true∧x.eO=true)∧mN A (A.kX os) os rs xs∧post (kT xs) os
def nH(rs:List aZ)(post:cN):Exit→ab→Prop
 | .ret,A=>lh rs post A
 | .normal,A=>lh rs post A
 |_,_=>False
theorem yB{c:cJ}{A:ab}{a:Act}{w:World}{D:aQ}{E:aU}(hs:aS c A a w D E){A0:ab}(hu:ef A0 A){os:List (Nat×ah)}{D':aQ}{E':aU}(hw:iw true A0 D E D')(ar:∀ n,ao os n=true→E' n=E n)(hE':∀ n,ao os n=false→E' n=none) :
  ∀ (rs:List ResultVar) (ls:List aZ) (xs:List I),iQ c.P rs=some ls→mN A A0 os ls xs→∃ vs:List Value,(rs.mapM (rF a.tmps)).run c.P w=.ok vs w∧aI w D' E' xs vs
 | [],ls,xs,hc,hr=>by
  simp only[iQ,Option.some.injEq] at hc
  subst hc
  cases xs with
  |nil=>exact ⟨[],by simp,by simp[aI]⟩
  |cons x xs=>simp[mN] at hr
 |r::rs,ls,xs,hc,hr=>by
  have hl:dN w D E' w D' E':=⟨hw.c5,fun _ _ _ _ h=>h,fun _ _ _ h=>h,fun _ aD l h=>⟨aD,l,h,Nat.le_refl _,fun _=>rfl⟩,fun _ _ h=>h,fun _ _ h=>h,fun _ _ _ _ h=>h⟩
  have fin1:∀ {x y:I} {v:Value},aT w D E x v→((y=x∧x.cm=true∧x.only (ao os)=true)∨bd true A0 x=some y)→∃ cs,bK y v cs∧af w D' E' y cs:=by
   intro x y v hv hf
   rcases hf with ⟨rfl,h1,h2⟩ | hf
   ·have h3:=aT.bJ hl (aT.dD ar h2 hv)
    cases y <;>simp only[aT] at h3 <;>first | (simp[I.cm] at h1;done) | exact h3
   ·have h1:aI w D E [x] [v]:=mQ [x] [v] (.cons hv .nil) (by
     intro z hz
     simp only[List.mem_singleton] at hz
     subst hz
     cases z <;>simp_all[bd,I.cm])
    have h2:=my (E':=E') hs hu hw [x] [y] [v] h1 (by simp[bY,hf])
    simp only[aI] at h2
    obtain ⟨v',rest,cs,e,k1,k2,_⟩:=h2
    simp only[List.cons.injEq] at e
    obtain ⟨rfl,_⟩:=e
    exact ⟨cs,k1,k2⟩
  cases r with
  |tmp t =>
   simp only[iQ,Option.map_eq_some_iff] at hc
   obtain ⟨ls',hl',rfl⟩:=hc
   cases xs with
   |nil=>simp[mN] at hr
   |cons y ys =>
    simp only[mN] at hr
    obtain ⟨⟨x,h1,h2⟩,h3⟩:=hr
    simp only[tV,Option.some.injEq] at h1
    subst h1
    obtain ⟨vs,k1,k2⟩:=yB hs hu hw ar hE' rs ls' ys hl' h3
    obtain ⟨cs,k3,k4⟩:=fin1 (hs.dZ t) h2
    refine ⟨a.tmps.getD t undef::vs,?_,?_⟩
    ·simp only[List.mapM_cons,Sem.run_bind,rF,Sem.run_pure,Result.andThen_ok,k1]
    ·simp only[aI];exact ⟨_,vs,cs,rfl,k3,k4,k2⟩
  |cell ad t =>
   simp only[iQ] at hc
   split at hc
   ·rename_i s ls' hk hl'
    simp only[Option.some.injEq] at hc
    subst hc
    cases xs with
    |nil=>simp[mN] at hr
    |cons y ys =>
     simp only[mN] at hr
     obtain ⟨⟨x,h1,h2⟩,h3⟩:=hr
     obtain ⟨vs,k1,k2⟩:=yB hs hu hw ar hE' rs ls' ys hl' h3
     simp only[tV] at h1
     split at h1
     ·rename_i z hz
      split at h1
      ·rename_i hok
       simp only[Option.some.injEq] at h1
       subst h1
       obtain ⟨b,off,cs,q1,q2,q3⟩:=hs.Af (hs.dZ ad) hz
       obtain ⟨v,q4,q5⟩:=Ms hk hok q2 q3
       obtain ⟨cs',k3,k4⟩:=fin1 q5 h2
       refine ⟨v::vs,?_,?_⟩
       ·have e:(rF a.tmps (.cell ad t)).run c.P w=.ok v w:=by
         simp only[rF,Sem.run_bind,q1,asAddr,Sem.run_pure,Result.andThen_ok,q4]
        simp only[List.mapM_cons,Sem.run_bind,Sem.run_pure,Result.andThen_ok,k1,e]
       ·simp only[aI];exact ⟨_,vs,cs',rfl,k3,k4,k2⟩
      ·cases h1
     ·cases h1
   ·cases hc
theorem aS.TV{c:cJ}{A:ab}{a:Act}{w:World}{D:aQ}{E:aU}(h:aS c A a w D E){B:Nat}{ds:List Deferred}(hd:a.defers = { target:=.collected B,args := #[] } :: ds) :
  w.heap[B]?=some (.deferred (some []))∧aS c A { a with defers:=ds } (w.putObj B (.deferred none)) D E:=by
 obtain ⟨Bs,h1,h2,h3⟩:=h.eQ
 rw[hd] at h1
 cases Bs with
 |nil=>cases h1
 |cons B' Bs =>
  simp only[List.map_cons,List.cons.injEq,Deferred.mk.injEq,Target.collected.injEq,and_true] at h1
  obtain ⟨rfl,rfl⟩:=h1
  have hB:=h3 B (by simp)
  have hlt:B<w.heap.size:=(Array.getElem?_eq_some_iff.1 hB.2).1
  have hl:dN w D E (w.putObj B (.deferred none)) D E :=
   ⟨fun _ _ h=>h,fun b o v _ hv=>vu hB.2 rfl hv,fun _ _ _ h=>h,fun _ aD l h=>⟨aD,l,h,Nat.le_refl _,fun _=>rfl⟩,fun _ _ h=>h,fun _ _ h=>h,fun b es ck _ hm=>(World.putObj_heap_other (fun e=>by rw[e,hB.2] at hm;cases hm)).trans hm⟩
  have hne:∀ {b:Nat} {cs:Array Value} {T:TypeId},w.heap[b]?=some (.cells cs T (0,0))→(w.putObj B (.deferred none)).heap[b]?=w.heap[b]?:=fun {b cs T} hb =>
   World.putObj_heap_other (fun e=>by rw[e,hB.2] at hb;cases hb)
  refine ⟨hB.2,h.sz,⟨Bs,rfl,(List.nodup_cons.1 h2).2,fun B2 hB2=>⟨(h3 B2 (by simp[hB2])).1,?_⟩⟩,fun t=>aT.bJ hl (h.dZ t),h.dO.trans ⟨rfl,rfl,rfl,by simp,fun k hk =>?_⟩,h.c5,fun b o hd=>by have:=h.c9 b o hd;simpa using this,fun n =>?_,h.cS,h.dR,h.eV,h.cF,h.eX,h.kZ hl⟩
  ·rw[World.putObj_heap_other (fun e=>(List.nodup_cons.1 h2).1 (by rw[←e];exact hB2))]
   exact (h3 B2 (by simp[hB2])).2
  ·exact World.putObj_heap_other (fun e=>hk (e▸.inl hB.1))
  ·refine (h.bQ n).bJ hl rfl fun e b he hb=>⟨?_,fun _ h=>h⟩
   have hob:=h.bQ n
   unfold c8 at hob
   split at hob
   ·rw[hob] at he;cases he
   ·obtain ⟨b',cs,T,k1,_,k3,_⟩:=hob
    rw[k1,Option.some.injEq] at he
    subst he
    simp only[bR.aD,Option.some.injEq] at hb
    subst hb
    exact hne k3
   ·obtain ⟨aD,k1,_,k3⟩:=hob
    rw[k1,Option.some.injEq] at he
    subst he
    split at k3
    ·simp[bR.aD] at hb
    ·obtain ⟨cs,pre,rest,_,k5,_⟩:=k3
     simp only[bR.aD,Option.some.injEq] at hb
     subst hb
     exact hne k5
   ·obtain ⟨b',k1,_,k3,k4,_⟩:=hob
    rw[k1,Option.some.injEq] at he
    subst he
    simp only[bR.aD,Option.some.injEq] at hb
    subst hb
    exact World.putObj_heap_other (fun e=>by rw[e,hB.2] at k3;cases k3;cases k4)
   ·obtain ⟨b',es,ck,k1,_,k3,_⟩:=hob
    rw[k1,Option.some.injEq] at he
    subst he
    cases hb
    exact World.putObj_heap_other (fun e=>by rw[e,hB.2] at k3;cases k3)
   ·obtain ⟨r,b',es,ck,si,se,la,k1,_,k3,_⟩:=hob
    rw[k1,Option.some.injEq] at he
    subst he
    cases hb
    exact World.putObj_heap_other (fun e=>by rw[e,hB.2] at k3;cases k3)
   ·obtain ⟨aD,k1,_,k3⟩:=hob
    rw[k1,Option.some.injEq] at he
    subst he
    split at k3
    ·simp[bR.aD] at hb
    ·obtain ⟨cs,m,_,k5,_⟩:=k3
     simp only[bR.aD,Option.some.injEq] at hb
     subst hb
     exact hne k5
def uR(w:World)(D:aQ)(E:aU)(post:cN)(v:Value)(w':World):Prop :=
 ∃ D' E' r os',post r os'∧aT w' D' E' r v∧lg (fun b=>w.heap.size≤b∨dy E b) w' D' E' (ai os') ∧
  fK (fun b=>w.heap.size≤b∨dy E b) w w'∧(∀ b o,D b o→D' b o)∧(∀ b o,D' b o→b<w'.heap.size)∧(∀ b o,D' b o→b<w.heap.size→¬ dy E b→D b o) ∧
  (∀ n e,E n=some e→ao os' n=true→∃ e',E' n=some e'∧e.le e')∧iv w D w'
theorem aS.Jg{P:Program}{n:Nat}{w:World}{D:aQ}{E:aU}{Y:Value→List I→List (Nat×ah)→cN→Prop}{kj:Option Nat}{A:ab}{a:Act}{w':World}{D':aQ}{E':aU}
  (hs:aS ⟨P,w,D,n,dy E,E,Y,kj⟩ A a w' D' E') {os:List (Nat×ah)} (h1:∀ n x,ai os n=some x→A.o n=some x∧x.only (ao os)=true∧x.eO=true) :
  ∃ D2 E2,iw true (A.kX os) D' E' D2∧(∀ n,ao os n=true→E2 n=E' n)∧(∀ n,ao os n=false→E2 n=none)∧lg (fun b=>w.heap.size≤b∨dy E b) w' D2 E2 (ai os) ∧
   fK (fun b=>w.heap.size≤b∨dy E b) w w'∧(∀ b o,D b o→D2 b o)∧(∀ b o,D2 b o→b<w'.heap.size)∧(∀ b o,D2 b o→b<w.heap.size→¬ dy E b→D b o) ∧
   (∀ n e,E n=some e→ao os n=true→∃ e',E2 n=some e'∧e.le e')∧iv w D w':=by
 obtain ⟨c,hc⟩:∃ c:cJ,c=⟨P,w,D,n,dy E,E,Y,kj⟩:=⟨_,rfl⟩
 rw[←hc] at hs
 have hM:c.fj=fun b=>w.heap.size≤b∨dy E b:=by rw[hc];rfl
 obtain ⟨E2,hE2⟩:∃ E2:aU,E2=fun n=>if ao os n then E' n else none:=⟨_,rfl⟩
 obtain ⟨D2,hD2⟩:∃ D2:aQ,D2=fun b o=>b<w'.heap.size∧(D' b o∨(¬ dy E2 b∧c.fj b)):=⟨_,rfl⟩
 have e2:∀ n,ao os n=true→E2 n=E' n:=fun n hn=>by rw[hE2];simp only[hn,if_true]
 have cut:∀ n e,E2 n=some e→ao os n=true∧E' n=some e:=fun n e he=>by
  rw[hE2] at he
  simp only at he
  split at he
  ·exact ⟨by assumption,he⟩
  ·cases he
 have up2:∀ b o,D' b o→D2 b o:=fun b o hd=>by
  rw[hD2]
  exact ⟨hs.c9 b o hd,.inl hd⟩
 have down:∀ b o,D2 b o→dy E2 b→D' b o:=fun b o hd hb=>by
  rw[hD2] at hd
  rcases hd.2 with h | h
  ·exact h
  ·exact absurd hb h.1
 have hu:ef (A.kX os) A:=fun n x hx=>by
  simp only[ab.kX] at hx
  split at hx
  ·cases hx
  ·exact hx
 have notOwn:∀ n e b,(A.kX os).o n≠none→E' n=some e→e.aD=some b→¬ dy E2 b:=fun n e b hn he hb ho=>by
  obtain ⟨m,e',k1,k3⟩:=ho
  obtain ⟨k1,k2⟩:=cut m e' k1
  have:=hs.cS n m e _ b he k2 hb k3
  subst this
  simp[ab.kX,k1] at hn
 have hw:iw true (A.kX os) D' E' D2:=by
  refine ⟨up2,fun n T sz es b cap hn ar o _ =>?_,fun _ n x b aR hn ar o _ =>?_,fun _ n ks vs b hn ar =>?_⟩
  ·rw[hD2]
   refine ⟨hs.fQ ar rfl,.inr ⟨notOwn n _ b (by rw[hn];simp) ar rfl,?_⟩⟩
   obtain ⟨aD,k1,k2,k3⟩:=hs.bT (hu n _ hn)
   rw[ar] at k1
   simp only[Option.some.injEq,bR.rw.injEq,and_true] at k1
   subst k1
   obtain ⟨_,_,_,k4,_⟩:=k3
   exact k4
  ·rw[hD2]
   refine ⟨hs.fQ ar rfl,.inr ⟨notOwn n _ b (by rw[hn];simp) ar rfl,?_⟩⟩
   obtain ⟨b',cs,T,k1,k2,_⟩:=hs.box (hu n _ hn)
   rw[k1] at ar
   simp only[Option.some.injEq,bR.aB.injEq] at ar
   obtain ⟨rfl,_⟩:=ar
   exact k2
  ·rw[hD2]
   refine ⟨hs.fQ ar rfl,.inr ⟨notOwn n _ b (by rw[hn];simp) ar rfl,?_⟩⟩
   obtain ⟨b',es,ck,k1,k2,_⟩:=hs.map (hu n _ hn)
   rw[k1] at ar
   cases ar
   exact k2
 have hst:iv w D w':=by
  have:=hs.fE
  rw[hc] at this
  exact this
 refine ⟨D2,E2,hw,e2,fun n hn=>by rw[hE2];simp[hn],⟨fun m =>?_,fun m m' e e' b g1 g2 g3 g4 =>?_⟩,?_,fun b o hd=>up2 b o (hs.cF b o (by rw[hc];exact hd)),fun b o hd=>by rw[hD2] at hd;exact hd.1,fun b o hd hlt hno =>?_,fun m e hm hin =>?_,hst⟩
 ·cases hx:ai os m with
  |none=>simp only[c8];rw[hE2];simp[ao,hx]
  |some x =>
   have hm:ao os m=true:=by simp[ao,hx]
   obtain ⟨k1,k2,k3⟩:=h1 m x hx
   have ho:=hs.bQ m
   rw[k1] at ho
   have hl2:dN w' D' E2 w' D2 E2:=⟨up2,fun _ _ _ _ h=>h,fun _ _ _ h=>h,fun _ aD l h=>⟨aD,l,h,Nat.le_refl _,fun _=>rfl⟩,fun _ _ h=>h,fun _ _ h=>h,fun _ _ _ _ h=>h⟩
   have nD:∀ e b,E' m=some e→e.aD=some b→∀ o,D2 b o→D' b o:=fun e b he hb o hd=>down b o hd ⟨m,e,(e2 m hm).trans he,hb⟩
   cases x with
   |bT T sz es =>
    obtain ⟨aD,q1,q2,q3⟩:=ho
    refine ⟨aD,(e2 m hm).trans q1,q2,?_⟩
    cases aD with
    |none=>exact q3
    |some bc =>
     obtain ⟨b,cap⟩:=bc
     obtain ⟨cs,pre,rest,g1,g2,g3,g4,g5,g6,g7,g8⟩:=q3
     exact ⟨cs,pre,rest,by rw[←hM];exact g1,g2,g3,aJ.bJ hl2 _ _ (aJ.dD e2 _ _ (by simpa[ah.only] using k2) g4),g5,g6,g7,fun o hd=>g8 o (nD _ b q1 rfl o hd)⟩
   |box y =>
    obtain ⟨b',cs,T,q1,q2,q3,q4,q5⟩:=ho
    exact ⟨b',cs,T,(e2 m hm).trans q1,by rw[←hM];exact q2,q3,af.bJ hl2 _ _ (af.dD e2 _ _ (by simpa[ah.only] using k2) q4),fun o hd=>q5 o (nD _ b' q1 rfl o hd)⟩
   |dL o =>
    obtain ⟨b',q1,q2,q3,q4,q5⟩:=ho
    exact ⟨b',(e2 m hm).trans q1,by rw[←hM];exact q2,q3,q4,fun o hd=>q5 o (nD _ b' q1 rfl o hd)⟩
   |ct ks vs =>
    obtain ⟨b',es,ck,q1,q2,q3,q4,q5,q6,q7⟩:=ho
    simp only[ah.only,Bool.and_eq_true] at k2
    exact ⟨b',es,ck,(e2 m hm).trans q1,by rw[←hM];exact q2,q3,q4,aI.bJ hl2 _ _ (aI.dD e2 _ _ k2.1 q5),aI.bJ hl2 _ _ (aI.dD e2 _ _ k2.2 q6),fun o hd=>q7 o (nD _ b' q1 rfl o hd)⟩
   |it ks vs left cur=>cases k3
   |cM T xs =>
    obtain ⟨aD,q1,q2,q3⟩:=ho
    refine ⟨aD,(e2 m hm).trans q1,q2,?_⟩
    cases aD with
    |none=>exact q3
    |some bc =>
     obtain ⟨b,cap⟩:=bc
     obtain ⟨cs,r,g1,g2,g3,g4,g5,g6,g7⟩:=q3
     exact ⟨cs,r,by rw[←hM];exact g1,g2,g3,g4,g5,g6,fun o hd=>g7 o (nD _ b q1 rfl o hd)⟩
 ·exact hs.cS m m' e e' b (cut m e g1).2 (cut m' e' g2).2 g3 g4
 ·rw[←hM]
  have:=hs.dO
  rw[hc] at this ⊢
  exact this
 ·rw[hD2] at hd
  have hnm:¬ c.fj b:=by
   rw[hM]
   rintro (h | h)
   ·omega
   ·exact hno h
  rcases hd.2 with h | h
  ·have:=hs.c5 b o h hnm
   rw[hc] at this;exact this
  ·exact absurd h.2 hnm
 ·rw[e2 m hin]
  have ho:A.o m≠none:=by
   cases hx:ai os m with
   |none=>simp[ao,hx] at hin
   |some x=>rw[(h1 m x hx).1];simp
  rcases hs.dR m e (by rw[hc];exact hm) with h | h
  ·have hob:=hs.bQ m
   cases hx:A.o m with
   |none=>exact absurd hx ho
   |some x=>rw[hx] at hob;exact absurd h (tG hob)
  ·exact h
theorem aS.ait{P:Program}{n:Nat}{w:World}{D:aQ}{E:aU}{Y:Value→List I→List (Nat×ah)→cN→Prop}{rs:List aZ}{post:cN}{fn:Func}{A:ab}{a:Act}{w':World}{D':aQ}{E':aU}
  (hs:aS ⟨P,w,D,n,dy E,E,Y,none⟩ A a w' D' E') (hrs:iQ P fn.results.toList=some rs) (h:lh rs post A):∃ v,(results fn a.tmps).run P w'=.ok v w'∧uR w D E post v w':=by
 obtain ⟨os,xs,h1,h2,h3⟩:=h
 obtain ⟨D2,E2,hw,e2,e2n,q1,q2,q3,q4,q5,q6⟩:=hs.Jg h1
 have hu:ef (A.kX os) A:=fun n x hx=>by
  simp only[ab.kX] at hx
  split at hx
  ·cases hx
  ·exact hx
 obtain ⟨vs,k1,k2⟩:=yB hs hu (os:=os) (E':=E2) hw e2 e2n fn.results.toList rs xs hrs h2
 have hres:(results fn a.tmps).run P w'=.ok (if h:vs.toArray.size=1 then vs.toArray[0] else .tuple vs.toArray) w':=by
  rw[akX,Sem.run_bind,Array.mapM_eq_mapM_toList,Sem.run_map,k1]
  rfl
 refine ⟨_,hres,D2,E2,kT xs,os,h3,?_,q1,q2,q3,q4,q5,q6⟩
 match xs,vs,k2 with
 | [x],vs,k2 =>
  simp only[aI] at k2
  obtain ⟨v,rest,cs,rfl,q1,q2,rfl⟩:=k2
  simpa[kT] using mE q1 q2
 | [],vs,k2 =>
  simp only[aI] at k2
  subst k2
  simp[kT,aT,aI]
 |x::y::xs,vs,k2 =>
  have hl:vs.length≠1:=by
   simp only[aI] at k2
   obtain ⟨v,rest,cs,rfl,_,_,v2,rest2,cs2,rfl,_⟩:=k2
   simp
  simp only[kT,aT]
  exact ⟨vs,by simp[hl],k2⟩
theorem Jh{P:Program}{n:Nat}{w:World}{D:aQ}{E:aU}{Y:Value→List I→List (Nat×ah)→cN→Prop}{rs:List aZ}{post:cN}{fn:Func}{A:ab}{D':aQ}{E':aU}(hrs:iQ P fn.results.toList=some rs)(h:lh rs post A) :
  ∀ (ds:List Deferred) (a:Act) (w':World),a.defers=ds→aS ⟨P,w,D,n,dy E,E,Y,none⟩ A a w' D' E'→LeavesInM Fence.wide 9 P fn a.tmps (fun e w'=>∃ v,e=.returned v∧uR w D E post v w') ds .returning w'
 | [],a,w',_,hs=>by
  obtain ⟨v,h1,h2⟩:=hs.ait hrs h
  exact ⟨v,h1,v,rfl,h2⟩
 |d::ds,a,w',hd,hs=>by
  obtain ⟨Bs,h1,_⟩:=hs.eQ
  rw[hd] at h1
  cases Bs with
  |nil=>cases h1
  |cons B Bs =>
   simp only[List.map_cons,List.cons.injEq] at h1
   obtain ⟨rfl,rfl⟩:=h1
   obtain ⟨k1,k2⟩:=hs.TV hd
   exact ⟨by simp,.inl ⟨B,_,rfl,run_takeDeferred k1,Jh hrs h _ { a with defers:=Bs.map _ } _ rfl k2⟩⟩
theorem yO{w:World}{D:aQ}{E:aU} : ∀ {args:List I} {vs:List Value},aI w D E args vs→vs.length=args.length
 | [],vs,h=>by simp only[aI] at h;subst h;rfl
 |x::xs,vs,h=>by
  simp only[aI] at h
  obtain ⟨v,rest,cs,rfl,_,_,h3⟩:=h
  simp[yO h3]
def ky(P:Program)(f:FuncId)(Y:Value→List I→List (Nat×ah)→cN→Prop)(args:List I)(os:List (Nat×ah))(post:cN):Prop :=
 gR P f=true∧∀ (w:World) (D:aQ) (E:aU) (vs:List Value),(∀ n,oZ ⟨P,w,D,n,dy E,E,Y,none⟩)→(∀ b o,D b o→b<w.heap.size)→lg (fun _=>True) w D E (ai os)→aI w D E args vs →
  Calls P f vs.toArray w fun e w'=>∃ v,e=.returned v∧uR w D E post v w'
theorem ky.tH{P:Program}{f:FuncId}{fn:Func}{body:Code}{x:aO}{rs:List aZ}{Y:Value→List I→List (Nat×ah)→cN→Prop}{args:List I}{os:List (Nat×ah)}{post:cN}(hf:P.funcs[f]?=some fn)(hb:fn.body=some body)(hcall:gR P f=true)(hc:eY P fn.ntmps body=some x)
  (hrs:iQ P fn.results.toList=some rs) (hn:args.length≤fn.ntmps) (hos:∀ m,ao os m=true→fn.ntmps≤m∧1000000≤m) (h:∀ (w:World) (D:aQ) (E:aU),J ⟨P,w,D,fn.ntmps,dy E,E,Y,none⟩ x (nH rs post) (qg args os)):ky P f Y args os post:=by
 refine ⟨hcall,fun w D E vs hy hD ho hv =>?_⟩
 have hlen:=yO hv
 have hsim:=alO (P:=P) (n:=fn.ntmps) (Y:=Y) hD ho hv (by omega) hos (hy fn.ntmps)
 refine (callsIn_wide (n:=9)).1 (callsIn_of_wp_marks hf hb trivial ?_)
 refine wpIn_mono (h w D E body hc _ w ⟨D,E,hsim⟩) ?_
 rintro e a w' ⟨A,hq,D',E',hs⟩
 cases e <;>simp only[nH] at hq <;>first
  |exact Jh hrs hq a.defers a w' rfl hs
  |cases hq
theorem ame{P:Program}{w:World}{D:aQ}{E:aU}{n:Nat} : oZ ⟨P,w,D,n,dy E,E,iC,none⟩:=fun _ _ _ _ h=>h.elim
theorem cz.JE{P:Program}{f:FuncId}{args:List I}{os:List (Nat×ah)}{post:cN}(h:ky P f iC args os post):cz P f args os post :=
 ⟨h.1,fun w D E vs _ hD ho hv=>(h.2 w D E vs (fun _=>ame) hD ho hv).mono fun e w' ⟨v,he,D',E',r,os',k⟩=>⟨v,D',E',r,os',he,k⟩⟩
theorem av.ajK{P:Program}{f:FuncId}{args:List I}{r:I}(h:cz P f args [] (fun r' os'=>r'=r∧os'=[])):av P f args r:=by
 refine ⟨h.1,fun w D vs hD hv =>?_⟩
 have hh:lg (fun _=>True) w D dE (ai []):=⟨fun n=>rfl,fun n m e e' b h=>by simp[dE] at h⟩
 refine (h.2 w D dE vs trivial hD hh hv).mono fun e w' hq =>?_
 obtain ⟨v,D',E',r',os',he,⟨h1,h2⟩,k1,k2,k3,k4,k5,k6,_⟩:=hq
 subst h1 h2
 refine ⟨v,D',he,?_,?_,k5,fun b o hd hlt=>k6 b o hd hlt fun ⟨n,e,h,_⟩=>by simp[dE] at h⟩
 ·have:E'=dE:=by funext n;exact k2.bQ n
  rw[←this];exact k1
 ·exact k3.Py fun k hk hm=>by
   rcases hm with hm | ⟨n,e,h,_⟩
   ·omega
   ·simp[dE] at h
theorem ald(A:ab):A.kX []=A:=rfl
theorem Mi{A:ab} : ∀ {rs:List aZ} {xs:List I},ff A rs=some xs→mN A (A.kX []) [] rs xs
 | [],xs,h=>by simp only[ff,Option.some.injEq] at h;subst h;trivial
 |r::rs,xs,h=>by
  simp only[ff] at h
  split at h
  ·rename_i x xs' h1 h2
   simp only[Option.some.injEq] at h
   subst h
   refine ⟨?_,Mi h2⟩
   rw[ald]
   cases r with
   |tmp t=>exact ⟨_,rfl,.inr h1⟩
   |cell a s =>
    simp only[ud,tV] at h1 ⊢
    split at h1
    ·rename_i y hy
     split at h1
     ·rename_i hok
      exact ⟨y,by simp[hok],.inr h1⟩
     ·cases h1
    ·cases h1
  ·cases h
theorem akY{rs:List aZ}{r:I}{e:Exit}{A:ab}(h:jB rs r e A):nH rs (fun r' os'=>r'=r∧os'=[]) e A:=by
 cases e <;>simp only[jB] at h <;>first
  |exact h.elim
  |(obtain ⟨xs,h1,h2⟩:=h
    exact ⟨[],xs,fun n x hx=>by simp[ai] at hx,Mi h1,h2,rfl⟩)
theorem av.tH{P:Program}{f:FuncId}{fn:Func}{body:Code}{x:aO}{rs:List aZ}{args:List I}{r:I}(hf:P.funcs[f]?=some fn)(hb:fn.body=some body)(hcall:gR P f=true)(hc:eY P fn.ntmps body=some x)
  (hrs:iQ P fn.results.toList=some rs) (hn:args.length≤fn.ntmps) (h:∀ (w:World) (D:aQ) (E:aU),J ⟨P,w,D,fn.ntmps,dy E,E,iC,none⟩ x (jB rs r) (oR args)):av P f args r:=by
 refine av.ajK (cz.JE (ky.tH hf hb hcall hc hrs hn (fun m hm=>by simp[ao,ai] at hm) fun w D E =>?_))
 exact (h w D E).mono fun e B hq=>akY hq
end Go.Abs
namespace Go.Abs
open Go Go.RowKit
def aX(ts:List (Nat×I)):List (Nat×I)→Prop
 | []=>True
 |(k,v)::r=>bH ts k=v∧aX ts r
def bO(os:List (Nat×ah)):List (Nat×ah)→Prop
 | []=>True
 |(k,v)::r=>ai os k=some v∧bO os r
def bM(p:Nat→Bool):List (Nat×I)→Prop
 | []=>True
 |(_,v)::r=>v.only p=true∧bM p r
theorem y5{ts:List (Nat×I)} : ∀ {ts':List (Nat×I)},aX ts ts'→∀ k,bH ts' k=.c7∨bH ts' k=bH ts k
 | [],_,k=>.inl rfl
 |(j,v)::r,h,k=>by
  simp only[aX] at h
  simp only[bH]
  split
  ·rename_i hk;subst hk;exact .inr h.1.symm
  ·exact y5 h.2 k
theorem MY{os:List (Nat×ah)} : ∀ {os':List (Nat×ah)},bO os os'→∀ k,ai os' k=none∨ai os' k=ai os k
 | [],_,k=>.inl rfl
 |(j,v)::r,h,k=>by
  simp only[bO] at h
  simp only[ai]
  split
  ·rename_i hk;subst hk;exact .inr h.1.symm
  ·exact MY h.2 k
theorem JS{p:Nat→Bool} : ∀ {ts:List (Nat×I)},bM p ts→∀ k,(bH ts k).only p=true
 | [],_,k=>by simp[bH,I.only]
 |(j,v)::r,h,k=>by
  simp only[bM] at h
  simp only[bH]
  split
  ·exact h.1
  ·exact JS h.2 k
theorem JR{p:Nat→Bool} : ∀ {os:List (Nat×ah)},bt p os→∀ k x,ai os k=some x→x.only p=true
 | [],_,k,x,hx=>by simp[ai] at hx
 |(j,v)::r,h,k,x,hx=>by
  simp only[bt] at h
  simp only[ai] at hx
  split at hx
  ·simp only[Option.some.injEq] at hx;subst hx;exact h.1
  ·exact JR h.2 k x hx
theorem aC.bZ{ts ts':List (Nat×I)}{os os':List (Nat×ah)}(h1:aX ts ts')(h2:bO os os')(h3:bM (ao os') ts')(h4:bt (ao os') os'):aC (aq ts os) (aq ts' os'):=by
 rintro c a w ⟨D,E,hs⟩
 have hp:∀ n,ao os' n=true→(if ao os' n then E n else none)=E n:=fun n hn=>by simp[hn]
 refine ⟨D,fun n=>if ao os' n then E n else none,hs.sz,hs.eQ,fun t =>?_,hs.dO,hs.c5,hs.c9,fun n =>?_,fun n m e e' b h1 h2 h3 h4 =>?_,fun n e hn =>?_,hs.eV,hs.cF,hs.eX,hs.fE⟩
 ·have:=y5 h1 t
  rcases this with h | h
  ·simp only[aq];rw[h];simp[aT]
  ·refine aT.dD (p:=ao os') hp (JS h3 t) ?_
   have:=hs.dZ t
   simp only[aq] at *
   rw[h];exact this
 ·have ho:=hs.bQ n
  simp only[aq] at *
  rcases MY h2 n with h | h
  ·rw[h];simp[c8,ao,h]
  ·rw[h]
   by_cases hin:ai os n=none
   ·rw[hin];simp[c8,ao,h,hin]
   ·have ar:(if ao os' n then E n else none)=E n:=hp n (by simp[ao,h];cases hh:ai os n <;>simp_all)
    cases hx:ai os n with
    |none=>exact absurd hx hin
    |some x =>
     have hon:=JR h4 n x (h.trans hx)
     rw[hx] at ho
     cases x with
     |box x =>
      obtain ⟨b,cs,T,k1,k2,k3,k4,k5⟩:=ho
      exact ⟨b,cs,T,ar.trans k1,k2,k3,af.dD hp _ _ (by simpa[ah.only] using hon) k4,k5⟩
     |bT T sz es =>
      obtain ⟨aD,k1,k2,k3⟩:=ho
      refine ⟨aD,ar.trans k1,k2,?_⟩
      cases aD with
      |none=>exact k3
      |some bc =>
       obtain ⟨b,cap⟩:=bc
       obtain ⟨cs,pre,rest,q1,q2,q3,q4,q5⟩:=k3
       exact ⟨cs,pre,rest,q1,q2,q3,aJ.dD hp _ _ (by simpa[ah.only] using hon) q4,q5⟩
     |cM T xs =>
      obtain ⟨aD,k1,k2,k3⟩:=ho
      exact ⟨aD,ar.trans k1,k2,k3⟩
     |dL x =>
      obtain ⟨b,k1,k2⟩:=ho
      exact ⟨b,ar.trans k1,k2⟩
     |ct ks vs =>
      obtain ⟨b,es,ck,k1,k2,k3,k4,k5,k6,k7⟩:=ho
      simp only[ah.only,Bool.and_eq_true] at hon
      exact ⟨b,es,ck,ar.trans k1,k2,k3,k4,aI.dD hp _ _ hon.1 k5,aI.dD hp _ _ hon.2 k6,k7⟩
     |it ks vs left cur =>
      obtain ⟨r,b,es,ck,si,se,la,k1,k2,k3,k4,k5,k6,k7⟩:=ho
      simp only[ah.only,Bool.and_eq_true] at hon
      exact ⟨r,b,es,ck,si,se,la,ar.trans k1,k2,k3,k4,aI.dD hp _ _ hon.1 k5,aI.dD hp _ _ hon.2 k6,k7⟩
 ·refine hs.cS n m e e' b ?_ ?_ h3 h4
  ·split at h1
   ·exact h1
   ·cases h1
  ·split at h2
   ·exact h2
   ·cases h2
 ·by_cases hi:ao os' n=true
  ·simp only[hi,if_true];exact hs.dR n e hn
  ·simp only[hi];exact .inl rfl
def a6:Nat→List I→List (Nat×I)
 |_,[]=>[]
 |k,a::as=>(k,a)::a6 (k+1) as
theorem Jq:∀ (as:List I) (k t:Nat),bH (a6 k as) t=if t<k then .c7 else (as[t-k]?).getD .c7
 | [],k,t=>by simp[a6,bH]
 |a::as,k,t=>by
  simp only[a6,bH,Jq as (k+1) t]
  by_cases h:t=k
  ·subst h;simp
  ·rw[if_neg h]
   by_cases h2:t<k
   ·rw[if_pos (by omega),if_pos h2]
   ·rw[if_neg (by omega),if_neg h2,show t-k=(t-(k+1))+1 from by omega]
    simp
theorem MX(args:List I)(os:List (Nat×ah)):aC (qg args os) (aq (a6 0 args) os):=by
 rintro c a w ⟨D,E,hs⟩
 refine ⟨D,E,hs.sz,hs.eQ,fun t =>?_,hs.dO,hs.c5,hs.c9,hs.bQ,hs.cS,hs.dR,hs.eV,hs.cF,hs.eX,hs.fE⟩
 have:=hs.dZ t
 simp only[aq,Jq,qg,Nat.not_lt_zero,if_false,Nat.sub_zero] at *
 cases h:args[t]? with
 |none=>simp[aT]
 |some x=>simpa[List.getD_eq_getElem?_getD,h] using this
theorem alN(args:List I):aC (oR args) (aq (a6 0 args) []):=MX args []
theorem tu(ts:List (Nat×I))(os:List (Nat×ah))(d:Nat)(v:I):(aq ts os).put d v=aq ((d,v)::ts) os:=rfl
theorem tv(ts:List (Nat×I))(os:List (Nat×ah))(d:Nat)(v:I):(aq ts os).aP (some d) v=aq ((d,v)::ts) os:=rfl
theorem aiN(A:ab)(v:I):A.aP none v=A:=rfl
theorem lO(ts:List (Nat×I))(os:List (Nat×ah))(d:Nat)(x:ah):(aq ts os).aN d x=aq ts ((d,x)::os):=rfl
theorem aiO(ts:List (Nat×I))(os:List (Nat×ah))(k:Nat):(aq ts os).t k=bH ts k:=rfl
theorem aiM(ts:List (Nat×I))(os:List (Nat×ah))(k:Nat):(aq ts os).o k=ai os k:=rfl
theorem aW(j:Nat)(v:I)(r:List (Nat×I))(k:Nat):bH ((j,v)::r) k=if k=j then v else bH r k:=rfl
theorem cA(j:Nat)(v:ah)(r:List (Nat×ah))(k:Nat):ai ((j,v)::r) k=if k=j then some v else ai r k:=rfl
theorem tl(k:Nat):ai [] k=none:=rfl
theorem XB(A:ab)(k:Nat):ae A (.t k)=A.t k:=rfl
theorem Xz(A:ab)(x:I):ae A (.c x)=x:=rfl
noncomputable def db(d:Option Nat)(rest:List az)(A:ab)(v:I):cI:=ay rest (A.aP d v)
theorem aid(d:Option Nat)(rest:List az)(A:ab)(v:I):db d rest A v=ay rest (A.aP d v):=rfl
theorem PT(v:I)(k:I→cI):cP (some v) k=k v:=rfl
theorem Pg(A:ab):ay [] A=.done A:=rfl
noncomputable def bN(A:ab)(d:Option Nat)(op:b7)(rest:List az):cI:=bp A d op rest (ay rest)
noncomputable def gW(x:I)(b:Bool)(d:Option Nat)(op:b7)(rest:List az)(A:ab):cI :=
 match x with
 | .bool b'=>if b'=b then bN A d op rest else ay rest (A.aP d .undef)
 | .undef=>ay rest (A.aP d .undef)
 |_=>.fail
theorem bj.guard{P:Program}{Y:Value→List I→List (Nat×ah)→cN→Prop}{dr:Bool}{K:ab→Prop}{x b:Bool}{d:Option Nat}{op:b7}{rest:List az}{A:ab}(h1:x=b→bj P Y dr K (bN A d op rest))(h2:x = !b→bj P Y dr K (ay rest (A.aP d .undef))):bj P Y dr K (gW (.bool x) b d op rest A):=by
 unfold gW
 by_cases h:x=b
 ·simp only[if_pos h];exact h1 h
 ·simp only[if_neg h];exact h2 (by cases x <;>cases b <;>simp_all)
def I.dn:I→Option (List I)
 | .agg fs=>some fs
 |_=>none
def nU(p:List Nat):Option I→Option I
 |some f=>f.at p
 |none=>none
def jt(i:Nat)(p:List Nat):Option (List I)→Option I
 |some fs=>nU p fs[i]?
 |none=>none
theorem m7(c:I):c.at []=some c:=by cases c <;>rfl
theorem Pv(c:I)(i:Nat)(p:List Nat):c.at (i::p)=jt i p c.dn:=by
 cases c <;>first | rfl | (rename_i fs;simp only[I.at,jt,I.dn,nU])
def yQ(fs:List I)(i:Nat)(p:List Nat)(v:I):Option I→I
 |some f=>.agg (fs.set i (f.dH p v))
 |none=>.agg fs
def uj(c:I)(i:Nat)(p:List Nat)(v:I):Option (List I)→I
 |some fs=>yQ fs i p v fs[i]?
 |none=>c
theorem gP(c v:I):c.dH [] v=v:=by cases c <;>rfl
theorem ale(c:I)(i:Nat)(p:List Nat)(v:I):c.dH (i::p) v=uj c i p v c.dn:=by
 cases c <;>first | rfl | (rename_i fs;simp only[I.dH,uj,I.dn];cases fs[i]? <;>rfl)
def fo(p:List Nat):Option ah→Option I
 |some (.box c)=>c.at p
 |_=>none
def gS(A:ab):I→Option I
 | .ref x=>some x
 | .ptr n p=>fo p (A.o n)
 |_=>none
theorem mj(A:ab)(x:I):cu A x=gS A x:=by
 cases x <;>first | rfl | (rename_i n p;simp only[cu,gS];cases A.o n with | none=>rfl | some y=>cases y <;>rfl)
def df(s:Option Nat)(x:I):Option I:=if b6 s x=true then some x else none
def gM(s:Option Nat):Option I→Option I
 |some x=>df s x
 |none=>none
open Classical in
noncomputable def dK(fs:List I)(f off:Nat)(y:I):Option I:=if f<fs.length∧I.sizes (fs.take f)=off then some y else none
noncomputable def qG(n:Nat)(p:List Nat)(f off:Nat):Option (List I)→Option I
 |some fs=>dK fs f off (.ptr n (p++[f]))
 |none=>none
noncomputable def pA(fs:List I)(f off:Nat):Option I→Option I
 |some v=>dK fs f off (.ref v)
 |none=>none
noncomputable def qH(f off:Nat):Option (List I)→Option I
 |some fs=>pA fs f off fs[f]?
 |none=>none
def fC:Option I→Option (List I)
 |some x=>x.dn
 |none=>none
noncomputable def lE(A:ab)(f off:Nat):I→Option I
 | .ref c=>qH f off c.dn
 | .ptr n p=>qG n p f off (fC (fo p (A.o n)))
 |_=>none
theorem akw(A:ab)(f off:Nat)(x:aL):bu A (.fa f off x)=lE A f off (ae A x):=by
 simp only[bu]
 generalize ae A x=y
 cases y with
 |ref c =>
  cases c <;>simp only[lE,I.dn,qH]
  rename_i fs
  cases h:fs[f]? with
  |none=>simp[pA]
  |some v =>
   have hl:f<fs.length:=(List.getElem?_eq_some_iff.1 h).1
   simp only[pA,dK,hl,true_and]

 |ptr n p =>
  simp only[lE,mj,gS]
  cases fo p (A.o n) with
  |none=>simp[fC,qG]
  |some c =>
   cases c <;>simp only[fC,I.dn,qG]
   simp only[dK]

 |_=>simp only[lE]
noncomputable def pB(f off:Nat)(s:Option Nat):Option (List I)→Option I
 |some fs=>match fs[f]? with
  |some v=>(dK fs f off v).bind (df s)
  |none=>none
 |none=>none
theorem akx(A:ab)(f off:Nat)(s:Option Nat)(x:aL):bu A (.fl f off s x)=pB f off s (ae A x).dn:=by
 simp only[bu]
 generalize ae A x=y
 cases y <;>simp only[pB,I.dn]
 rename_i fs
 cases h:fs[f]? with
 |none=>rfl
 |some v =>
  have hl:f<fs.length:=(List.getElem?_eq_some_iff.1 h).1
  simp only[dK,hl,true_and]
  by_cases h1:I.sizes (fs.take f)=off <;>by_cases h2:b6 s v=true <;>simp[h1,h2,df]
open Classical in
noncomputable def iY(k:Int)(n:Nat)(y:Option I):Option I:=if 0≤k∧k<n then y else none
noncomputable def iX(n esz:Nat)(fs:List I)(y:Option I):Option I:=if iB n esz fs=true then y else none
noncomputable def qO(n esz:Nat)(k:Int):Option (List I)→Option I
 |some fs=>iX n esz fs ((fs[k.toNat]?).map .ref)
 |none=>none
noncomputable def qN(n esz m:Nat)(p:List Nat)(k:Int):Option (List I)→Option I
 |some fs=>iX n esz fs (some (.ptr m (p++[k.toNat])))
 |none=>none
noncomputable def oi(A:ab)(n esz:Nat)(k:Int):I→Option I
 | .ref c=>iY k n (qO n esz k c.dn)
 | .ptr m p=>iY k n (qN n esz m p k (fC (fo p (A.o m))))
 |_=>none
noncomputable def qM(A:ab)(n esz:Nat)(x:I):I→Option I
 | .int _ k=>oi A n esz k x
 |_=>none
theorem aky(A:ab)(n esz:Nat)(x i:aL):bu A (.ia n esz x i)=qM A n esz (ae A x) (ae A i):=by
 simp only[bu]
 generalize ae A x=y
 generalize ae A i=z
 cases z <;>simp only[qM]
 rename_i kk k
 cases y with
 |ref c =>
  simp only[oi,iY]
  split
  ·cases c <;>simp only[I.dn,qO,iX]
  ·rfl
 |ptr m p =>
  simp only[oi,iY,mj,gS]
  split
  ·cases fo p (A.o m) with
   |none=>simp[fC,qN]
   |some c=>cases c <;>simp only[fC,I.dn,qN,iX]
  ·rfl
 |_=>simp only[oi];split <;>rfl
open Classical in
noncomputable def ja(m:Nat)(p:List Nat)(sz lo l esz:Nat)(k:Int):Option (List I)→Option I
 |some _=>if sz=esz∧0≤k∧k<l then some (.ptr m (p++[lo+k.toNat])) else none
 |none=>none
open Classical in
noncomputable def gX(A:ab)(esz:Nat)(k:Int):I→Option I
 | .slice sz es=>if sz=esz∧0≤k∧k<es.length then (es[k.toNat]?).map .ref else none
 | .own m l=>match A.o m with
  |some (.bT _ sz es)=>if l=es.length∧sz=esz∧0≤k∧k<es.length then (es[k.toNat]?).map .ref else none
  |_=>none
 | .view m p sz lo l=>ja m p sz lo l esz k (fC (fo p (A.o m)))
 |_=>none
noncomputable def lJ(A:ab)(esz:Nat)(x:I):I→Option I
 | .int _ k=>gX A esz k x
 |_=>none
theorem akz(A:ab)(esz:Nat)(x i:aL):bu A (.is esz x i)=lJ A esz (ae A x) (ae A i):=by
 simp only[bu]
 generalize ae A x=y
 generalize ae A i=z
 cases z <;>simp only[lJ]
 cases y <;>simp only[gX]
 ·split <;>simp_all
 ·rename_i m p sz lo l
  simp only[mj,gS]
  cases fo p (A.o m) with
  |none=>rfl
  |some c=>cases c <;>simp only[fC,I.dn,ja]
noncomputable def qT(n esz:Nat)(s:Option Nat)(k:Int):Option (List I)→Option I
 |some fs=>iY k n (iX n esz fs (gM s fs[k.toNat]?))
 |none=>none
noncomputable def qU(n esz:Nat)(s:Option Nat)(x:I):I→Option I
 | .int _ k=>qT n esz s k x.dn
 |_=>none
theorem akA(A:ab)(n esz:Nat)(s:Option Nat)(x i:aL):bu A (.ix n esz s x i)=qU n esz s (ae A x) (ae A i):=by
 simp only[bu]
 generalize ae A x=y
 generalize ae A i=z
 cases z <;>simp only[qU]
 rename_i kk k
 cases y <;>simp only[I.dn,qT]
 case agg fs =>
  simp only[iY,iX]
  split
  ·split
   ·cases fs[k.toNat]? <;>rfl
   ·rfl
  ·rfl
 all_goals (split <;>rfl)
def kO(A:ab):I→Option I
 | .slice _ es=>some (.int .i64 es.length)
 | .nils _=>some (.int .i64 0)
 | .c0 _=>some (.int .i64 0)
 | .own m l=>match A.o m with | some (.bT _ _ es)=>if l=es.length then some (.int .i64 es.length) else none | _=>none
 | .view _ _ _ _ k=>some (.int .i64 k)
 |_=>none
theorem akC(A:ab)(x:aL):bu A (.len x)=kO A (ae A x):=by
 simp only[bu]
 generalize ae A x=y
 cases y <;>rfl
open Classical in
noncomputable def oT(n esz:Nat)(fs:List I)(y:I):Option I:=if iB n esz fs=true∧n≤maxLen∧n≠0 then some y else none
noncomputable def rP(n esz m:Nat)(p:List Nat):Option (List I)→Option I
 |some fs=>oT n esz fs (.view m p esz 0 n)
 |none=>none
noncomputable def M8(n esz:Nat):Option (List I)→Option I
 |some fs=>oT n esz fs (.slice esz fs)
 |none=>none
noncomputable def oS(A:ab)(n esz:Nat):I→Option I
 | .ptr m p=>rP n esz m p (fC (fo p (A.o m)))
 | .ref c=>M8 n esz c.dn
 |_=>none
theorem akE(A:ab)(n esz:Nat)(x:aL):bu A (.va n esz x)=oS A n esz (ae A x):=by
 simp only[bu]
 generalize ae A x=y
 cases y with
 |ptr m p =>
  simp only[oS,mj,gS]
  cases fo p (A.o m) with
  |none=>simp[fC,rP]
  |some c=>cases c <;>simp only[fC,I.dn,rP,oT] <;>(split <;>simp_all)
 |ref c=>cases c <;>simp only[oS,I.dn,M8,oT] <;>(split <;>simp_all)
 |_=>simp only[oS]
theorem akB(A:ab)(s:Option Nat)(x:aL):bu A (.ld s x)=gM s (gS A (ae A x)):=by
 simp only[bu,mj]
 cases gS A (ae A x) <;>simp only[gM,df]
noncomputable def rq(A:ab)(d:Option Nat)(a b:aL)(rest:List az):I→cI
 | .bool t=>ay rest (A.aP d (if t then ae A a else ae A b))
 |_=>.fail
noncomputable def rO(op:UnOp)(x:I):Option I:=match op,x with
  | .not,.bool b=>some (.bool !b)
  | .neg,.int k n=>some (.int k (k.wrap (0-n)))
  | .xor,.int k n=>some (.int k (po k n))
  |_,_=>none
def vO(i:Nat):I→Option I
 | .tuple fs=>fs[i]?
 |_=>none
def vy(k:IntKind):I→Option I
 | .int _ n=>some (.int k (k.wrap n))
 |_=>none
noncomputable def uV(A:ab)(d:Nat)(z:I)(rest:List az):Option ah→cI
 |none=>ay rest ((A.aN d (.box z)).put d (.ptr d []))
 |some _=>.fail
noncomputable def sn(A:ab)(d:Nat)(z:I)(rest:List az)(v:Bool):cI:=if v=true then ay rest ((A.aN d (.box z)).put d (.ptr d [])) else .fail
noncomputable def sm(A:ab)(d:Nat)(z:I)(rest:List az):Option ah→cI
 |none=>sn A d z rest z.cm
 |some _=>.fail
open Classical in
noncomputable def dg(A:ab)(s:Option Nat)(n:Nat)(p:List Nat)(b v:I)(rest:List az):Option I→cI
 |some old=>if x7 s v old then ay rest (A.aN n (.box (b.dH p v))) else .fail
 |none=>.fail
noncomputable def ur(A:ab)(s:Option Nat)(n:Nat)(p:List Nat)(v:I)(rest:List az):Option ah→cI
 |some (.box b)=>dg A s n p b v rest (b.at p)
 |_=>.fail
noncomputable def uq(A:ab)(s:Option Nat)(v:I)(rest:List az):I→cI
 | .ptr n p=>ur A s n p v rest (A.o n)
 |_=>.fail
noncomputable def su(A:ab)(d:Option Nat)(args:List I)(rest:List az):I→cI
 | .func f caps=>.call f (args++caps) (bY true A (args++caps)) (bY false A (args++caps)) d rest A
 | .raw v=>.pj v args d rest A
 |_=>.fail
section
variable (d:Option Nat) (rest:List az) (A:ab)
theorem OZ(op:b7):ay (⟨d,op,none⟩::rest) A=bN A d op rest:=rfl
theorem O0(op:b7)(t:Nat)(b:Bool):ay (⟨d,op,some (t,b)⟩::rest) A=gW (A.t t) b d op rest A:=rfl
theorem ahj(op:b7):gW (.bool true) true d op rest A=bN A d op rest:=by simp[gW]
theorem ahg(op:b7):gW (.bool false) false d op rest A=bN A d op rest:=by simp[gW]
theorem ahi(op:b7):gW (.bool true) false d op rest A=ay rest (A.aP d .undef):=by simp[gW]
theorem ahh(op:b7):gW (.bool false) true d op rest A=ay rest (A.aP d .undef):=by simp[gW]
theorem ahk(op:b7)(b:Bool):gW .undef b d op rest A=ay rest (A.aP d .undef):=rfl
theorem ajx(x:aL):bN A d (.mv x) rest=ay rest (A.aP d (ae A x)):=rfl
theorem ajB(c a b:aL):bN A d (.pick c a b) rest=rq A d a b rest (ae A c):=by
 simp only[bN,bp,bu]
 cases ae A c <;>simp only[cP,rq]
theorem ai9(op:BinOp)(x y:aL):bN A d (.bin op x y) rest=cP (cE op (ae A x) (ae A y)) (db d rest A):=rfl
theorem aji(ty:cK)(neg:Bool)(x y:aL):bN A d (.eqv ty neg x y) rest=cP ((cg ty (ae A x) (ae A y)).map fun b=>.bool (if neg then !b else b)) (db d rest A):=rfl
theorem ajG(op:UnOp)(x:aL):bN A d (.un op x) rest=cP (rO op (ae A x)) (db d rest A):=rfl
theorem ajg(k:IntKind)(x:aL):bN A d (.conv k x) rest=cP (vy k (ae A x)) (db d rest A):=by
 simp only[bN,bp,bu];cases ae A x <;>rfl
theorem ajp(s:Option Nat)(x:aL):bN A d (.ld s x) rest=cP (gM s (gS A (ae A x))) (db d rest A):=by rw[←akB];rfl
theorem ajk(f off:Nat)(x:aL):bN A d (.fa f off x) rest=cP (lE A f off (ae A x)) (db d rest A):=by rw[←akw];rfl
theorem ajl(f off:Nat)(s:Option Nat)(x:aL):bN A d (.fl f off s x) rest=cP (pB f off s (ae A x).dn) (db d rest A):=by rw[←akx];rfl
theorem ajm(n esz:Nat)(x i:aL):bN A d (.ia n esz x i) rest=cP (qM A n esz (ae A x) (ae A i)) (db d rest A):=by rw[←aky];rfl
theorem ajn(esz:Nat)(x i:aL):bN A d (.is esz x i) rest=cP (lJ A esz (ae A x) (ae A i)) (db d rest A):=by rw[←akz];rfl
theorem ajo(n esz:Nat)(s:Option Nat)(x i:aL):bN A d (.ix n esz s x i) rest=cP (qU n esz s (ae A x) (ae A i)) (db d rest A):=by rw[←akA];rfl
theorem ajq(x:aL):bN A d (.len x) rest=cP (kO A (ae A x)) (db d rest A):=by rw[←akC];rfl
theorem ajH(n esz:Nat)(x:aL):bN A d (.va n esz x) rest=cP (oS A n esz (ae A x)) (db d rest A):=by rw[←akE];rfl
theorem aja(zs:List I)(ps:List (Nat×aL)):bN A d (.bld zs ps) rest=cP ((eG zs (ps.map fun p=>(p.1,ae A p.2))).map .agg) (db d rest A):=rfl
theorem ajj(x:aL)(i:Nat):bN A d (.ext x i) rest=cP (vO i (ae A x)) (db d rest A):=by
 simp only[bN,bp,bu];cases ae A x <;>rfl
theorem ajt(f:FuncId)(caps:List aL):bN A d (.mk f caps) rest=cP (if ((caps.map (ae A)).all fun y=>y.cm)=true then some (.func f (caps.map (ae A))) else none) (db d rest A):=rfl
theorem ai7(d:Nat)(z:I):bN A (some d) (.alloc z) rest=uV A d z rest (A.o d):=by
 simp only[bN,bp];cases A.o d <;>rfl
theorem ajb(d:Nat)(x:aL):bN A (some d) (.box x) rest=sm A d (ae A x) rest (A.o d):=by
 simp only[bN,bp];cases A.o d <;>simp only[sm,sn]
theorem ajF(s:Option Nat)(x v:aL):bN A none (.bg s x v) rest=uq A s (ae A v) rest (ae A x):=by
 simp only[bN,bp]
 cases ae A x <;>simp only[uq]
 rename_i n p
 cases A.o n with
 |none=>rfl
 |some y =>
  cases y <;>simp only[ur]
  rename_i b
  cases b.at p <;>simp only[dg]
theorem ajd(f:FuncId)(args:List aL):bN A d (.call f args) rest=.call f (args.map (ae A)) (bY true A (args.map (ae A))) (bY false A (args.map (ae A))) d rest A:=rfl
theorem aje(x:aL)(args:List aL):bN A d (.eL x args) rest=su A d (args.map (ae A)) rest (ae A x):=by
 simp only[bN,bp];cases ae A x <;>rfl
end
end Go.Abs
namespace Go.Abs
open Go Go.RowKit
mutual
/-- Closed,and as a result is told: no nil slice but as the empty one. -/
def I.done:I→Bool
 | .agg fs=>I.eS fs
 | .slice _ es=>I.bU es
 | .ref x=>x.br
 | .func _ caps=>I.eS caps
 | .iface _ v=>v.br
 | .cU ks vs=>I.bU ks&&I.bU vs
 | .bool _ | .int _ _ | .cV _ | .nilp | .de | .dS | .raw _=>true
 |_=>false
def I.eS:List I→Bool
 | []=>true
 |x::xs=>x.done&&I.eS xs
end
mutual
theorem vC:∀ x:I,x.done=true→x.br=true
 | .agg fs,h=>by simp only[I.done,I.br] at *;exact kG fs h
 | .slice _ es,h=>by simpa only[I.done,I.br] using h
 | .ref x,h=>by simpa only[I.done,I.br] using h
 | .func _ caps,h=>by simp only[I.done,I.br] at *;exact kG caps h
 | .iface _ v,h=>by simpa only[I.done,I.br] using h
 | .bool _,_ | .int _ _,_ | .cV _,_ | .nilp,_ | .de,_ | .dS,_ | .raw _,_=>by simp[I.br]
 | .cU _ _,h=>by simpa only[I.done,I.br] using h
 | .nils _,h | .c0 _,h | .ptr _ _,h | .own _ _,h | .view _ _ _ _ _,h | .mref _,h | .dx _,h | .undef,h | .c7,h | .tuple _,h=>by simp[I.done] at h
theorem kG:∀ xs:List I,I.eS xs=true→I.bU xs=true
 | [],_=>rfl
 |x::xs,h=>by
  simp only[I.eS,I.bU,Bool.and_eq_true] at *
  exact ⟨vC x h.1,kG xs h.2⟩
end
mutual
theorem Ds(aB:Bool)(A:ab):∀ x:I,x.done=true→bd aB A x=some x
 | .agg fs,h=>by simp only[I.done,bd] at *;rw[kJ aB A fs h];rfl
 | .slice _ es,h=>by simp only[I.done] at h;simp[bd,h]
 | .ref x,h=>by simp only[I.done] at h;simp[bd,h]
 | .func _ caps,h=>by simp only[I.done,bd] at *;rw[kJ aB A caps h];rfl
 | .iface _ v,h=>by simp only[I.done] at h;simp[bd,h]
 | .bool _,_ | .int _ _,_ | .cV _,_ | .nilp,_ | .de,_ | .dS,_ | .raw _,_=>by simp[bd]
 | .cU _ _,h=>by simp only[I.done] at h;simp[bd,h]
 | .nils _,h | .c0 _,h | .ptr _ _,h | .own _ _,h | .view _ _ _ _ _,h | .mref _,h | .dx _,h | .undef,h | .c7,h | .tuple _,h=>by simp[I.done] at h
theorem kJ(aB:Bool)(A:ab):∀ xs:List I,I.eS xs=true→bY aB A xs=some xs
 | [],_=>by simp[bY]
 |x::xs,h=>by
  simp only[I.eS,Bool.and_eq_true] at h
  simp only[bY,Ds aB A x h.1,kJ aB A xs h.2]
end
theorem Xe{x:I}(h:x.done=true):x.cm=true:=by cases x <;>simp_all[I.done,I.cm]
class Enc (α:Type) where
 enc:α→I
 sz:Nat
 aR:cO
 ga:Bool
 done:∀ x,(enc x).done=true
 size:∀ x,(enc x).size=sz
 jV:∀ x,(enc x).aR=aR
 agg:∀ x,(enc x).isAgg=ga
open Enc (enc)
instance:Enc Int where
 enc n:=.int .i64 n
 sz:=1
 aR:=.one
 ga:=false
 done _:=rfl
 size _:=by simp[I.size]
 jV _:=by simp[I.aR]
 agg _:=rfl
instance:Enc Bool where
 enc b:=.bool b
 sz:=1
 aR:=.one
 ga:=false
 done _:=rfl
 size _:=by simp[I.size]
 jV _:=by simp[I.aR]
 agg _:=rfl
theorem jI{α:Type}[Enc α](l:List α):I.bU (l.map enc)=true:=by
 induction l with
 |nil=>rfl
 |cons x l ih=>simp only[List.map_cons,I.bU,vC _ (Enc.done x),ih,Bool.and_self]
theorem Xf{α:Type}[Enc α](l:List α):I.eS (l.map enc)=true:=by
 induction l with
 |nil=>rfl
 |cons x l ih=>simp only[List.map_cons,I.eS,Enc.done x,ih,Bool.and_self]
theorem ali{α:Type}[Enc α](l:List α):I.sizes (l.map enc)=l.length*Enc.sz α:=by
 rw[I.iJ (sz:=Enc.sz α) _ (by simp only[List.mem_map];rintro x ⟨y,_,rfl⟩;exact Enc.size y)]
 simp
theorem rH{α:Type}[Enc α](l:List α):I.cT (l.map enc)=List.replicate l.length (Enc.aR α):=by
 induction l with
 |nil=>rfl
 |cons x l ih=>simp only[List.map_cons,I.cT,Enc.jV x,ih,List.length_cons,List.replicate_succ]
instance {α:Type} [Enc α]:Enc (List α) where
 enc l:=.slice (Enc.sz α) (l.map enc)
 sz:=1
 aR:=.one
 ga:=false
 done l:=by simp only[I.done];exact jI l
 size _:=by simp[I.size]
 jV _:=by simp[I.aR]
 agg _:=rfl
structure bI (n:Nat) (α:Type) where
 l:List α
 h:l.length=n
instance {n:Nat} {α:Type} [Enc α]:Enc (bI n α) where
 enc x:=.agg (x.l.map enc)
 sz:=n*Enc.sz α
 aR:=.eh (List.replicate n (Enc.aR α))
 ga:=true
 done x:=by simp only[I.done];exact Xf x.l
 size x:=by simp only[I.size,ali,x.h]
 jV x:=by simp only[I.aR,rH,x.h]
 agg _:=rfl
section
variable {α:Type} [Enc α]
theorem fb(aB:Bool)(A:ab)(x:α):bd aB A (enc x)=some (enc x):=Ds aB A _ (Enc.done x)
theorem dP(x:α):(enc x).br=true:=vC _ (Enc.done x)
theorem bB(p:Nat→Bool)(x:α):(enc x).only p=true:=jR p _ (dP x)
theorem dQ(x:α):(enc x).cm=true:=Xe (Enc.done x)
theorem kH(x:α):b6 none (enc x) = !(Enc.ga α):=by simp[b6,Enc.agg]
theorem fX(n:Nat)(x:α):b6 (some n) (enc x)=(Enc.ga α&&Enc.sz α==n):=by simp[b6,Enc.agg,Enc.size]
theorem iT(x:α):(enc x).size=Enc.sz α:=Enc.size x
theorem eM(x:α):(enc x).aR=Enc.aR α:=Enc.jV x
theorem ij(n:Int):(enc n:I)=.int .i64 n:=rfl
theorem vF(n:Bool):(enc n:I)=.bool n:=rfl
theorem fW(l:List α):(enc l:I)=.slice (Enc.sz α) (l.map enc):=rfl
theorem mq:Enc.sz Int=1:=rfl
theorem mn(n:Nat):Enc.sz (bI n α)=n*Enc.sz α:=rfl
theorem qD:Enc.sz (List α)=1:=rfl
theorem vH(n:Nat):Enc.ga (bI n α)=true:=rfl
theorem nh:Enc.ga (List α)=false:=rfl
theorem vJ:Enc.aR Int=.one:=rfl
theorem C7:Enc.aR (List α)=.one:=rfl
theorem vI(n:Nat):Enc.aR (bI n α)=.eh (List.replicate n (Enc.aR α)):=rfl
theorem vN(n esz:Nat)(l:List α)(h:l.length=n)(h2:Enc.sz α=esz):iB n esz (l.map enc)=true:=by
 simp only[iB,List.length_map,h,BEq.rfl,Bool.true_and,List.all_eq_true,List.mem_map]
 rintro x ⟨y,_,rfl⟩
 simp[Enc.size,h2]
theorem Pc(l:List α):∀ x∈l.map (enc (α:=α)),x.size=Enc.sz α:=by
 simp only[List.mem_map];rintro x ⟨y,_,rfl⟩;exact Enc.size y
end
theorem dz(n:Int)(h1:-9223372036854775808≤n)(h2:n≤9223372036854775807):IntKind.i64.wrap n=n:=IntWalk.i64_in n ⟨h1,h2⟩
theorem av.mk{P:Program}{f:FuncId}{fn:Func}{x:aO}{rs:List aZ}{args:List I}{r:I}(hf:P.funcs[f]?=some fn)(hcall:gR P f=true)(hc:(fn.body.bind (eY P fn.ntmps))=some x)
  (hrs:iQ P fn.results.toList=some rs) (hn:args.length≤fn.ntmps) (h:∀ (w:World) (D:aQ) (E:aU),J ⟨P,w,D,fn.ntmps,dy E,E,iC,none⟩ x (jB rs r) (aq (a6 0 args) [])):av P f args r:=by
 obtain ⟨body,hb,hc'⟩:=Option.bind_eq_some_iff.1 hc
 exact av.tH hf hb hcall hc' hrs hn (fun w D E=>(h w D E).sub (alN args))
end Go.Abs
namespace Go.Abs
open Go Go.RowKit
open Enc (enc)
def ak(x:I)(p q:Prop):Prop:=match x with
 | .bool t=>(t=true→p)∧(t=false→q)
 |_=>False
theorem J.bW{c:cJ}{A:ab}{Q:Exit→ab→Prop}{b:aL}{x y:aO}(h:ak (ae A b) (J c x Q A) (J c y Q A)):J c (.cond b x y) Q A:=by
 generalize hb:ae A b=v at h
 unfold ak at h
 split at h
 ·exact J.cond hb h.1 h.2
 ·exact h.elim
def nI(r:I):Option (List I)→Prop
 |some xs=>kT xs=r
 |none=>False
theorem ak0(rs:List aZ)(r:I)(A:ab):jB rs r .ret A=nI r (ff A rs):=by
 simp only[jB,nI]
 cases ff A rs <;>simp
theorem akZ(rs:List aZ)(r:I)(A:ab):jB rs r .normal A=nI r (ff A rs):=by
 simp only[jB,nI]
 cases ff A rs <;>simp
def rE(s:Option Nat)(A:ab):Option I→Option I
 |some x=>if b6 s x=true then bd true A x else none
 |none=>none
def ly:Option I→Option (List I)→Option (List I)
 |some x,some xs=>some (x::xs)
 |_,_=>none
theorem akT(A:ab):ff A []=some []:=rfl
theorem akU(A:ab)(t:Nat)(rs:List aZ):ff A (.tmp t::rs)=ly (bd true A (A.t t)) (ff A rs):=by
 simp only[ff,ud]
 cases bd true A (A.t t) <;>cases ff A rs <;>rfl
theorem akS(A:ab)(a:Nat)(s:Option Nat)(rs:List aZ):ff A (.cell a s::rs)=ly (rE s A (gS A (A.t a))) (ff A rs):=by
 simp only[ff,ud,mj]
 cases gS A (A.t a) with
 |none=>cases ff A rs <;>rfl
 |some x =>
  by_cases h:b6 s x=true
  ·simp only[rE,if_pos h];cases bd true A x <;>cases ff A rs <;>rfl
  ·simp only[rE,if_neg h];cases ff A rs <;>rfl
def sH(aB:Bool)(A:ab):Option I→Option I
 |some x=>if x.br=true then some (.ref x) else (dv A 9 x).map .ref
 |none=>none
theorem X1(A:ab)(n:Nat)(p:List Nat):bd true A (.ptr n p)=sH true A (fo p (A.o n)):=by
 simp only[bd,mj,gS,if_true,sH]
 cases fo p (A.o n) <;>rfl
open Classical in
noncomputable def j6(sz lo k:Nat):Option (List I)→Option I
 |some fs=>if I.bU ((fs.drop lo).take k)=true then some (.slice sz ((fs.drop lo).take k)) else none
 |none=>none
theorem Dw(A:ab)(n:Nat)(p:List Nat)(sz lo k:Nat):bd true A (.view n p sz lo k)=j6 sz lo k (fC (fo p (A.o n))):=by
 simp only[bd,mj,gS,if_true]
 cases fo p (A.o n) with
 |none=>rfl
 |some c=>cases c <;>simp only[fC,I.dn,j6] <;>(split <;>simp_all)
open Classical in
noncomputable def oc(k:Nat):Option ah→Option I
 |some (.bT _ sz es)=>if k=es.length∧I.bU es=true then some (.slice sz es) else none
 |_=>none
theorem X0(aB:Bool)(A:ab)(n k:Nat):bd aB A (.own n k)=oc k (A.o n):=by
 simp only[bd]
 cases A.o n with
 |none=>rfl
 |some y=>cases y <;>simp only[oc] <;>(split <;>simp_all)
theorem XT(aB:Bool)(A:ab)(fs:List I):bd aB A (.agg fs)=(bY aB A fs).map .agg:=by simp only[bd]
theorem XV(aB:Bool)(A:ab)(f:FuncId)(fs:List I):bd aB A (.func f fs)=(bY aB A fs).map (.func f):=by simp only[bd]
theorem XW(aB:Bool)(A:ab)(k:IntKind)(n:Int):bd aB A (.int k n)=some (.int k n):=by simp only[bd]
theorem XU(aB:Bool)(A:ab)(n:Bool):bd aB A (.bool n)=some (.bool n):=by simp only[bd]
theorem X4(aB:Bool)(A:ab)(n:ByteArray):bd aB A (.cV n)=some (.cV n):=by simp only[bd]
theorem XZ(aB:Bool)(A:ab)(n:Nat):bd aB A (.nils n)=some (.slice n []):=by simp only[bd]
theorem X3(aB:Bool)(A:ab)(n:Nat)(es:List I):bd aB A (.slice n es)=if I.bU es=true then some (.slice n es) else none:=by simp only[bd]
theorem X2(aB:Bool)(A:ab)(x:I):bd aB A (.ref x)=if x.br=true then some (.ref x) else none:=by simp only[bd]
theorem X7(aB:Bool)(A:ab):bY aB A []=some []:=by simp only[bY]
theorem X6(aB:Bool)(A:ab)(x:I)(xs:List I):bY aB A (x::xs)=ly (bd aB A x) (bY aB A xs):=by
 simp only[bY];cases bd aB A x <;>cases bY aB A xs <;>rfl
theorem TW(fs:List I):(I.agg fs).br=I.bU fs:=by simp only[I.br]
theorem T4(n:Nat)(fs:List I):(I.slice n fs).br=I.bU fs:=by simp only[I.br]
theorem T3(x:I):(I.ref x).br=x.br:=by simp only[I.br]
theorem T0(k:IntKind)(n:Int):(I.int k n).br=true:=by simp only[I.br]
theorem TX(n:Bool):(I.bool n).br=true:=by simp only[I.br]
theorem T5(n:ByteArray):(I.cV n).br=true:=by simp only[I.br]
theorem TY(f:FuncId)(fs:List I):(I.func f fs).br=I.bU fs:=by simp only[I.br]
theorem T8:I.bU []=true:=by simp only[I.bU]
theorem T6(x:I)(xs:List I):I.bU (x::xs)=(x.br&&I.bU xs):=by simp only[I.bU]
theorem PA(k:IntKind)(a b:Int):cE .add (.int k a) (.int k b)=some (.int k (k.wrap (a+b))):=by simp[cE]
theorem PR(k:IntKind)(a b:Int):cE .sub (.int k a) (.int k b)=some (.int k (k.wrap (a-b))):=by simp[cE]
theorem PI(k:IntKind)(a b:Int):cE .mul (.int k a) (.int k b)=some (.int k (k.wrap (a*b))):=by simp[cE]
theorem PM(k:IntKind)(a b:Int):cE .quo (.int k a) (.int k b)=if b=0 then none else some (.int k (k.wrap (a.tdiv b))):=by simp[cE]
theorem PN(k:IntKind)(a b:Int):cE .rem (.int k a) (.int k b)=if b=0 then none else some (.int k (a.tmod b)):=by simp[cE]
theorem PB(k:IntKind)(a b:Int):cE .and (.int k a) (.int k b)=some (.int k (k.wrap ((BitVec.ofInt k.bits a &&& BitVec.ofInt k.bits b).toNat:Int))):=by simp[cE]
theorem PL(k:IntKind)(a b:Int):cE .or (.int k a) (.int k b)=some (.int k (k.wrap ((BitVec.ofInt k.bits a ||| BitVec.ofInt k.bits b).toNat:Int))):=by simp[cE]
theorem PS(k:IntKind)(a b:Int):cE .xor (.int k a) (.int k b)=some (.int k (k.wrap ((BitVec.ofInt k.bits a ^^^ BitVec.ofInt k.bits b).toNat:Int))):=by simp[cE]
theorem PC(k:IntKind)(a b:Int):cE .andNot (.int k a) (.int k b)=some (.int k (k.wrap ((BitVec.ofInt k.bits a &&& ~~~ BitVec.ofInt k.bits b).toNat:Int))):=by simp[cE]
theorem PO(k k':IntKind)(a b:Int):cE .shl (.int k a) (.int k' b)=if 0≤b then some (.int k (k.wrap (a*2^(min b.toNat k.bits)))) else none:=by simp[cE]
theorem PQ(k k':IntKind)(a b:Int):cE .shr (.int k a) (.int k' b)=if 0≤b then some (.int k (a.fdiv (2^(min b.toNat k.bits)))) else none:=by simp[cE]
theorem PD(k:IntKind)(a b:Int):cE .eql (.int k a) (.int k b)=some (.bool (a==b)):=by simp[cE]
theorem PJ(k:IntKind)(a b:Int):cE .neq (.int k a) (.int k b)=some (.bool (a != b)):=by simp[cE]
theorem PH(k:IntKind)(a b:Int):cE .lss (.int k a) (.int k b)=some (.bool (decide (a<b))):=by simp[cE]
theorem PG(k:IntKind)(a b:Int):cE .leq (.int k a) (.int k b)=some (.bool (decide (a≤b))):=by simp[cE]
theorem PF(k:IntKind)(a b:Int):cE .gtr (.int k a) (.int k b)=some (.bool (decide (b<a))):=by simp[cE]
theorem PE(k:IntKind)(a b:Int):cE .geq (.int k a) (.int k b)=some (.bool (decide (b≤a))):=by simp[cE]
theorem o5 :
  (∀ ts os d v,(aq ts os).put d v=aq ((d,v)::ts) os)∧(∀ ts os d v,(aq ts os).aP (some d) v=aq ((d,v)::ts) os)∧(∀ (A:ab) v,A.aP none v=A) ∧
  (∀ ts os d x,(aq ts os).aN d x=aq ts ((d,x)::os))∧(∀ ts os k,(aq ts os).t k=bH ts k)∧(∀ ts os k,(aq ts os).o k=ai os k) ∧
  (∀ j v r k,bH ((j,v)::r) k=if k=j then v else bH r k)∧(∀ j v r k,ai ((j,v)::r) k=if k=j then some v else ai r k)∧(∀ k,ai [] k=none) ∧
  (∀ A k,ae A (.t k)=A.t k)∧(∀ A x,ae A (.c x)=x)∧(∀ d rest A v,db d rest A v=ay rest (A.aP d v))∧(∀ v k,cP (some v) k=k v)∧(∀ A,ay [] A=.done A) :=
 ⟨tu,tv,aiN,lO,aiO,aiM,aW,cA,tl,XB,Xz,aid,PT,Pg⟩
theorem JV :
  (∀ d rest A op,ay (⟨d,op,none⟩::rest) A=bN A d op rest)∧(∀ d rest A op t b,ay (⟨d,op,some (t,b)⟩::rest) A=gW (A.t t) b d op rest A) ∧
  (∀ d rest A op,gW (.bool true) true d op rest A=bN A d op rest)∧(∀ d rest A op,gW (.bool false) false d op rest A=bN A d op rest) ∧
  (∀ d rest A op,gW (.bool true) false d op rest A=ay rest (A.aP d .undef))∧(∀ d rest A op,gW (.bool false) true d op rest A=ay rest (A.aP d .undef))∧(∀ d rest A op b,gW .undef b d op rest A=ay rest (A.aP d .undef)) ∧
  (∀ d rest A x,bN A d (.mv x) rest=ay rest (A.aP d (ae A x)))∧(∀ d rest A c a b,bN A d (.pick c a b) rest=rq A d a b rest (ae A c)) ∧
  (∀ A d a b rest,rq A d a b rest (.bool true)=ay rest (A.aP d (ae A a)))∧(∀ A d a b rest,rq A d a b rest (.bool false)=ay rest (A.aP d (ae A b))) ∧
  (∀ d rest A op x y,bN A d (.bin op x y) rest=cP (cE op (ae A x) (ae A y)) (db d rest A)) ∧
  (∀ d rest A ty neg x y,bN A d (.eqv ty neg x y) rest=cP ((cg ty (ae A x) (ae A y)).map fun b=>.bool (if neg then !b else b)) (db d rest A)) ∧
  (∀ d rest A op x,bN A d (.un op x) rest=cP (rO op (ae A x)) (db d rest A))∧(∀ b,rO .not (.bool b)=some (.bool !b))∧(∀ k n,rO .neg (.int k n)=some (.int k (k.wrap (0-n))))∧(∀ k n,rO .xor (.int k n)=some (.int k (po k n))) ∧
  (∀ d rest A k x,bN A d (.conv k x) rest=cP (vy k (ae A x)) (db d rest A))∧(∀ k k' n,vy k (.int k' n)=some (.int k (k.wrap n))) ∧
  (∀ d rest A s x,bN A d (.ld s x) rest=cP (gM s (gS A (ae A x))) (db d rest A))∧(∀ d rest A f off x,bN A d (.fa f off x) rest=cP (lE A f off (ae A x)) (db d rest A)) ∧
  (∀ d rest A f off s x,bN A d (.fl f off s x) rest=cP (pB f off s (ae A x).dn) (db d rest A))∧(∀ d rest A n esz x i,bN A d (.ia n esz x i) rest=cP (qM A n esz (ae A x) (ae A i)) (db d rest A)) ∧
  (∀ d rest A esz x i,bN A d (.is esz x i) rest=cP (lJ A esz (ae A x) (ae A i)) (db d rest A))∧(∀ d rest A n esz s x i,bN A d (.ix n esz s x i) rest=cP (qU n esz s (ae A x) (ae A i)) (db d rest A)) ∧
  (∀ d rest A x,bN A d (.len x) rest=cP (kO A (ae A x)) (db d rest A))∧(∀ d rest A n esz x,bN A d (.va n esz x) rest=cP (oS A n esz (ae A x)) (db d rest A)) ∧
  (∀ d rest A zs ps,bN A d (.bld zs ps) rest=cP ((eG zs (ps.map fun p=>(p.1,ae A p.2))).map .agg) (db d rest A))∧(∀ d rest A x i,bN A d (.ext x i) rest=cP (vO i (ae A x)) (db d rest A))∧(∀ i fs,vO i (.tuple fs)=fs[i]?) ∧
  (∀ d rest A f caps,bN A d (.mk f caps) rest=cP (if ((caps.map (ae A)).all fun y=>y.cm)=true then some (.func f (caps.map (ae A))) else none) (db d rest A)) ∧
  (∀ rest A d z,bN A (some d) (.alloc z) rest=uV A d z rest (A.o d))∧(∀ A d z rest,uV A d z rest none=ay rest ((A.aN d (.box z)).put d (.ptr d []))) ∧
  (∀ rest A d x,bN A (some d) (.box x) rest=sm A d (ae A x) rest (A.o d))∧(∀ A d z rest,sm A d z rest none=sn A d z rest z.cm)∧(∀ A d z rest,sn A d z rest true=ay rest ((A.aN d (.box z)).put d (.ptr d []))) ∧
  (∀ rest A s x v,bN A none (.bg s x v) rest=uq A s (ae A v) rest (ae A x))∧(∀ A s v rest n p,uq A s v rest (.ptr n p)=ur A s n p v rest (A.o n))∧(∀ A s n p v rest b,ur A s n p v rest (some (.box b))=dg A s n p b v rest (b.at p)) ∧
  (∀ d rest A f args,bN A d (.call f args) rest=.call f (args.map (ae A)) (bY true A (args.map (ae A))) (bY false A (args.map (ae A))) d rest A) ∧
  (∀ d rest A x args,bN A d (.eL x args) rest=su A d (args.map (ae A)) rest (ae A x))∧(∀ A d args rest f caps,su A d args rest (.func f caps)=.call f (args++caps) (bY true A (args++caps)) (bY false A (args++caps)) d rest A) :=
 ⟨OZ,O0,ahj,ahg,ahi,ahh,ahk,ajx,ajB,fun _ _ _ _ _=>rfl,fun _ _ _ _ _=>rfl,ai9,aji,ajG,fun _=>rfl,fun _ _=>rfl,fun _ _=>rfl,ajg,fun _ _ _=>rfl,ajp,ajk,ajl,ajm,ajn,ajo,ajq,ajH,aja,ajj,fun _ _=>rfl,ajt,
  ai7,fun _ _ _ _=>rfl,ajb,fun _ _ _ _=>rfl,fun _ _ _ _=>rfl,ajF,fun _ _ _ _ _ _=>rfl,fun _ _ _ _ _ _ _=>rfl,ajd,aje,fun _ _ _ _ _ _=>rfl⟩
theorem eD{A:ab}{s:Option Nat}{n:Nat}{p:List Nat}{b v old:I}{rest:List az}(h1:v.cm=true)(h2:b6 s v=true)(h3:v.aR=old.aR):dg A s n p b v rest (some old)=ay rest (A.aN n (.box (b.dH p v))):=by
 simp only[dg];rw[if_pos ⟨h1,h2,h3⟩]
theorem M9 :
  (∀ A x,gS A (.ref x)=some x)∧(∀ A n p,gS A (.ptr n p)=fo p (A.o n))∧(∀ p c,fo p (some (.box c))=c.at p)∧(∀ c:I,c.at []=some c)∧(∀ (c:I) i p,c.at (i::p)=jt i p c.dn) ∧
  (∀ i p fs,jt i p (some fs)=nU p fs[i]?)∧(∀ p f,nU p (some f)=f.at p)∧(∀ c v:I,c.dH [] v=v)∧(∀ (c:I) i p v,c.dH (i::p) v=uj c i p v c.dn)∧(∀ c i p v fs,uj c i p v (some fs)=yQ fs i p v fs[i]?) ∧
  (∀ fs i p v f,yQ fs i p v (some f)=.agg (fs.set i (f.dH p v)))∧(∀ fs,(I.agg fs).dn=some fs)∧(∀ x:I,fC (some x)=x.dn) ∧
  (∀ s x,gM s (some x)=if b6 s x=true then some x else none) ∧
  (∀ A f off c,lE A f off (.ref c)=qH f off c.dn)∧(∀ A f off n p,lE A f off (.ptr n p)=qG n p f off (fC (fo p (A.o n))))∧(∀ f off fs,qH f off (some fs)=pA fs f off fs[f]?)∧(∀ fs f off v,pA fs f off (some v)=dK fs f off (.ref v)) ∧
  (∀ n p f off fs,qG n p f off (some fs)=dK fs f off (.ptr n (p++[f])))∧(∀ A n esz x kk k,qM A n esz x (.int kk k)=oi A n esz k x)∧(∀ A n esz k c,oi A n esz k (.ref c)=iY k n (qO n esz k c.dn)) ∧
  (∀ A n esz k m p,oi A n esz k (.ptr m p)=iY k n (qN n esz m p k (fC (fo p (A.o m)))))∧(∀ n esz k fs,qO n esz k (some fs)=iX n esz fs ((fs[k.toNat]?).map .ref))∧(∀ n esz m p k fs,qN n esz m p k (some fs)=iX n esz fs (some (.ptr m (p++[k.toNat])))) ∧
  (∀ A esz x kk k,lJ A esz x (.int kk k)=gX A esz k x)∧(∀ n esz s x kk k,qU n esz s x (.int kk k)=qT n esz s k x.dn)∧(∀ n esz s k fs,qT n esz s k (some fs)=iY k n (iX n esz fs (gM s fs[k.toNat]?))) ∧
  (∀ A n esz m p,oS A n esz (.ptr m p)=rP n esz m p (fC (fo p (A.o m))))∧(∀ n esz m p fs,rP n esz m p (some fs)=oT n esz fs (.view m p esz 0 n)) ∧
  (∀ A sz es,kO A (.slice sz es)=some (.int .i64 es.length))∧(∀ A n,kO A (.nils n)=some (.int .i64 0))∧(∀ A n,kO A (.c0 n)=some (.int .i64 0)) :=
 ⟨fun _ _=>rfl,fun _ _ _=>rfl,fun _ _=>rfl,m7,Pv,fun _ _ _=>rfl,fun _ _=>rfl,gP,ale,fun _ _ _ _ _=>rfl,fun _ _ _ _ _=>rfl,fun _=>rfl,fun _=>rfl,fun _ _=>rfl,fun _ _ _ _=>rfl,fun _ _ _ _ _=>rfl,fun _ _ _=>rfl,fun _ _ _ _=>rfl,
  fun _ _ _ _ _=>rfl,fun _ _ _ _ _ _=>rfl,fun _ _ _ _ _=>rfl,fun _ _ _ _ _ _=>rfl,fun _ _ _ _=>rfl,fun _ _ _ _ _ _=>rfl,fun _ _ _ _ _=>rfl,fun _ _ _ _ _ _=>rfl,fun _ _ _ _ _=>rfl,fun _ _ _ _ _=>rfl,fun _ _ _ _ _=>rfl,fun _ _ _=>rfl,fun _ _=>rfl,fun _ _=>rfl⟩
theorem Dq :
  (∀ A n p,bd true A (.ptr n p)=sH true A (fo p (A.o n)))∧(∀ A x,sH true A (some x)=if x.br=true then some (.ref x) else (dv A 9 x).map .ref)∧(∀ A n p sz lo k,bd true A (.view n p sz lo k)=j6 sz lo k (fC (fo p (A.o n)))) ∧
  (∀ A n p,bd false A (.ptr n p)=none)∧(∀ A n p sz lo k,bd false A (.view n p sz lo k)=none)∧(∀ x,ly none x=none)∧(∀ x,ly x none=none) ∧
  (∀ aB A n k,bd aB A (.own n k)=oc k (A.o n))∧(∀ aB A fs,bd aB A (.agg fs)=(bY aB A fs).map .agg)∧(∀ aB A f fs,bd aB A (.func f fs)=(bY aB A fs).map (.func f))∧(∀ aB A k n,bd aB A (.int k n)=some (.int k n))∧(∀ aB A b,bd aB A (.bool b)=some (.bool b)) ∧
  (∀ aB A s,bd aB A (.cV s)=some (.cV s))∧(∀ aB A n,bd aB A (.nils n)=some (.slice n []))∧(∀ aB A n es,bd aB A (.slice n es)=if I.bU es=true then some (.slice n es) else none)∧(∀ aB A x,bd aB A (.ref x)=if x.br=true then some (.ref x) else none) ∧
  (∀ aB A,bY aB A []=some [])∧(∀ aB A x xs,bY aB A (x::xs)=ly (bd aB A x) (bY aB A xs))∧(∀ x xs,ly (some x) (some xs)=some (x::xs)) ∧
  (∀ fs,(I.agg fs).br=I.bU fs)∧(∀ n fs,(I.slice n fs).br=I.bU fs)∧(∀ x,(I.ref x).br=x.br)∧(∀ k n,(I.int k n).br=true)∧(∀ n,(I.bool n).br=true)∧(∀ n,(I.cV n).br=true)∧(∀ f fs,(I.func f fs).br=I.bU fs) ∧
  I.bU []=true∧(∀ x xs,I.bU (x::xs)=(x.br&&I.bU xs)) ∧
  (∀ rs r A,jB rs r .ret A=nI r (ff A rs))∧(∀ rs r A,jB rs r .normal A=nI r (ff A rs))∧(∀ r xs,nI r (some xs)=(kT xs=r))∧(∀ A,ff A []=some [])∧(∀ A t rs,ff A (.tmp t::rs)=ly (bd true A (A.t t)) (ff A rs)) ∧
  (∀ A a s rs,ff A (.cell a s::rs)=ly (rE s A (gS A (A.t a))) (ff A rs))∧(∀ s A x,rE s A (some x)=if b6 s x=true then bd true A x else none)∧(∀ x,kT [x]=x)∧(∀ x y xs,kT (x::y::xs)=.tuple (x::y::xs)) :=
 ⟨X1,fun _ _=>rfl,Dw,fun _ _ _=>rfl,fun _ _ _ _ _ _=>rfl,fun _=>rfl,fun x=>by cases x <;>rfl,X0,XT,XV,XW,XU,X4,XZ,X3,X2,X7,X6,fun _ _=>rfl,TW,T4,T3,T0,TX,T5,TY,T8,T6,
  ak0,akZ,fun _ _=>rfl,akT,akU,akS,fun _ _ _=>rfl,fun _=>rfl,fun _ _ _=>rfl⟩
theorem Ag :
  (∀ k a b,cE .add (.int k a) (.int k b)=some (.int k (k.wrap (a+b))))∧(∀ k a b,cE .sub (.int k a) (.int k b)=some (.int k (k.wrap (a-b))))∧(∀ k a b,cE .mul (.int k a) (.int k b)=some (.int k (k.wrap (a*b)))) ∧
  (∀ k a b,cE .quo (.int k a) (.int k b)=if b=0 then none else some (.int k (k.wrap (a.tdiv b))))∧(∀ k a b,cE .rem (.int k a) (.int k b)=if b=0 then none else some (.int k (a.tmod b))) ∧
  (∀ k a b,cE .and (.int k a) (.int k b)=some (.int k (k.wrap ((BitVec.ofInt k.bits a &&& BitVec.ofInt k.bits b).toNat:Int))))∧(∀ k a b,cE .or (.int k a) (.int k b)=some (.int k (k.wrap ((BitVec.ofInt k.bits a ||| BitVec.ofInt k.bits b).toNat:Int)))) ∧
  (∀ k a b,cE .xor (.int k a) (.int k b)=some (.int k (k.wrap ((BitVec.ofInt k.bits a ^^^ BitVec.ofInt k.bits b).toNat:Int))))∧(∀ k a b,cE .andNot (.int k a) (.int k b)=some (.int k (k.wrap ((BitVec.ofInt k.bits a &&& ~~~ BitVec.ofInt k.bits b).toNat:Int)))) ∧
  (∀ k k' a b,cE .shl (.int k a) (.int k' b)=if 0≤b then some (.int k (k.wrap (a*2^(min b.toNat k.bits)))) else none)∧(∀ k k' a b,cE .shr (.int k a) (.int k' b)=if 0≤b then some (.int k (a.fdiv (2^(min b.toNat k.bits)))) else none) ∧
  (∀ k a b,cE .eql (.int k a) (.int k b)=some (.bool (a==b)))∧(∀ k a b,cE .neq (.int k a) (.int k b)=some (.bool (a != b)))∧(∀ k a b,cE .lss (.int k a) (.int k b)=some (.bool (decide (a<b))))∧(∀ k a b,cE .leq (.int k a) (.int k b)=some (.bool (decide (a≤b)))) ∧
  (∀ k a b,cE .gtr (.int k a) (.int k b)=some (.bool (decide (b<a))))∧(∀ k a b,cE .geq (.int k a) (.int k b)=some (.bool (decide (b≤a)))) :=
 ⟨PA,PR,PI,PM,PN,PB,PL,PS,PC,PO,PQ,PD,PJ,PH,PG,PF,PE⟩
end Go.Abs
namespace Go.Abs
open Go Go.RowKit
open Enc (enc)
section
variable {α:Type} [Enc α]
theorem aiv(A:ab)(l:List α):kO A (enc l)=some (.int .i64 l.length):=by simp[fW,kO]
theorem ah2{A:ab}(esz:Nat){k:Int}{l:List α}(h:0≤k∧k.toNat<l.length)(hs:Enc.sz α=esz):gX A esz k (enc l)=some (.ref (enc l[k.toNat])):=by
 simp only[fW,gX,hs,List.length_map,true_and]
 rw[if_pos ⟨h.1,by omega⟩]
 simp[h.2]
theorem eA{A:ab}(esz:Nat){k:Nat}{l:List α}(h:k<l.length)(hs:Enc.sz α=esz):gX A esz k (enc l)=some (.ref (enc l[k])):=by
 have:=ah2 (A:=A) esz (k:=(k:Int)) (l:=l) ⟨by omega,by simpa using h⟩ hs
 simpa using this
theorem bI.lt{α:Type}{n:Nat}(x:bI n α){k:Nat}(h:k<n):k<x.l.length:=by rw[x.h];exact h
theorem oj{n:Nat}(esz:Nat){k:Nat}(x:bI n α){y:Option I}(h:k<n)(hs:Enc.sz α=esz):iY (k:Int) n (iX n esz (x.l.map enc) y)=y:=by
 simp only[iY,iX,vN n esz x.l x.h hs,if_true]
 rw[if_pos ⟨by omega,by omega⟩]
theorem xq{n:Nat}(esz:Nat){k:Int}(x:bI n α){y:Option I}(h:0≤k∧k<n)(hs:Enc.sz α=esz):iY k n (iX n esz (x.l.map enc) y)=y:=by
 simp only[iY,iX,vN n esz x.l x.h hs,if_true]
 rw[if_pos h]
theorem aho{n k:Nat}(x:bI n α)(h:k<n):(x.l.map enc)[k]?=some (enc (x.l[k]'(x.lt h))):=by
 simp[x.lt h]
theorem Pu{n k:Nat}{p:List Nat}{x:bI n α}(h:k<n):jt k p (some (x.l.map enc))=(enc (x.l[k]'(x.lt h))).at p:=by
 have hl:=x.lt h
 simp[jt,nU,hl]
theorem ajQ(k:IntKind)(n:Int):gM none (some (.int k n))=some (.int k n):=by simp[gM,df,b6,I.isAgg]
theorem ajO(b:Bool):gM none (some (.bool b))=some (.bool b):=by simp[gM,df,b6,I.isAgg]
theorem ajR(z:Nat)(es:List I):gM none (some (.slice z es))=some (.slice z es):=by simp[gM,df,b6,I.isAgg]
theorem ajP(f:FuncId)(es:List I):gM none (some (.func f es))=some (.func f es):=by simp[gM,df,b6,I.isAgg]
end
mutual
/-- What every value in memory keeps to: whole numbers within their kind,slices no longer than a slice can be. -/
def I.wf:I→Prop
 | .agg fs=>I.ib fs
 | .int k n=>k.min≤n∧n≤k.max
 | .cV s=>s.size≤maxLen
 | .slice _ es=>es.length≤maxLen∧I.ib es
 | .ref c=>c.wf
 | .func _ caps=>I.ib caps
 | .iface _ v=>v.wf
 |_=>True
def I.ib:List I→Prop
 | []=>True
 |x::xs=>x.wf∧I.ib xs
end
mutual
theorem tX{w:World}{D:aQ}{E:aU} : ∀ (x:I) (cs:List Value),af w D E x cs→x.wf
 | .agg fs,cs,h=>by simp only[af,I.wf] at *;exact yw fs cs h
 | .int k n,cs,h=>by simp only[af,I.wf] at *;exact h.2
 | .cV s,cs,h=>by simp only[af,I.wf] at *;exact h.2
 | .slice sz es,cs,h=>by
  simp only[af,I.wf] at *
  obtain ⟨a,cap,_,h1,h2,h3,_⟩:=h
  refine ⟨by omega,?_⟩
  rcases h3 with rfl | ⟨b,off,cs',_,_,h4⟩
  ·simp[I.ib]
  ·exact yw es cs' h4
 | .ref c,cs,h=>by simp only[af,I.wf] at *;obtain ⟨b,off,cs',_,_,h⟩:=h;exact tX c cs' h
 | .func f caps,cs,h=>by simp only[af,I.wf] at *;obtain ⟨vs,_,h⟩:=h;exact ui caps vs h
 | .iface t v,cs,h=>by simp only[af,I.wf] at *;obtain ⟨u,cs',_,_,h⟩:=h;exact tX v cs' h
 | .bool _,_,_ | .nilp,_,_ | .de,_,_ | .dS,_,_ | .raw _,_,_ | .nils _,_,_ | .c0 _,_,_ | .ptr _ _,_,_ | .own _ _,_,_ | .view _ _ _ _ _,_,_ | .mref _,_,_ | .dx _,_,_ | .cU _ _,_,_ | .undef,_,_ | .c7,_,_ | .tuple _,_,_=>by simp[I.wf]
theorem yw{w:World}{D:aQ}{E:aU} : ∀ (xs:List I) (cs:List Value),aJ w D E xs cs→I.ib xs
 | [],_,_=>by simp[I.ib]
 |x::xs,cs,h=>by
  simp only[aJ,I.ib] at *
  obtain ⟨c1,c2,_,h1,h2⟩:=h
  exact ⟨tX x c1 h1,yw xs c2 h2⟩
theorem ui{w:World}{D:aQ}{E:aU} : ∀ (xs:List I) (vs:List Value),aI w D E xs vs→I.ib xs
 | [],_,_=>by simp[I.ib]
 |x::xs,vs,h=>by
  simp only[aI,I.ib] at *
  obtain ⟨v,rest,cs,_,_,h1,h2⟩:=h
  exact ⟨tX x cs h1,ui xs rest h2⟩
end
theorem al9{α:Type}[Enc α](l:List α):I.ib (l.map enc)↔∀ x∈l,(enc x:I).wf:=by
 induction l with
 |nil=>simp[I.ib]
 |cons x l ih=>simp[I.ib,ih]
theorem jZ{α:Type}[Enc α](l:List α):(enc l:I).wf↔l.length≤maxLen∧∀ x∈l,(enc x:I).wf:=by
 simp only[fW,I.wf,List.length_map,al9]
theorem av.wf{P:Program}{f:FuncId}{args:List I}{r:I}(hc:gR P f=true)(h:I.ib args→av P f args r):av P f args r :=
 ⟨hc,fun w D vs h1 h2=>(h (ui _ _ h2)).2 w D vs h1 h2⟩
theorem av.bn{P:Program}{f:FuncId}{fn:Func}{x:aO}{rs:List aZ}{args:List I}{r:I}(hf:P.funcs[f]?=some fn)(hcall:gR P f=true)(hc:(fn.body.bind (eY P fn.ntmps))=some x)
  (hrs:iQ P fn.results.toList=some rs) (hn:args.length≤fn.ntmps) (h:I.ib args→∀ (w:World) (D:aQ) (E:aU),J ⟨P,w,D,fn.ntmps,dy E,E,iC,none⟩ x (jB rs r) (aq (a6 0 args) [])):av P f args r :=
 av.wf hcall fun hw=>av.mk hf hcall hc hrs hn (h hw)
theorem bh{α:Type}[Enc α] :
  (∀ A (l:List α),kO A (enc l)=some (.int .i64 l.length))∧(∀ n (x:bI n α),(enc x).dn=some (x.l.map enc)) :=
 ⟨aiv,fun _ _=>rfl⟩
theorem lR:(∀ k n,gM none (some (.int k n))=some (.int k n))∧(∀ b,gM none (some (.bool b))=some (.bool b))∧(∀ z es,gM none (some (.slice z es))=some (.slice z es))∧(∀ f es,gM none (some (.func f es))=some (.func f es)) :=
 ⟨ajQ,ajO,ajR,ajP⟩
end Go.Abs
namespace Go.Abs
open Go Go.RowKit
open Enc (enc)
def pP(neg:Bool):I→Option I
 | .nils _=>some (.bool (!neg))
 | .slice _ es=>if es.isEmpty then none else some (.bool neg)
 | .view _ _ _ _ _=>some (.bool neg)
 |_=>none
def Jj:I→Option I
 | .cV s=>some (.int .i64 s.size)
 |_=>none
open Classical in
noncomputable def oN(n:Nat)(p:List Nat)(sz l0 k esz:Nat)(lo hi mx:Option I):Option (List I)→Option I
 |some fs=>if sz=esz then hU n p sz l0 k fs.length lo hi mx else none
 |none=>none
noncomputable def mW(A:ab)(esz:Nat)(lo hi mx:Option I):I→Option I
 | .slice sz es=>if sz=esz then jD sz es lo hi mx else none
 | .nils sz=>if sz=esz then jD sz [] lo hi mx else none
 | .c0 sz=>if sz=esz then jD sz [] lo hi mx else none
 | .view n p sz l0 k=>oN n p sz l0 k esz lo hi mx (fC (fo p (A.o n)))
 |_=>none
open Classical in
noncomputable def ig(esz:Nat):Option (List I)→Option I
 |some es=>if (es.all fun e=>e.size==esz)=true∧I.bU es=true then some (.slice esz es) else none
 |none=>none
open Classical in
noncomputable def qx(A:ab)(d:Option Nat)(e esz bytes n l T sz':Nat)(es:List I)(rest:List az):I→cI
 | .slice sz ys=>if x0 e esz bytes l sz ys T sz' es then ay rest ((A.aN n (.bT e esz (es++ys))).aP d (.own n (es.length+ys.length))) else .fail
 |_=>.fail
open Classical in
noncomputable def o8(A:ab)(d:Option Nat)(e esz bytes:Nat)(z:I)(n l T:Nat)(xs:List Int)(rest:List az):I→cI
 | .slice _ ys=>if x1 e esz bytes l ys T xs z then ay rest ((A.aN n (.cM e (xs++qQ ys))).aP d (.own n (xs.length+ys.length))) else .fail
 |_=>.fail
noncomputable def qw(A:ab)(d:Option Nat)(e esz bytes:Nat)(z:I)(n l:Nat)(x:I)(rest:List az):Option ah→cI
 |some (.bT T sz' es)=>qx A d e esz bytes n l T sz' es rest x
 |some (.cM T xs)=>o8 A d e esz bytes z n l T xs rest x
 |_=>.fail
noncomputable def gl(A:ab)(d:Option Nat)(e esz bytes:Nat)(z x:I)(rest:List az):I→cI
 | .own n l=>qw A d e esz bytes z n l x rest (A.o n)
 |s=>fm A d esz bytes z s (eC A esz s) (eC A esz x) (ay rest)
section
variable (d:Option Nat) (rest:List az) (A:ab)
noncomputable def pQ(neg:Bool)(x:I):Bool→cI
 |true=>.any (fun m=>m<2) (fun m=>ay rest (A.aP d (.bool (m==0))))
 |false=>cP (pP neg x) (db d rest A)
theorem ajz(neg:Bool)(x:aL):bN A d (.nilS neg x) rest=pQ d rest A neg (ae A x) (jY (ae A x)):=by
 simp only[bN,bp,bu]
 cases jY (ae A x)
 ·simp only[Bool.false_eq_true,if_false,pQ,pP];cases ae A x <;>rfl
 ·rfl
theorem ajr(x:aL):bN A d (.lenT x) rest=cP (Jj (ae A x)) (db d rest A):=by
 simp only[bN,bp,bu];cases ae A x <;>rfl
theorem ajE(esz:Nat)(x:aL)(lo hi mx:Option aL):bN A d (.sl esz x lo hi mx) rest=cP (mW A esz (lo.map (ae A)) (hi.map (ae A)) (mx.map (ae A)) (ae A x)) (db d rest A):=by
 simp only[bN,bp,bu]
 cases ae A x <;>try rfl
 rename_i n p sz l0 k
 simp only[mW,mj,gS]
 cases fo p (A.o n) with
 |none=>rfl
 |some c=>cases c <;>simp only[fC,I.dn,oN] <;>(first | rfl | (split <;>rfl))
theorem ajc(esz:Nat)(ps:List aL):bN A d (.bs esz ps) rest=cP (ig esz (bY false A (ps.map (ae A)))) (db d rest A):=by
 simp only[bN,bp,bu];cases bY false A (ps.map (ae A)) <;>simp only[ig] <;>rfl
theorem ai8(e esz bytes:Nat)(z:I)(s x:aL):bN A d (.cL e esz bytes z s x) rest=gl A d e esz bytes z (ae A x) rest (ae A s):=by
 simp only[bN,bp]
 generalize ae A s=s'
 generalize ae A x=x'
 cases s' <;>simp only[gl]
 rename_i n l
 cases x' <;>simp only <;>generalize A.o n=z <;>(cases z with
  |none=>rfl
  |some y=>cases y <;>simp only[qw,qx,o8])
end
theorem JW :
  (∀ d rest A neg x,bN A d (.nilS neg x) rest=pQ d rest A neg (ae A x) (jY (ae A x)))∧(∀ d rest A neg x,pQ d rest A neg x false=cP (pP neg x) (db d rest A))∧(∀ z,jY (.nils z)=false)∧(∀ n p sz lo k,jY (.view n p sz lo k)=false)∧(∀ d rest A x,bN A d (.lenT x) rest=cP (Jj (ae A x)) (db d rest A)) ∧
  (∀ d rest A esz x lo hi mx,bN A d (.sl esz x lo hi mx) rest=cP (mW A esz (lo.map (ae A)) (hi.map (ae A)) (mx.map (ae A)) (ae A x)) (db d rest A)) ∧
  (∀ d rest A esz ps,bN A d (.bs esz ps) rest=cP (ig esz (bY false A (ps.map (ae A)))) (db d rest A))∧(∀ d rest A e esz bytes z s x,bN A d (.cL e esz bytes z s x) rest=gl A d e esz bytes z (ae A x) rest (ae A s)) ∧
  (∀ A d e esz bytes z x rest n l,gl A d e esz bytes z x rest (.own n l)=qw A d e esz bytes z n l x rest (A.o n))∧(∀ A d e esz bytes z n l x rest T sz es,qw A d e esz bytes z n l x rest (some (.bT T sz es))=qx A d e esz bytes n l T sz es rest x)∧(∀ A d e esz bytes z n l x rest T xs,qw A d e esz bytes z n l x rest (some (.cM T xs))=o8 A d e esz bytes z n l T xs rest x) ∧
  (∀ neg z,pP neg (.nils z)=some (.bool (!neg))) :=
 ⟨ajz,fun _ _ _ _ _=>rfl,fun _=>rfl,fun _ _ _ _ _=>rfl,ajr,ajE,ajc,ai8,fun _ _ _ _ _ _ _ _ _ _=>rfl,fun _ _ _ _ _ _ _ _ _ _ _ _ _=>rfl,fun _ _ _ _ _ _ _ _ _ _ _ _=>rfl,fun _ _=>rfl⟩
theorem gv(p:Nat→Bool)(xs ys:List I):I.bP p (xs++ys)=(I.bP p xs&&I.bP p ys):=by
 induction xs with
 |nil=>simp[I.bP]
 |cons x xs ih=>simp[I.bP,ih,Bool.and_assoc]
section
variable {α:Type} [Enc α]
theorem jr{A:ab}{d:Option Nat}(e:Nat)(esz bytes n:Nat){l:Nat}{es ys:List α}{rest:List az}(hl:l=es.length)(hs:Enc.sz α=esz)(hy:ys≠[])(h1:es.length+ys.length≤maxLen)(h2:(es.length+ys.length)*bytes≤140737488355328) :
  qx A d e esz bytes n l e esz (es.map enc) rest (enc ys)=ay rest ((A.aN n (.bT e esz ((es++ys).map enc))).aP d (.own n (es++ys).length)):=by
 simp only[fW,qx]
 rw[if_pos ⟨by simpa using hl,hs,rfl,rfl,by simpa using hy,by simpa using h1,by simpa using h2⟩]
 simp
theorem na(esz:Nat){ys:List α}(hs:Enc.sz α=esz):ig esz (some (ys.map enc))=some (enc ys):=by
 have h1:((ys.map enc).all fun e:I=>e.size==esz)=true:=by
  simp only[List.all_eq_true,List.mem_map]
  rintro x ⟨y,_,rfl⟩
  simp[Enc.size,hs]
 simp only[ig,fW]
 rw[if_pos ⟨h1,jI ys⟩,hs]
theorem nX(esz:Nat)(y:α)(hs:Enc.sz α=esz):ig esz (some [enc y])=some (enc [y]):=na (ys:=[y]) esz hs
theorem lF(sz:Nat){T k:Nat}{es:List α}(hk:k=es.length)(hs:Enc.sz α=sz):oc k (some (.bT T sz (es.map enc)))=some (enc es):=by
 simp only[oc,List.length_map]
 rw[if_pos ⟨hk,jI es⟩,fW,hs]
theorem dU(p:Nat→Bool)(l:List α):I.bP p (l.map enc)=true:=by
 induction l with
 |nil=>rfl
 |cons x l ih=>simp only[List.map_cons,I.bP,bB,ih,Bool.and_self]
end
theorem I1 :
  (∀ n:Int,ig 1 (some [.int .i64 n])=some (enc [n]))∧(∀ (T:Nat) (es:List Int),oc es.length (some (.bT T 1 (es.map enc)))=some (enc es)) :=
 ⟨fun n=>nX 1 n rfl,fun _ _=>lF 1 rfl rfl⟩
theorem aC.O6{A:ab}{d n T sz z:Nat}(hd:A.t d=.nils z)(hn:A.o n=none)(hlt:n<1000000):aC A ((A.aN n (.bT T sz [])).put d (.own n 0)):=by
 rintro c a w ⟨D,E,h⟩
 have ar:E n=none:=by have:=h.bQ n;rw[hn] at this;exact this
 have hl:dN w D E w D (fun m=>if m=n then some (.rw none 0) else E m):=by
  have en:∀ {m:Nat} {e:bR},E m=some e→(if m=n then some (.rw none 0) else E m)=some e:=fun {m e} he=>by
   have:m≠n:=fun e=>by rw[e,ar] at he;cases he
   rw[if_neg this];exact he
  refine ⟨fun _ _ h=>h,fun _ _ _ _ h=>h,fun m b aR he=>en he,fun m aD l he =>?_,fun m b he=>en he,fun m b he=>en he,fun _ _ _ _ h=>h⟩
  ·have:m≠n:=fun e=>by rw[e,ar] at he;cases he
   exact ⟨aD,l,by simp only[if_neg this];exact he,Nat.le_refl _,fun _=>rfl⟩
 refine ⟨D,fun m=>if m=n then some (.rw none 0) else E m,h.sz,h.eQ,fun t =>?_,h.dO,h.c5,h.c9,fun m =>?_,fun m m' e e' b h1 h2 h3 h4 =>?_,fun m e hm =>?_,h.eV,h.cF,h.eX,h.fE⟩
 ·simp only[ab.put,ab.aN]
  by_cases ht:t=d
  ·subst ht
   simp only[if_true]
   have hv:=h.dZ t
   rw[hd] at hv
   obtain ⟨cs,q1,q2⟩:=hv
   simp only[af] at q2
   subst q2
   refine ⟨[.slice none 0 0],by simpa[bK,I.isAgg] using q1,?_⟩
   simp only[af,if_true]
   exact ⟨none,0,rfl,Nat.le_refl _,⟨_,_,_,rfl⟩,fun _=>trivial⟩
  ·simp only[if_neg ht]
   exact aT.bJ hl (h.dZ t)
 ·simp only[ab.put,ab.aN]
  by_cases hm:m=n
  ·subst hm
   simp only[if_true,c8]
   exact ⟨none,by simp,by simp,trivial⟩
  ·simp only[if_neg hm]
   exact (h.bQ m).bJ hl (by simp only[if_neg hm]) fun _ _ _ _=>⟨rfl,fun _ ho=>ho⟩
 ·by_cases hm:m=n <;>by_cases hm':m'=n
  ·rw[hm,hm']
  ·simp only[if_pos hm,Option.some.injEq] at h1;subst h1;simp[bR.aD] at h3
  ·simp only[if_pos hm',Option.some.injEq] at h2;subst h2;simp[bR.aD] at h4
  ·simp only[if_neg hm] at h1;simp only[if_neg hm'] at h2;exact h.cS m m' e e' b h1 h2 h3 h4
 ·have hmn:m≠n:=fun e=>by rw[e,h.j8 (.inr hlt)] at hm;cases hm
  simp only[if_neg hmn]
  exact h.dR m e hm
theorem aC.ln{ts:List (Nat×I)}{os:List (Nat×ah)}(d n T sz z:Nat)(hd:bH ts d=.nils z)(hn:ai os n=none){B:ab}(h:aC (aq ((d,.own n 0)::ts) ((n,.bT T sz [])::os)) B)(hlt:n<1000000:=by decide):aC (aq ts os) B :=
 ((aC.O6 (A:=aq ts os) (T:=T) (sz:=sz) hd hn hlt).trans (by rw[lO,tu];exact aC.refl _)).trans h
def bI.g{n:Nat}(x:bI n Int)(k:Nat):Int:=x.l.getD k 0
theorem bI.sU{n k:Nat}(x:bI n Int)(h:k<n):x.l[k]'(x.lt h)=x.g k:=by simp[bI.g,x.lt h]
theorem pc{n k:Nat}{p:List Nat}(x:bI n Int)(h:k<n):jt k p (some (x.l.map enc))=(I.int .i64 (x.g k)).at p:=by
 rw[Pu h,x.sU h];rfl
theorem sY{n k:Nat}(x:bI n Int)(h:k<n):(x.l.map (enc (α:=Int)))[k]?=some (I.int .i64 (x.g k)):=by
 rw[aho x h,x.sU h];rfl
theorem JO:(∀ k n,b6 none (.int k n)=true)∧(∀ b,b6 none (.bool b)=true)∧(∀ z es,b6 none (.slice z es)=true)∧(∀ f es,b6 none (.func f es)=true)∧(∀ z,b6 none (.nils z)=true)∧(∀ n k,b6 none (.own n k)=true) :=
 ⟨fun _ _=>rfl,fun _=>rfl,fun _ _=>rfl,fun _ _=>rfl,fun _=>rfl,fun _ _=>rfl⟩
theorem o7{p:Nat→Bool}{n:Nat}(h:∀ k,k<n→p k=true):(List.range n).all p=true:=by
 simp only[List.all_eq_true,List.mem_range];exact h
theorem m6{p:Nat→Bool}{n:Nat}(i:Nat)(hi:i<n)(h:p i=false):(List.range n).all p=false:=by
 simp only[List.all_eq_false,List.mem_range];exact ⟨i,hi,by simp[h]⟩
theorem U:(type_of% @o5)∧(type_of% @JV)∧(type_of% @JW)∧(type_of% @I1)∧(type_of% @JO)∧(type_of% @M9)∧(type_of% @Dq)∧(type_of% @Ag)∧(∀ n:Int,(enc n:I)=.int .i64 n)∧(∀ n:Bool,(enc n:I)=.bool n) ∧
  (∀ {α β:Type} (f:α→β) (x:α) (xs:List α),List.map f (x::xs)=f x::List.map f xs)∧(∀ {α β:Type} (f:α→β),List.map f []=[])∧(∀ {α:Type} (xs:List α),[]++xs=xs)∧(∀ n:Nat,(n:Int).toNat=n)∧(∀ {α β:Type} (f:α→β) (x:α),Option.map f (some x)=some (f x)) ∧
  (∀ n:Nat,0≤(n:Int))∧((!true)=false)∧((!false)=true)∧((false=true)=False)∧((true=false)=False) :=
 ⟨@o5,@JV,@JW,@I1,@JO,@M9,@Dq,@Ag,ij,vF,fun _ _ _=>rfl,fun _=>rfl,fun _=>rfl,fun _=>rfl,fun _ _=>rfl,fun n=>Int.natCast_nonneg n,rfl,rfl,by simp,by simp⟩
end Go.Abs
namespace Go.Abs
open Go Go.RowKit
open Enc (enc)
theorem ky.bn{P:Program}{f:FuncId}{fn:Func}{x:aO}{rs:List aZ}{Y:Value→List I→List (Nat×ah)→cN→Prop}{args:List I}{os:List (Nat×ah)}{post:cN}(hf:P.funcs[f]?=some fn)(hcall:gR P f=true)(hc:(fn.body.bind (eY P fn.ntmps))=some x)
  (hrs:iQ P fn.results.toList=some rs) (hn:args.length≤fn.ntmps) (hn2:fn.ntmps≤1000000) (hos:∀ m,ao os m=true→1000000≤m) (h:I.ib args→∀ (w:World) (D:aQ) (E:aU),J ⟨P,w,D,fn.ntmps,dy E,E,Y,none⟩ x (nH rs post) (aq (a6 0 args) os)):ky P f Y args os post:=by
 obtain ⟨body,hb,hc'⟩:=Option.bind_eq_some_iff.1 hc
 refine ⟨hcall,fun w D E vs hy hD ho hv =>?_⟩
 exact (ky.tH hf hb hcall hc' hrs hn (fun m hm=>⟨Nat.le_trans hn2 (hos m hm),hos m hm⟩) (fun w D E=>(h (ui _ _ hv) w D E).sub (MX args os))).2 w D E vs hy hD ho hv
theorem cz.bn{P:Program}{f:FuncId}{fn:Func}{x:aO}{rs:List aZ}{args:List I}{os:List (Nat×ah)}{post:cN}(hf:P.funcs[f]?=some fn)(hcall:gR P f=true)(hc:(fn.body.bind (eY P fn.ntmps))=some x)
  (hrs:iQ P fn.results.toList=some rs) (hn:args.length≤fn.ntmps) (hn2:fn.ntmps≤1000000) (hos:∀ m,ao os m=true→1000000≤m) (h:I.ib args→∀ (w:World) (D:aQ) (E:aU),J ⟨P,w,D,fn.ntmps,dy E,E,iC,none⟩ x (nH rs post) (aq (a6 0 args) os)):cz P f args os post :=
 cz.JE (ky.bn hf hcall hc hrs hn hn2 hos h)
theorem pF{A:ab} : ∀ n x,ai [] n=some x→A.o n=some x∧x.only (ao [])=true∧x.eO=true:=fun n x h=>by simp[ai] at h
theorem kL{A:ab}{k:Nat}{c:I}(h1:A.o k=some (.box c))(h2:∀ p,c.only p=true):∀ n x,ai [(k,.box c)] n=some x→A.o n=some x∧x.only (ao [(k,.box c)])=true∧x.eO=true:=fun n x h=>by
 simp only[ai] at h
 split at h
 ·rename_i hn
  subst hn
  simp only[Option.some.injEq] at h
  subst h
  exact ⟨h1,h2 _,rfl⟩
 ·cases h
theorem ev.nil{aB:Bool}{ρ:List (Nat×Nat)}{os0:List (Nat×ah)}{r:I}(h1:∀ p,r.only p=true)(h2:aB=true→r.cY=true):ev aB ρ [] os0 r [] :=
 ⟨fun m x h=>by simp[ai] at h,fun m m' h=>by simp[ao,ai] at h,fun m h=>by simp[ao,ai] at h,fun m h=>by simp[ao,ai] at h,h1 _,h2⟩
theorem cQ{k:Nat}{x:ah}{m:Nat} : ao [(k,x)] m=true↔m=k:=by
 simp only[ao,ai];split <;>simp_all
theorem ev.tC{aB:Bool}{k d:Nat}{os0:List (Nat×ah)}{r c:I}(h1:∀ p,c.only p=true)(h2:aB=true→c.cY=true)(h3:r.only (ao [(k,.box c)])=true)(h4:aB=true→r.cY=true)(h5:ai os0 d=none)(h6:d<1000000):ev aB [(k,d)] [] os0 r [(k,.box c)]:=by
 refine ⟨fun m x h =>?_,fun m m' h h' _ =>?_,fun m h=>by simp[ao,ai] at h,fun m h _ =>?_,h3,h4⟩
 ·simp only[ai] at h
  split at h
  ·simp only[Option.some.injEq] at h;subst h;exact ⟨h1 _,rfl,h2⟩
  ·cases h
 ·rw[cQ.1 h,cQ.1 h']
 ·rw[cQ.1 h];simp[bA,h5,h6]
theorem ev.one{aB:Bool}{k d:Nat}{x:ah}{os0:List (Nat×ah)}{r c:I}(h1:∀ p,c.only p=true)(h2:aB=true→c.cY=true)(h3:r.only (ao [(k,.box c)])=true)(h4:aB=true→r.cY=true):ev aB [(k,d)] [(k,x)] os0 r [(k,.box c)]:=by
 refine ⟨fun m x h =>?_,fun m m' h h' _ =>?_,fun m h =>?_,fun m h h' =>?_,h3,h4⟩
 ·simp only[ai] at h
  split at h
  ·simp only[Option.some.injEq] at h;subst h;exact ⟨h1 _,rfl,h2⟩
  ·cases h
 ·rw[cQ.1 h,cQ.1 h']
 ·rw[cQ.1 h];exact cQ.2 rfl
 ·rw[cQ.1 h] at h'
  have:ao [(k,x)] k=true:=cQ.2 rfl
  rw[this] at h';cases h'
theorem fU.nil{ρ:List (Nat×Nat)}{os0:List (Nat×ah)} : fU ρ [] os0:=⟨fun m x h=>by simp[ai] at h,fun m m' h=>by simp[ao,ai] at h⟩
mutual
theorem rB(ρ:Nat→Nat):∀ x:I,x.br=true→x.aM ρ=x
 | .agg fs,h=>by simp only[I.aM,I.br] at *;rw[oF ρ fs h]
 | .slice _ es,h=>by simp only[I.aM,I.br] at *;rw[oF ρ es h]
 | .ref x,h=>by simp only[I.aM,I.br] at *;rw[rB ρ x h]
 | .func _ caps,h=>by simp only[I.aM,I.br] at *;rw[oF ρ caps h]
 | .iface _ v,h=>by simp only[I.aM,I.br] at *;rw[rB ρ v h]
 | .bool _,_ | .int _ _,_ | .cV _,_ | .nilp,_ | .de,_ | .dS,_ | .raw _,_ | .nils _,_ | .c0 _,_=>by simp only[I.aM]
 | .cU ks vs,h=>by simp only[I.aM,I.br,Bool.and_eq_true] at *;rw[oF ρ ks h.1,oF ρ vs h.2]
 | .ptr _ _,h | .own _ _,h | .view _ _ _ _ _,h | .mref _,h | .dx _,h | .undef,h | .c7,h | .tuple _,h=>by simp[I.br] at h
theorem oF(ρ:Nat→Nat):∀ xs:List I,I.bU xs=true→I.cR ρ xs=xs
 | [],_=>rfl
 |x::xs,h=>by
  simp only[I.bU,Bool.and_eq_true] at h
  simp only[I.cR,rB ρ x h.1,oF ρ xs h.2]
end
theorem jj :
  (∀ (k:IntKind) n (ρ:Nat→Nat),(I.int k n).aM ρ=.int k n)∧(∀ (b:Bool) (ρ:Nat→Nat),(I.bool b).aM ρ=.bool b)∧(∀ n p (ρ:Nat→Nat),(I.ptr n p).aM ρ=.ptr (ρ n) p) ∧
  (∀ n p sz lo k (ρ:Nat→Nat),(I.view n p sz lo k).aM ρ=.view (ρ n) p sz lo k)∧(∀ fs (ρ:Nat→Nat),(I.agg fs).aM ρ=.agg (I.cR ρ fs))∧(∀ fs (ρ:Nat→Nat),(I.tuple fs).aM ρ=.tuple (I.cR ρ fs))∧(∀ f fs (ρ:Nat→Nat),(I.func f fs).aM ρ=.func f (I.cR ρ fs)) ∧
  (∀ ρ:Nat→Nat,I.cR ρ []=[])∧(∀ (ρ:Nat→Nat) x xs,I.cR ρ (x::xs)=x.aM ρ::I.cR ρ xs)∧(∀ (ρ:Nat→Nat) (x:I),(ah.box x).aM ρ=.box (x.aM ρ)) ∧
  (∀ (z:Nat) (ρ:Nat→Nat),(I.nils z).aM ρ=.nils z)∧(∀ (z:Nat) (ρ:Nat→Nat),(I.c0 z).aM ρ=.c0 z) ∧
  (∀ n,bA [] n=n)∧(∀ a b r n,bA ((a,b)::r) n=if n=a then b else bA r n)∧(∀ ρ,dC ρ []=[])∧(∀ ρ k x os,dC ρ ((k,x)::os)=(bA ρ k,x.aM (bA ρ))::dC ρ os) :=
 ⟨fun _ _ _=>by simp only[I.aM],fun _ _=>by simp only[I.aM],fun _ _ _=>by simp only[I.aM],fun _ _ _ _ _ _=>by simp only[I.aM],fun _ _=>by simp only[I.aM],fun _ _=>by simp only[I.aM],fun _ _ _=>by simp only[I.aM],
  fun _=>rfl,fun _ _ _=>by simp only[I.cR],fun _ _=>rfl,fun _ _=>by simp only[I.aM],fun _ _=>by simp only[I.aM],fun _=>rfl,fun _ _ _ _=>rfl,fun _=>rfl,fun _ _ _ _=>rfl⟩
section
variable {α:Type} [Enc α]
theorem jM(ρ:Nat→Nat)(x:α):(enc x).aM ρ=enc x:=rB ρ _ (dP x)
theorem gw(ρ:Nat→Nat)(l:List α):I.cR ρ (l.map enc)=l.map enc:=oF ρ _ (jI l)
class nR (α:Type) [Enc α]:Prop where
 cY:∀ x:α,(enc x).cY=true
theorem C6[nR α](x:α):(enc x).cY=true:=nR.cY x
theorem xF[nR α](l:List α):I.jc (l.map enc)=true:=by
 induction l with
 |nil=>rfl
 |cons x l ih=>simp only[List.map_cons,I.jc,C6,ih,Bool.and_self]
instance:nR Int:=⟨fun _=>rfl⟩
instance {n:Nat} [nR α]:nR (bI n α):=⟨fun x=>by simp only[enc,I.cY];exact xF x.l⟩
theorem qb(A:ab)(esz:Nat)(l:List α)(hs:Enc.sz α=esz):eC A esz (enc l)=some (l.map enc):=by
 simp only[fW,eC,hs,if_true]
theorem ux(l:List α):jY (enc l)=l.isEmpty:=by
 simp only[fW,jY];cases l <;>rfl
theorem Jz(neg:Bool)(l:List α)(h:l≠[]):pP neg (enc l)=some (.bool neg):=by
 simp only[fW,pP]
 cases l with
 |nil=>exact absurd rfl h
 |cons=>rfl
section
variable {P:Program} {Y:Value→List I→List (Nat×ah)→cN→Prop} {K:ab→Prop} {A:ab} {rest:List az} {d:Nat} {e esz bytes:Nat} {q:Nat}
theorem bj.nT(z:α){l:List α}(hs:Enc.sz α=esz)(hl:l≠[])(hf:A.o d=none)(hb:l.length*bytes≤140737488355328)(hml:l.length≤maxLen)
  (h:∀ m,bj P Y false K (ay rest ((A.aN d (.box (.agg ((l++List.replicate m z).map enc)))).aP (some d) (.view d [] esz 0 l.length)))):bj P Y false K (gl A (some d) e esz bytes (enc z) (enc l) rest (.c0 q)):=by
 have hne:l.map (enc (α:=α))≠[]:=by simpa using hl
 have h1:eC A esz (.c0 q)=some []:=rfl
 simp only[gl,h1,qb A esz l hs,fm,if_neg hne,gj,hf,List.length_nil,Nat.zero_add,List.length_map,if_pos (And.intro hb hml),List.nil_append]
 refine .any rfl fun m _ =>?_
 have:=h m
 simp only[List.map_append,List.map_replicate] at this
 exact this
theorem zZ(z:I)(hs:Enc.sz α=esz):gl A (some d) e esz bytes z (enc ([]:List α)) rest (.c0 q)=ay rest (A.aP (some d) (.c0 q)):=by
 have h1:eC A esz (.c0 q)=some []:=rfl
 simp only[gl,h1,qb A esz ([]:List α) hs,fm,List.map_nil,if_true]
theorem ajf(esz:Nat)(z:I)(x:aL)(rest:List az)(A:ab):bN A none (.iR esz z x) rest=nd A esz z (ay rest) (ae A x):=rfl
theorem alh(z:α)(k:Nat):I.cT (List.replicate k (enc z))=List.replicate k (Enc.aR α):=by
 have:List.replicate k (enc z)=(List.replicate k z).map (enc (α:=α)):=by simp
 rw[this,rH];simp
theorem sv(z:α){n lo k:Nat}{xs:List α}(ho:A.o n=some (.box (.agg (xs.map enc))))(hk:lo+k≤xs.length) :
  nd A esz (enc z) (ay rest) (.view n [] esz lo k)=ay rest (A.aN n (.box (.agg ((xs.take lo++(List.replicate k z++xs.drop (lo+k))).map enc)))):=by
 have h1:I.cT (List.replicate k (enc z))=I.cT (((xs.map (enc (α:=α))).drop lo).take k):=by
  rw[alh,←List.map_drop,←List.map_take,rH,List.length_take,List.length_drop]
  congr 1;omega
 have h2:(I.agg (xs.map (enc (α:=α)))).at []=some (.agg (xs.map enc)):=rfl
 simp only[nd,ho,h2]
 rw[if_pos ⟨rfl,h1⟩]
 simp only[iI,gP,List.map_append,List.map_take,List.map_drop,List.map_replicate,List.length_replicate]
theorem uk{n:Nat}{p:List Nat}{sz k total i:Nat}(h:i≤total)(h0:0<total):hU n p sz 0 k total none (some (.int .i64 i)) none=some (.view n p sz 0 i):=by
 simp only[hU,ic]
 rw[if_pos ⟨by omega,by omega,by omega⟩,if_neg (by omega)]
 simp
theorem rI{n:Nat}{p:List Nat}{sz k total i:Nat}(h:i≤k)(hk:k≤total)(h0:i<total):hU n p sz 0 k total (some (.int .i64 i)) none none=some (.view n p sz i (k-i)):=by
 simp only[hU,ic]
 rw[if_pos ⟨by omega,by omega,by omega⟩,if_neg (by omega)]
 simp
theorem xA{m:Nat}{p:List Nat}{sz lo l j:Nat}{fs:List I}(h:j<l):ja m p sz lo l sz (j:Int) (some fs)=some (.ptr m (p++[lo+j])):=by
 simp only[ja,true_and]
 rw[if_pos ⟨by omega,by omega⟩]
 simp
theorem qJ{sz k:Nat}{xs:List α}(hs:Enc.sz α=sz):j6 sz 0 k (some (xs.map enc))=some (enc (xs.take k)):=by
 have h:((xs.map (enc (α:=α))).drop 0).take k=(xs.take k).map enc:=by rw[List.drop_zero,List.map_take]
 simp only[j6,h]
 rw[if_pos (jI _),fW,hs]
end
end
theorem ah4(A:ab)(esz m:Nat)(p:List Nat)(sz lo l:Nat)(k:Int):gX A esz k (.view m p sz lo l)=ja m p sz lo l esz k (fC (fo p (A.o m))):=rfl
theorem aiw(A:ab)(m:Nat)(p:List Nat)(sz lo l:Nat):kO A (.view m p sz lo l)=some (.int .i64 l):=rfl
theorem alk(A:ab)(esz:Nat)(lo hi mx:Option I)(n:Nat)(p:List Nat)(l0 k:Nat):mW A esz lo hi mx (.view n p esz l0 k)=oN n p esz l0 k esz lo hi mx (fC (fo p (A.o n))):=rfl
theorem alm(n:Nat)(p:List Nat)(sz l0 k:Nat)(lo hi mx:Option I)(fs:List I):oN n p sz l0 k sz lo hi mx (some fs)=hU n p sz l0 k fs.length lo hi mx:=by simp[oN]
theorem cG :
  (∀ A esz m p sz lo l k,gX A esz k (.view m p sz lo l)=ja m p sz lo l esz k (fC (fo p (A.o m))))∧(∀ A m p sz lo l,kO A (.view m p sz lo l)=some (.int .i64 l)) ∧
  (∀ A esz lo hi mx n p l0 k,mW A esz lo hi mx (.view n p esz l0 k)=oN n p esz l0 k esz lo hi mx (fC (fo p (A.o n))))∧(∀ n p sz l0 k lo hi mx fs,oN n p sz l0 k sz lo hi mx (some fs)=hU n p sz l0 k fs.length lo hi mx) ∧
  (∀ esz z x rest A,bN A none (.iR esz z x) rest=nd A esz z (ay rest) (ae A x))∧(∀ rest A d esz,bN A d (.bs0 esz) rest=ay rest (A.aP d (.c0 esz))) :=
 ⟨ah4,aiw,alk,alm,ajf,fun _ _ _ _=>rfl⟩
theorem fq(rs:List aZ)(post:cN)(A:ab):nH rs post .ret A=lh rs post A:=rfl
theorem lX(rs:List aZ)(post:cN)(A:ab):nH rs post .normal A=lh rs post A:=rfl
theorem aC.gU{ts:List (Nat×I)}{os0:List (Nat×ah)}(ns:List Nat)(d:Nat){x y:I}(hd:bH ts d=x)(h:bd true (aq ts (fS ns os0)) x=some y)(ho:bt (fun n => !ns.contains n) (cw ns os0)) :
  aC (aq ts os0) (aq ((d,y)::fG ns ts) (cw ns os0)):=by
 rintro c a w ⟨D,E,hs⟩
 obtain ⟨D1,E1,hs1,hw⟩:=hs.DI ns ho
 have hu:ef (aq ts (fS ns os0)) (aq ts os0):=fun n z hz=>by
  simp only[aq,lN] at hz ⊢
  split at hz
  ·exact hz
  ·cases hz
 have hx:x.cm=true:=by cases x <;>first | rfl | simp[bd] at h
 have hv:=hs.dZ d
 simp only[aq] at hv
 rw[hd] at hv
 have h1:aI w D E [x] [a.tmps.getD d undef]:=mQ [x] _ (.cons hv .nil) (by intro z hz;simp only[List.mem_singleton] at hz;subst hz;exact hx)
 have h2:=my (E':=E1) hs hu hw [x] [y] _ h1 (by simp only[bY,h])
 have h3:aT w D1 E1 y (a.tmps.getD d undef):=by
  simp only[aI] at h2
  obtain ⟨v',rest,cs,e,k1,k2,_⟩:=h2
  simp only[List.cons.injEq] at e
  obtain ⟨e1,_⟩:=e
  rw[e1]
  exact mE k1 k2
 refine ⟨D1,E1,hs1.sz,hs1.eQ,fun t =>?_,hs1.dO,hs1.c5,hs1.c9,hs1.bQ,hs1.cS,hs1.dR,hs1.eV,hs1.cF,hs1.eX,hs1.fE⟩
 simp only[aq,bH]
 split
 ·rename_i ht;subst ht;exact h3
 ·exact hs1.dZ t
theorem aC.oe{ts ts':List (Nat×I)}{os0 os':List (Nat×ah)}(ns:List Nat)(d:Nat){x y:I}(hd:bH ts d=x)(h:bd true (aq ts (fS ns os0)) x=some y)(ho:bt (fun n => !ns.contains n) (cw ns os0))
  (h1:aX ((d,y)::fG ns ts) ts') (h2:bO (cw ns os0) os') (h3:bM (ao os') ts') (h4:bt (ao os') os'):aC (aq ts os0) (aq ts' os') :=
 (aC.gU ns d hd h ho).trans (aC.bZ h1 h2 h3 h4)
theorem J.nO{c:cJ}{Q:Exit→ab→Prop}{A:ab}{x:aO}(T:ab)(h1:J c x (aF (fun B=>aC B T) fun _ _=>False) A)(h2:∀ B,aC B T→Q .normal B):J c x Q A :=
 h1.mono fun e B hq=>by
  cases e <;>simp only[aF] at hq <;>first
   |exact h2 B hq
   |exact hq.elim
theorem yu{w:World}{D:aQ}{E:aU}{p:List Nat}{c x y:I}{cs:List Value}(hr:af w D E c cs)(h:c.at p=some x)(hxy:∀ ds,af w D E x ds→af w D E y ds)(hs:y.aR=x.aR):af w D E (c.dH p y) cs∧(c.dH p y).aR=c.aR:=by
 obtain ⟨off,c1,c2,c3,h1,rfl,h2,h3⟩:=yr p c x cs hr h
 obtain ⟨off',k1,k2,k3,k4⟩:=tW p c x y _ c2 hr h (hxy c2 h3) hs
 rw[h1,Option.some.injEq] at k1
 subst k1
 refine ⟨?_,k4⟩
 have e:(c1++c2++c3).take off++c2++(c1++c2++c3).drop (off+c2.length)=c1++c2++c3:=by
  rw[List.append_assoc c1 c2 c3,←h2,List.take_left,List.drop_length_add_append,List.drop_left,List.append_assoc]
 rw[←e];exact k3
theorem aC.O7{A:ab}{m n T sz z:Nat}{p:List Nat}{b:I}(hm:A.o m=some (.box b))(hp:b.at p=some (.nils z))(hn:A.o n=none)(hlt:n<1000000):aC A ((A.aN n (.bT T sz [])).aN m (.box (b.dH p (.own n 0)))):=by
 rintro c a w ⟨D,E,h⟩
 have ar:E n=none:=by have:=h.bQ n;rw[hn] at this;exact this
 have hmn:m≠n:=fun e=>by rw[e,hn] at hm;cases hm
 have hl:dN w D E w D (fun m=>if m=n then some (.rw none 0) else E m):=by
  have en:∀ {m:Nat} {e:bR},E m=some e→(if m=n then some (.rw none 0) else E m)=some e:=fun {m e} he=>by
   have:m≠n:=fun e=>by rw[e,ar] at he;cases he
   rw[if_neg this];exact he
  refine ⟨fun _ _ h=>h,fun _ _ _ _ h=>h,fun m b aR he=>en he,fun m aD l he =>?_,fun m b he=>en he,fun m b he=>en he,fun _ _ _ _ h=>h⟩
  ·have:m≠n:=fun e=>by rw[e,ar] at he;cases he
   exact ⟨aD,l,by simp only[if_neg this];exact he,Nat.le_refl _,fun _=>rfl⟩
 refine ⟨D,fun m=>if m=n then some (.rw none 0) else E m,h.sz,h.eQ,fun t=>aT.bJ hl (h.dZ t),h.dO,h.c5,h.c9,fun k =>?_,fun m m' e e' b h1 h2 h3 h4 =>?_,fun m e hm =>?_,h.eV,h.cF,h.eX,h.fE⟩
 ·simp only[ab.aN]
  by_cases hk:k=m
  ·subst hk
   have ho:=h.bQ k
   rw[hm] at ho
   obtain ⟨b',cs,T',h1,h2,h3,h4,h5⟩:=ho
   obtain ⟨q1,q2⟩:=yu (y:=.own n 0) (af.bJ hl _ _ h4) hp (fun ds hd=>by
    simp only[af] at hd
    subst hd
    simp only[af,if_true]
    exact ⟨none,0,rfl,Nat.le_refl _,⟨_,_,_,rfl⟩,fun _=>trivial⟩) rfl
   simp only[if_true,c8]
   exact ⟨b',cs,T',by rw[q2];simp only[if_neg hmn];exact h1,h2,h3,q1,h5⟩
  ·simp only[if_neg hk]
   by_cases hkn:k=n
   ·subst hkn
    simp only[if_true,c8]
    exact ⟨none,by simp,by simp,trivial⟩
   ·simp only[if_neg hkn]
    exact (h.bQ k).bJ hl (by simp only[if_neg hkn]) fun _ _ _ _=>⟨rfl,fun _ ho=>ho⟩
 ·by_cases hm:m=n <;>by_cases hm':m'=n
  ·rw[hm,hm']
  ·simp only[if_pos hm,Option.some.injEq] at h1;subst h1;simp[bR.aD] at h3
  ·simp only[if_pos hm',Option.some.injEq] at h2;subst h2;simp[bR.aD] at h4
  ·simp only[if_neg hm] at h1;simp only[if_neg hm'] at h2;exact h.cS m m' e e' b h1 h2 h3 h4
 ·have hmn:m≠n:=fun e=>by rw[e,h.j8 (.inr hlt)] at hm;cases hm
  simp only[if_neg hmn]
  exact h.dR m e hm
theorem aC.zT{ts:List (Nat×I)}{os:List (Nat×ah)}(m n T sz z:Nat)(p:List Nat)(b:I)(hm:ai os m=some (.box b))(hp:b.at p=some (.nils z))(hn:ai os n=none){B:ab}(h:aC (aq ts ((m,.box (b.dH p (.own n 0)))::(n,.bT T sz [])::os)) B)(hlt:n<1000000:=by decide):aC (aq ts os) B :=
 ((aC.O7 (A:=aq ts os) (T:=T) (sz:=sz) hm hp hn hlt).trans (by rw[lO,lO];exact aC.refl _)).trans h
end Go.Abs
