/-
  A part of the proof that the law HerdBearers returns true for every input; conditions: none beyond the statement's own. (part 2 of 7)
-/
import Derived.Maps.RangeRun
import Derived.Laws.MakeOwn
import Derived.Orders
import Derived.OrdersIn
import Derived.Test.YtcldiigclhgafaaGreatNaa
set_option linter.unusedSimpArgs false
set_option linter.unusedVariables false
set_option maxHeartbeats 16000000
set_option maxRecDepth 100000
namespace Go.Abs
open Go Go.RowKit
theorem C9{w:World}{D:aP}{E:aX} : ∀ (l:List cN) (xs ys:List I) (cs ds:List Value),l.all xJ=true→iR l xs ys=some true→aG w D E xs cs→aG w D E ys ds→xs=ys∧cs=ds∧∀ v∈cs,∃ k n,v=.int k n
 | [],xs,ys,cs,ds,_,h,hx,hy=>by
  simp only[iR] at h
  split at h
  ·simp only[aG] at hx hy;subst hx hy;exact ⟨rfl,rfl,fun v hv=>by simp at hv⟩
  ·cases h
 |t::ts,xs,ys,cs,ds,ha,h,hx,hy=>by
  simp only[List.all_cons,Bool.and_eq_true] at ha
  simp only[iR] at h
  split at h
  case h_2=>cases h
  rename_i f fs g gs
  unfold ir at h
  split at h
  case h_2=>cases h
  rename_i a b h1 h2
  simp only[Option.some.injEq,Bool.and_eq_true] at h
  obtain ⟨rfl,rfl⟩:=h
  simp only[aG] at hx hy
  obtain ⟨c1,c2,rfl,p1,p2⟩:=hx
  obtain ⟨d1,d2,rfl,q1,q2⟩:=hy
  obtain ⟨rfl,rfl,k3⟩:=C9 ts fs gs c2 d2 ha.2 h2 p2 q2
  cases t with
  |i k =>
   simp only[ca] at h1
   split at h1
   case h_2=>cases h1
   rename_i k1 a k2 b
   split at h1
   case isFalse=>cases h1
   rename_i hk
   simp only[Option.some.injEq,beq_iff_eq] at h1
   subst h1
   obtain ⟨rfl,rfl⟩:=hk
   simp only[af] at p1 q1
   obtain ⟨rfl,_⟩:=p1
   obtain ⟨rfl,_⟩:=q1
   refine ⟨rfl,rfl,fun v hv =>?_⟩
   rcases List.mem_append.1 hv with hv | hv
   ·simp at hv;exact ⟨_,_,hv⟩
   ·exact k3 v hv
  |b | s | bl _ | j7 _ _=>simp[xJ] at ha
theorem M7:∀ (cs:List Value) (n:Nat),(∀ v∈cs,∃ k m,v=.int k m)→((cs.zip cs).all fun (x,y)=>Instr.sameBits n x y)=true
 | [],_,_=>rfl
 |v::cs,n,h=>by
  obtain ⟨k,m,rfl⟩:=h v (by simp)
  simp only[List.zip_cons_cons,List.all_cons,Bool.and_eq_true]
  exact ⟨by cases n <;>simp[Instr.sameBits],M7 cs n fun v hv=>h v (by simp[hv])⟩
theorem aih{P:Program}{t:TypeId}{ty:cN}{w:World}{D:aP}{E:aX}{x y:I}{u v:Value}(hk:lO P t=some ty)(h:ca ty x y=some true)(hx:aW w D E x u)(hy:aW w D E y v):x=y∧u=v∧Instr.sameBits 10000 u v=true:=by
 unfold lO at hk
 split at hk
 ·rename_i k hu
  simp only[Option.some.injEq] at hk
  subst hk
  simp only[ca] at h
  split at h
  case h_2=>cases h
  split at h
  case isFalse=>cases h
  rename_i hk
  simp only[Option.some.injEq,beq_iff_eq] at h
  subst h
  obtain ⟨rfl,rfl⟩:=hk
  rw[(fx hx).1,(fx hy).1]
  exact ⟨rfl,rfl,by simp[Instr.sameBits]⟩
 ·rename_i fs hu
  split at hk
  case h_2=>cases hk
  rename_i l hl
  split at hk
  case isFalse=>cases hk
  rename_i hc
  simp only[Option.some.injEq] at hk
  subst hk
  simp only[ca] at h
  split at h
  case h_2=>cases h
  rename_i xs ys
  obtain ⟨cs,rfl,hc1⟩:=jB hx
  obtain ⟨ds,rfl,hd1⟩:=jB hy
  obtain ⟨rfl,rfl,h3⟩:=C9 l xs ys cs ds hc.1 h hc1 hd1
  refine ⟨rfl,rfl,?_⟩
  simp only[Instr.sameBits,beq_self_eq_true,Bool.true_and]
  exact M7 cs _ h3
 ·cases hk
section
variable {P:Program} {w:World} {D:aP} {E:aX}
theorem CC{t:TypeId}{ty:cN}{em:Bool}{x y:I}{v:Value}{r:Bool}(hk:lO P t=some ty)(hx:aW w D E x v)(h:ca ty x y=some r)(n:Nat):(Instr.checkKey em (n+2) t v).run P w=.ok () w:=by
 unfold lO at hk
 split at hk
 ·rename_i k hu
  simp only[Option.some.injEq] at hk
  subst hk
  simp only[ca] at h
  split at h
  case h_2=>cases h
  rename_i k1 a k2 b
  split at h
  case isFalse=>cases h
  rename_i hq
  rw[(fx hx).1,hq.1]
  exact MapKept.run_checkKey hu (by simp[MapKept.IsKey]) em (n+1)
 ·rename_i fs hu
  split at hk
  case h_2=>cases hk
  rename_i l hl
  split at hk
  case isFalse=>cases hk
  rename_i hc
  simp only[Option.some.injEq] at hk
  subst hk
  simp only[ca] at h
  split at h
  case h_2=>cases h
  rename_i xs ys
  obtain ⟨cs,rfl,hc1⟩:=jB hx
  obtain ⟨d,hd⟩:∃ d,d=11:=⟨_,rfl⟩
  rw[show (12:Nat)=d+1 from by omega] at hl
  simp only[gH,hu] at hl
  split at hl
  case isFalse=>cases hl
  rename_i hc2
  simp only[Option.map_eq_some_iff,cN.bl.injEq] at hl
  obtain ⟨l',hl,rfl⟩:=hl
  rw[show n+2=(n+1)+1 from rfl,Instr.checkKey]
  simp only[Sem.run_bind,run_underlying hu,Result.andThen_ok]
  rw[←Array.forIn_toList]
  have key:∀ (L:List Field) (l:List cN) (xs ys:List I) (r:Bool) (c1 c2:List Value),
    (L.mapM fun f=>match gH P d f.type with
     |some ty=>if ty.size=P.cellsOf f.type then some ty else none
     | none => none) = some l → (∀ f ∈ L, f.name ≠ "_" ∧ qN (P.underlying f.type) = true) → pW P c1.length L = true → aG w D E xs c2 → iR l xs ys = some r → c1 ++ c2 = cs →
    Sem.run P (forIn L PUnit.unit (fun (f : Field) (_ : PUnit) => (if f.name ≠ "_" then (do
     let x ←part f.type cs.toArray f.offset
     Instr.checkKey em (n+1) f.type x
     pure (ForInStep.yield PUnit.unit)) else pure (ForInStep.yield PUnit.unit):Sem (ForInStep PUnit)))) w=.ok PUnit.unit w:=by
   intro L
   induction L with
   |nil=>intros;simp
   |cons f L ih =>
    intro l xs ys r c1 c2 hm hn ho hx h htot
    simp only[List.mapM_cons,Option.bind_eq_bind,Option.pure_def,Option.bind_eq_some_iff,Option.some.injEq] at hm
    obtain ⟨ty,hty,tys,htys,rfl⟩:=hm
    split at hty
    case h_2=>cases hty
    rename_i ty' hd'
    split at hty
    case isFalse=>cases hty
    rename_i hsz
    simp only[Option.some.injEq] at hty
    subst hty
    simp only[iR] at h
    split at h
    case h_2=>cases h
    rename_i x xs y ys
    unfold ir at h
    split at h
    case h_2=>cases h
    rename_i ra rb h1 h2
    simp only[aG] at hx
    obtain ⟨e1,e2,rfl,k1,k2⟩:=hx
    obtain ⟨s,q1,q2,q3⟩:=vG hd' hsz h1
    obtain ⟨u,p1,p2⟩:=oO (P:=P) (w:=w) (c1:=c1) (c3:=e2) q1 q2 k1
    simp only[pW,Bool.and_eq_true,beq_iff_eq] at ho
    have hsx:=pz ty' x y ra h1
    have hle:e1.length=P.cellsOf f.type:=by rw[af.length _ _ k1,hsx.1,hsz]
    have ih':=ih tys xs ys rb (c1++e1) e2 htys (fun g hg=>hn g (by simp[hg])) (by simp only[List.length_append,hle];exact ho.2) k2 h2 (by rw[←htot];simp)
    rw[List.append_assoc,htot,←ho.1] at p1
    obtain ⟨hnm,hint⟩:=hn f (by simp)
    have hck:(Instr.checkKey em (n+1) f.type u).run P w=.ok () w:=by
     cases hu:P.underlying f.type with
     |none=>simp[hu,qN] at hint
     |some dd =>
      cases dd <;>simp[hu,qN] at hint
      rename_i q
      have hti:ty'=.i q:=by
       rw[show d=10+1 from by omega] at hd'
       unfold gH at hd'
       simp only[hu,Option.some.injEq] at hd'
       exact hd'.symm
      subst hti
      simp only[ca] at h1
      split at h1
      case h_2=>cases h1
      split at h1
      case isFalse=>cases h1
      rename_i hq
      rw[(fx p2).1,hq.1]
      exact MapKept.run_checkKey hu (by simp[MapKept.IsKey]) em n
    simp only[List.forIn_cons,Sem.run_bind,hnm,ne_eq,not_false_eq_true,if_true,p1,Result.andThen_ok,hck,Sem.run_pure]
    exact ih'
  rw[key fs.toList l' xs ys r [] cs hl (fun f hf=>⟨by simpa using List.all_eq_true.1 hc2.2.1 f hf,Array.all_eq_true_iff_forall_mem.1 hc.2 f (Array.mem_toList_iff.1 hf)⟩) hc2.2.2 hc1 h rfl]
  simp
 ·cases hk
theorem yT{x:I}{xs:List I}{vs:List Value}(h:aF w D E (x::xs) vs):∃ v rest,vs=v::rest∧aW w D E x v∧aF w D E xs rest:=by
 simp only[aF] at h
 obtain ⟨v,rest,cs,rfl,h1,h2,h3⟩:=h
 exact ⟨v,rest,rfl,mD h1 h2,h3⟩
def o5(r:Option Nat)(es:List MapEntry)(i:Nat)(q:Option (Nat×Value)):Prop :=
 (r=none∧q=none)∨∃ j e,r=some (i+j)∧es[j]?=some e∧q=some (i+j,e.val)
theorem o5.step{r:Option Nat}{es:List MapEntry}{e:MapEntry}{i:Nat}{q:Option (Nat×Value)}(h:o5 r es (i+1) q):o5 r (e::es) i q:=by
 rcases h with h | ⟨j,e',h1,h2,h3⟩
 ·exact .inl h
 ·exact .inr ⟨j+1,e',by rw[h1];congr 1;omega,by simpa using h2,by rw[h3];congr 2;omega⟩
theorem Dw{q:IntKind}{k:I}{v:Value}(hv:aW w D E k v):∀ (ks:List I) (es:List MapEntry) (i:Nat) (r:Option Nat),aF w D E ks (es.map (·.key))→eY (.i q) k ks i=some r →
  ∃ x,Instr.findNow (.int q) v es i=some x∧o5 r es i x
 | [],es,i,r,hk,h=>by
  simp only[eY,Option.some.injEq] at h
  simp only[aF,List.map_eq_nil_iff] at hk
  subst h hk
  exact ⟨none,rfl,.inl ⟨rfl,rfl⟩⟩
 |x::ks,es,i,r,hk,h=>by
  obtain ⟨u,rest,e1,hu,hr⟩:=yT hk
  cases es with
  |nil=>cases e1
  |cons e es =>
   simp only[List.map_cons,List.cons.injEq] at e1
   obtain ⟨rfl,rfl⟩:=e1
   simp only[eY] at h
   have same:∀ b,ca (.i q) k x=some b→Instr.sameNow (.int q) v e.key=some b:=fun b hb=>by
    simp only[ca] at hb
    split at hb
    case h_2=>cases hb
    split at hb
    case isFalse=>cases hb
    rename_i hq
    simp only[Option.some.injEq] at hb
    subst hb
    rw[(fx hv).1,(fx hu).1]
    simp[Instr.sameNow,hq.1,hq.2]
   split at h
   ·rename_i hb
    simp only[Option.some.injEq] at h
    subst h
    exact ⟨some (i,e.val),by simp[Instr.findNow,same _ hb],.inr ⟨0,e,rfl,rfl,rfl⟩⟩
   ·rename_i hb
    obtain ⟨y,h1,h2⟩:=Dw hv ks es (i+1) r hr h
    exact ⟨y,by simp[Instr.findNow,same _ hb,h1],h2.step⟩
   ·cases h
theorem Dt{t:TypeId}{ty:cN}(hty:gH P 12 t=some ty){k:I}{v:Value}(hv:aW w D E k v):∀ (ks:List I) (es:List MapEntry) (i:Nat) (r:Option Nat),aF w D E ks (es.map (·.key))→eY ty k ks i=some r →
  ∃ x,(Instr.findAsking t v es i).run P w=.ok x w∧o5 r es i x
 | [],es,i,r,hk,h=>by
  simp only[eY,Option.some.injEq] at h
  simp only[aF,List.map_eq_nil_iff] at hk
  subst h hk
  exact ⟨none,rfl,.inl ⟨rfl,rfl⟩⟩
 |x::ks,es,i,r,hk,h=>by
  obtain ⟨u,rest,e1,hu,hr⟩:=yT hk
  cases es with
  |nil=>cases e1
  |cons e es =>
   simp only[List.map_cons,List.cons.injEq] at e1
   obtain ⟨rfl,rfl⟩:=e1
   simp only[eY] at h
   have same:∀ b,ca ty k x=some b→(Op.equal t v e.key).run P w=.ok b w:=fun b hb=>sE 12 t ty hty k x v e.key b hv hu hb _ (by simp[Op.maxDepth])
   split at h
   ·rename_i hb
    simp only[Option.some.injEq] at h
    subst h
    exact ⟨some (i,e.val),by simp[Instr.findAsking,same _ hb],.inr ⟨0,e,rfl,rfl,rfl⟩⟩
   ·rename_i hb
    obtain ⟨y,h1,h2⟩:=Dt hty hv ks es (i+1) r hr h
    exact ⟨y,by simp[Instr.findAsking,same _ hb,h1],h2.step⟩
   ·cases h
theorem sK{t:TypeId}{ty:cN}(hk:lO P t=some ty){k:I}{v:Value}(hv:aW w D E k v){ks:List I}{es:List MapEntry}{r:Option Nat}(hks:aF w D E ks (es.map (·.key)))(h:eY ty k ks 0=some r) :
  ∃ x,(Instr.findKey t v es).run P w=.ok x w∧o5 r es 0 x:=by
 have hk0:=hk
 unfold lO at hk
 split at hk
 ·rename_i q hu
  simp only[Option.some.injEq] at hk
  subst hk
  obtain ⟨x,h1,h2⟩:=Dw hv ks es 0 r hks h
  exact ⟨x,by simp[Instr.findKey,run_underlying hu,h1],h2⟩
 ·rename_i fs hu
  split at hk
  case h_2=>cases hk
  rename_i l hl
  split at hk
  case isFalse=>cases hk
  simp only[Option.some.injEq] at hk
  subst hk
  cases es with
  |nil =>
   cases ks with
   |nil =>
    simp only[eY,Option.some.injEq] at h
    subst h
    exact ⟨none,by simp[Instr.findKey,run_underlying hu,Instr.findNow],.inl ⟨rfl,rfl⟩⟩
   |cons x xs=>simp[aF] at hks
  |cons e es =>
   obtain ⟨x,h1,h2⟩:=Dt hl hv ks (e::es) 0 r hks h
   exact ⟨x,by simp[Instr.findKey,run_underlying hu,Instr.findNow,Instr.sameNow,h1],h2⟩
 ·cases hk
theorem mQ:∀ {xs:List I} {vs:List Value} {j:Nat} {v:Value},aF w D E xs vs→vs[j]?=some v→∃ x,xs[j]?=some x∧aW w D E x v
 | [],vs,j,v,h,hj=>by simp only[aF] at h;subst h;simp at hj
 |x::xs,vs,j,v,h,hj=>by
  obtain ⟨u,rest,rfl,h1,h2⟩:=yT h
  cases j with
  |zero=>simp only[List.getElem?_cons_zero,Option.some.injEq] at hj;subst hj;exact ⟨x,rfl,h1⟩
  |succ j=>exact mQ (xs:=xs) h2 (by simpa using hj)
end
section
variable {c:cM} {A:ae} {o:Oper} {x:I}
theorem aiK{a:Act}{w:World}{D:aP}{E:aX}(hs:aS c A a w D E){m:I}{v:Value}{ks vs:List I}(hv:aW w D E m v)(hm:gw A m=some (ks,vs)) :
  (v=.map none∧ks=[]∧vs=[])∨∃ b es clock,v=.map (some b)∧w.heap[b]?=some (.map es clock)∧aF w D E ks (es.toList.map (·.key))∧aF w D E vs (es.toList.map (·.val)):=by
 unfold gw at hm
 split at hm
 ·simp only[Option.some.injEq,Prod.mk.injEq] at hm
  obtain ⟨rfl,rfl⟩:=hm
  obtain ⟨cs,q1,q2⟩:=hv
  simp only[af] at q2
  obtain ⟨b,es,ck,q3,q4,q5,q6⟩:=q2
  exact .inr ⟨b,es,ck,by simpa[bK,I.isAgg,q3] using q1.symm,q4.1,q5,q6⟩
 ·rename_i n
  split at hm
  case h_2=>cases hm
  rename_i ks' vs' hn
  simp only[Option.some.injEq,Prod.mk.injEq] at hm
  obtain ⟨rfl,rfl⟩:=hm
  obtain ⟨cs,q1,q2⟩:=hv
  simp only[af] at q2
  obtain ⟨b,q3,q4⟩:=q2
  obtain ⟨b',es,ck,k1,k2,k3,k4,k5,k6,k7⟩:=hs.map hn
  rw[k1] at q3;cases q3
  exact .inr ⟨_,es,ck,by simpa[bK,I.isAgg,q4] using q1.symm,k3,k5,k6⟩
 ·simp only[Option.some.injEq,Prod.mk.injEq] at hm
  obtain ⟨rfl,rfl⟩:=hm
  obtain ⟨cs,q1,q2⟩:=hv
  simp only[af] at q2
  exact .inl ⟨by simpa[bK,I.isAgg,q2.1] using q1.symm,rfl,rfl⟩
 ·cases hm
theorem oY{w:World}{D:aP}{E:aX}{y:I}{v:Value}(hv:y.cq=true)(h:aW w D E y v):∃ cs,bK y v cs∧af w D E y cs:=by
 cases y <;>simp[I.cq] at hv <;>exact h
theorem qa{w:World}{D:aP}{E:aX} : ∀ {xs:List I} {vs:List Value} {j:Nat} {x:I},aF w D E xs vs→xs[j]?=some x→x.cq=true
 | [],_,j,x,_,h=>by simp at h
 |y::ys,vs,j,x,hr,h=>by
  simp only[aF] at hr
  obtain ⟨v,rest,cs,rfl,h1,h2,h3⟩:=hr
  cases j with
  |zero =>
   simp only[List.getElem?_cons_zero,Option.some.injEq] at h;subst h
   cases y <;>simp only[af] at h2 <;>rfl
  |succ j=>exact qa (xs:=ys) h3 (by simpa using h)
theorem amn{x:I}{cs r:List Value}(h:mZ x cs=some r):x.cq=true:=by
 cases x <;>first | rfl | (cases cs <;>simp[mZ] at h)
theorem amo{P:Program}{t:TypeId}{z:I}(hz:fZ P t=some z)(hp:uE P t z=true):∃ zv,(∀ w,(zeroValue t).run P w=.ok zv w)∧z.cq=true∧∀ w D E,aW w D E z zv:=by
 have hz0:=hz
 obtain ⟨i,zv,hi,hzz,hzr⟩:=l7 hz
 have hv:z.cq=true:=by
  unfold fZ at hz
  split at hz
  ·split at hz
   ·rename_i hk
    simp only[Option.some.injEq] at hz
    subst hz
    exact amn hk
   ·cases hz
  ·cases hz
 refine ⟨zv,fun w=>by simp[zeroValue,typeInfo,hi,hzz],hv,fun w D E =>?_⟩
 have h1:=hzr w D E
 simp only[uE,hi,Option.bind_some,hzz] at hp
 refine mD (cs:=zv.cells.toList) ?_ h1
 cases zv <;>simp only[bK] at hp ⊢ <;>first
  |(rw[if_pos hp];simp[Value.cells])
  |(have hp':z.isAgg=false:=by simpa using hp
    rw[hp'];simp[Value.cells])
theorem ahM{t kt et:TypeId}{m k:Operand}{m' k':aK}{ok:Bool}{ty:cN}{z v:I}{ks vs:List I}{there:Bool}(ho:o.op=.lookup t m k ok)(hu:c.P.underlying t=some (.map kt et))(hk:lO c.P kt=some ty)(hz:fZ c.P et=some z)(hzp:uE c.P et z=true)
  (hm:bH c.P 0 m=some m') (hk':bH c.P 0 k=some k') (hmm:gw A (ab A m')=some (ks,vs)) (hl:gv ty z (ab A k') ks vs=some (v,there)):dL c A o (if ok then .tuple [v,.bool there] else v) :=
 .same fun a w D E hs=>by
  have h1:=b8 hs hm
  have h2:=b8 hs hk'
  obtain ⟨zv,hzrun,hzv,hzrv⟩:=amo hz hzp
  unfold gv at hl
  split at hl
  case isFalse=>cases hl
  rename_i hkk
  obtain ⟨rk,hrk⟩:=Option.isSome_iff_exists.1 hkk
  have hchk:=fun em=>CC (P:=c.P) (w:=w) (em:=em) hk h2 hrk 9998
  have bd:∀ u there,v.cq=true→aW w D E v u→aW w D E (if ok then .tuple [v,.bool there] else v) (if ok then Value.tuple #[u,.bool there] else u):=fun u there hval hu'=>by
   cases ok
   ·exact hu'
   ·obtain ⟨cs,q1,q2⟩:=oY hval hu'
    simp only[if_true,aW,aF]
    exact ⟨[u,.bool there],rfl,u,[.bool there],cs,rfl,q1,q2,.bool there,[],[.bool there],rfl,by simp[bK,I.isAgg],by simp[af],rfl⟩
  have main:∀ (es:Array MapEntry),aF w D E ks (es.toList.map (·.key))→aF w D E vs (es.toList.map (·.val))→∃ u,v.cq=true∧aW w D E v u ∧
    ((∃ i,(Instr.findKey kt (a.eval k) es.toList).run c.P w=.ok (some (i,u)) w∧there=true)∨((Instr.findKey kt (a.eval k) es.toList).run c.P w=.ok none w∧u=zv∧there=false)):=fun es hks hvs=>by
   split at hl
   ·rename_i i hfi
    simp only[Option.map_eq_some_iff,Prod.mk.injEq] at hl
    obtain ⟨v',hv',rfl,rfl⟩:=hl
    obtain ⟨q,q1,q2⟩:=sK hk h2 hks hfi
    rcases q2 with ⟨e,_⟩ | ⟨j,e,e1,e2,rfl⟩
    ·cases e
    ·simp only[Nat.zero_add,Option.some.injEq] at e1
     subst e1
     obtain ⟨x,k1,k2⟩:=mQ (j:=i) (v:=e.val) hvs (by simp only[List.getElem?_map,e2,Option.map_some])
     rw[hv',Option.some.injEq] at k1
     subst k1
     exact ⟨e.val,qa hvs hv',k2,.inl ⟨_,q1,rfl⟩⟩
   ·rename_i hfi
    simp only[Option.some.injEq,Prod.mk.injEq] at hl
    obtain ⟨rfl,rfl⟩:=hl
    obtain ⟨q,q1,q2⟩:=sK hk h2 hks hfi
    rcases q2 with ⟨_,rfl⟩ | ⟨j,e,e1,_⟩
    ·exact ⟨zv,hzv,hzrv w D E,.inr ⟨q1,rfl,rfl⟩⟩
    ·cases e1
   ·cases hl
  rcases aiK hs h1 hmm with ⟨e1,rfl,rfl⟩ | ⟨b,es,ck,e1,e2,e3,e4⟩
  ·obtain ⟨u,hval,hu',hrun⟩:=main #[] (by simp[aF]) (by simp[aF])
   refine ⟨_,?_,bd u there hval hu'⟩
   rcases hrun with ⟨i,q1,rfl⟩ | ⟨q1,rfl,rfl⟩ <;>
    simp only[execOp,ho,Instr.lookup,e1,Sem.run_bind,run_underlying hu,Result.andThen_ok,Sem.run_pure,hchk,q1,hzrun]
  ·obtain ⟨u,hval,hu',hrun⟩:=main es e3 e4
   refine ⟨_,?_,bd u there hval hu'⟩
   rcases hrun with ⟨i,q1,rfl⟩ | ⟨q1,rfl,rfl⟩ <;>
    simp only[execOp,ho,Instr.lookup,e1,Sem.run_bind,run_underlying hu,Result.andThen_ok,MapKept.run_getObj_map e2,Sem.run_pure,hchk,q1,hzrun]
theorem Jg{y:Operand}{y':aK}(ho:o.op=.nilCheck y)(hy:bH c.P 0 y=some y')(h:(∃ n p,ab A y'=.ptr n p)∨∃ z,ab A y'=.ref z):dL c A o (ab A y') :=
 .same fun a w D E hs=>by
  have h1:=b8 hs hy
  rcases h with ⟨n,p,h⟩ | ⟨z,h⟩
  ·rw[h] at h1 ⊢
   obtain ⟨b,aQ,off,_,_,e⟩:=oP h1
   exact ⟨a.eval y,by simp only[execOp,ho,e,Sem.run_pure],h1⟩
  ·rw[h] at h1 ⊢
   obtain ⟨b,off,cs,e,_⟩:=p9 h1
   exact ⟨a.eval y,by simp only[execOp,ho,e,Sem.run_pure],h1⟩
theorem JA{w:World}{D:aP}{E:aX}{x:I}{v:Value}{b:Bool}(h:iX x=some b)(hv:aW w D E x v):∃ ad,v=.pointer ad∧ad.isNone=b:=by
 cases x <;>simp only[iX,Option.some.injEq] at h <;>try (cases h;done)
 case nilp =>
  subst h
  obtain ⟨cs,q1,q2⟩:=hv
  simp only[af] at q2
  exact ⟨none,by simpa[bK,I.isAgg,q2] using q1.symm,rfl⟩
 case ptr n p =>
  subst h
  obtain ⟨b,aQ,off,_,_,e⟩:=oP hv
  exact ⟨_,e,rfl⟩
 case ref z =>
  subst h
  obtain ⟨b,off,cs,e,_⟩:=p9 hv
  exact ⟨_,e,rfl⟩
theorem ahR{neg:Bool}{t yt e:TypeId}{y z:Operand}{y' z':aK}{b1 b2:Bool}(ho:o.op=.binOp (if neg then .neq else .eql) t y z yt)(hu:c.P.underlying t=some (.pointer e))(hy:bH c.P 0 y=some y')(hz:bH c.P 0 z=some z')
  (h1:iX (ab A y')=some b1) (h2:iX (ab A z')=some b2) (h:b1=true∨b2=true):dL c A o (.bool (if neg then !(b1&&b2) else (b1&&b2))) :=
 .same fun a w D E hs=>by
  obtain ⟨p,e1,k1⟩:=JA h1 (b8 hs hy)
  obtain ⟨q,e2,k2⟩:=JA h2 (b8 hs hz)
  have he:∀ d,(Op.equalIn (d+1) t (.pointer p) (.pointer q)).run c.P w=.ok (b1&&b2) w:=fun d=>by
   subst k1 k2
   cases p <;>cases q <;>simp at h <;>simp[Op.equalIn,run_underlying hu]
  refine ⟨.bool (if neg then !(b1&&b2) else (b1&&b2)),?_,oC _⟩
  cases neg <;>simp only[execOp,ho,e1,e2,if_true,Bool.false_eq_true,if_false,Sem.run_bind,eqGuard] <;>simp[binOp,Op.equal,Op.maxDepth,he]
end
section
variable {c:cM} {A:ae} {o:Oper} {x:I}
theorem XV{t:TypeId}{d:Nat}(ho:o.op=.makeMap t none)(hd:o.dst=some d)(hn:d<c.n)(hf:A.o d=none):iM c A o ((A.aM d (.cu [] [])).put d (.mref d)):=by
 intro a w D E hs
 have h1:=hs.ai3 (.inl hn) hf
 have h2:=h1.put (x:=.mref d) (v:=.map (some w.heap.size)) hn ⟨_,by simp[bK,I.isAgg];rfl,by
  simp only[af,if_true]
  exact ⟨w.heap.size,rfl,rfl⟩⟩
 exact ⟨w.alloc (.map #[] 0),.inl ⟨.map (some w.heap.size),by simp[execOp,ho,Instr.makeMap],D,_,by rw[hd];exact h2⟩⟩
theorem yS{w:World}{D:aP}{E:aX} : ∀ {xs ys:List I} {us vs:List Value},aF w D E xs us→aF w D E ys vs→aF w D E (xs++ys) (us++vs)
 | [],ys,us,vs,h,k=>by simp only[aF] at h;subst h;simpa using k
 |x::xs,ys,us,vs,h,k=>by
  simp only[aF,List.cons_append] at *
  obtain ⟨v,rest,cs,rfl,h1,h2,h3⟩:=h
  exact ⟨v,rest++vs,cs,rfl,h1,h2,yS h3 k⟩
theorem M6{w:World}{D:aP}{E:aX} : ∀ {xs:List I} {us:List Value} {i:Nat} {y:I} {v:Value} {cs:List Value},aF w D E xs us→bK y v cs→af w D E y cs→aF w D E (xs.set i y) (us.set i v)
 | [],us,i,y,v,cs,h,_,_=>by simp only[aF] at h;subst h;simp[aF]
 |x::xs,us,i,y,v,cs,h,k1,k2=>by
  simp only[aF] at h
  obtain ⟨u,rest,ds,rfl,h1,h2,h3⟩:=h
  cases i with
  |zero=>simp only[List.set_cons_zero,aF];exact ⟨v,rest,cs,rfl,k1,k2,h3⟩
  |succ i=>simp only[List.set_cons_succ,aF];exact ⟨u,_,ds,rfl,h1,h2,M6 h3 k1 k2⟩
theorem M5{w:World}{D:aP}{E:aX}{y:I}{v:Value}{cs:List Value}(h1:bK y v cs)(h2:af w D E y cs):aF w D E [y] [v]:=by
 simp only[aF];exact ⟨v,[],cs,rfl,h1,h2,rfl⟩
theorem Dv{ty:cN}{k:I} : ∀ {ks:List I} {i j:Nat},eY ty k ks i=some (some j)→∃ x,ks[j-i]?=some x∧i≤j∧ca ty k x=some true
 | [],i,j,h=>by simp[eY] at h
 |x::xs,i,j,h=>by
  simp only[eY] at h
  split at h
  ·rename_i hb
   simp only[Option.some.injEq] at h
   subst h
   exact ⟨x,by simp,Nat.le_refl _,hb⟩
  ·obtain ⟨y,h1,h2,h3⟩:=Dv h
   refine ⟨y,?_,by omega,h3⟩
   rw[show j-i=(j-(i+1))+1 from by omega]
   simpa using h1
  ·cases h
theorem CZ{t kt et:TypeId}{m k v:Operand}{m' k' v':aK}{ty:cN}{n:Nat}{ks vs ks' vs':List I}(ho:o.op=.mapUpdate t m k v∨o.op=.insert t m k v)(hu:c.P.underlying t=some (.map kt et))(hk:lO c.P kt=some ty)
  (hm:bH c.P 0 m=some m') (hk':bH c.P 0 k=some k') (hv':bH c.P et v=some v') (hmm:ab A m'=.mref n) (hn:A.o n=some (.cu ks vs)) (hl:gj ty (ab A k') (ab A v') ks vs=some (ks',vs')) (hd:o.dst=none) :
  iM c A o (A.aM n (.cu ks' vs')):=by
 intro a w D E hs
 have h1:=b8 hs hm
 have h2:=b8 hs hk'
 have h3:=b8 hs hv'
 rw[hmm] at h1
 unfold gj at hl
 split at hl
 case isFalse=>cases hl
 rename_i hc
 obtain ⟨hkk,hkv,hvv⟩:=hc
 obtain ⟨rk,hrk⟩:=Option.isSome_iff_exists.1 hkk
 have hchk:=fun em=>CC (P:=c.P) (w:=w) (em:=em) hk h2 hrk 9998
 obtain ⟨kcs,kp1,kp2⟩:=oY hkv h2
 obtain ⟨vcs,vp1,vp2⟩:=oY hvv h3
 obtain ⟨b,es,ck,k1,k2,k3,k4,k5,k6,k7⟩:=hs.map hn
 have hmv:a.eval m=.map (some b):=by
  obtain ⟨cs,q1,q2⟩:=h1
  simp only[af] at q2
  obtain ⟨b',q3,q4⟩:=q2
  rw[k1] at q3;cases q3
  simpa[bK,I.isAgg,q4] using q1.symm
 -- the new entries
 have step:∀ (es':Array MapEntry) (ck':Nat),(Instr.mapUpdate t (.map (some b)) (a.eval k) (a.eval v)).run c.P w=.ok () (w.putObj b (.map es' ck'))→qf es' ck'→aF w D E ks' (es'.toList.map (·.key))→aF w D E vs' (es'.toList.map (·.val)) →
   ∃ w',((∃ u,(execOp a.eval o).run c.P w=.ok (.value u) w'∧cj c (A.aM n (.cu ks' vs')) (a.put o.dst u) w')∨((execOp a.eval o).run c.P w=.ok .skip w'∧cj c (A.aM n (.cu ks' vs')) (a.put o.dst undef) w')):=fun es' ck' hrun hst hks hvs=>by
  refine ⟨w.putObj b (.map es' ck'),.inr ⟨?_,?_⟩⟩
  ·rcases ho with ho | ho <;>simp only[execOp,ho,hmv,Sem.run_bind,hrun,Result.andThen_ok,Sem.run_pure]
  ·rw[hd]
   have:=hs.Nc (o':=.map es' ck') (x:=.cu ks' vs') k1 rfl rfl k3 rfl (fun q=>by simp) k2 (fun hl' hh hno=>⟨b,es',ck',k1,k2,hh,hst,aF.bL hl' _ _ hks,aF.bL hl' _ _ hvs,hno⟩)
   exact ⟨D,E,this⟩
 split at hl
 ·rename_i i hfi
  simp only[Option.some.injEq,Prod.mk.injEq] at hl
  obtain ⟨rfl,rfl⟩:=hl
  obtain ⟨q,q1,q2⟩:=sK hk h2 k5 hfi
  rcases q2 with ⟨e,_⟩ | ⟨j,e,e1,e2,rfl⟩
  ·cases e
  simp only[Nat.zero_add,Option.some.injEq] at e1
  subst e1
  obtain ⟨y,y1,_,y2⟩:=Dv hfi
  simp only[Nat.sub_zero] at y1
  obtain ⟨y',y3,y4⟩:=mQ (j:=i) (v:=e.key) k5 (by simp only[List.getElem?_map,e2,Option.map_some])
  rw[y1,Option.some.injEq] at y3
  subst y3
  obtain ⟨_,kk2,kk3⟩:=aih hk y2 h2 y4
  have hes:es[i]?=some e:=by rw[←Array.getElem?_toList];exact e2
  have hlen:i<es.size:=(Array.getElem?_eq_some_iff.1 hes).1
  refine step (es.modify i fun e => { e with key:=a.eval k,val:=a.eval v }) ck ?_ ?_ ?_ ?_
  ·have hsb:Instr.sameBits 10000 (((es[i]?).map (·.key)).getD (a.eval k)) (a.eval k)=true:=by
    rw[hes];simp only[Option.map_some,Option.getD_some];rw[←kk2];rw[←kk2] at kk3;exact kk3
   simp only[Instr.mapUpdate,Sem.run_bind,run_underlying hu,Result.andThen_ok,MapKept.run_getObj_map k3,hchk,q1,Nat.zero_add,Instr.keyThatStays,hsb,if_true,Sem.run_pure,MapKept.run_setObj_map _ k3]
   rfl
  all_goals
   have em:(es.modify i fun e => { e with key:=a.eval k,val:=a.eval v }).toList=es.toList.set i { e with key:=a.eval k,val:=a.eval v } :=by
    rw[Array.toList_modify]
    apply List.ext_getElem?
    intro j
    rw[List.getElem?_modify,List.getElem?_set]
    by_cases hij:i=j
    ·subst hij
     have hge:es[i]'hlen=e:=(Array.getElem?_eq_some_iff.1 hes).2
     simp[hlen,hge]
    ·simp[hij]
  ·refine ⟨fun x hx =>?_,?_⟩
   ·rw[em] at hx
    rcases List.mem_or_eq_of_mem_set hx with hx | rfl
    ·exact k4.1 x hx
    ·exact k4.1 e (List.mem_of_getElem? e2)
   ·rw[em]
    have:(es.toList.set i { e with key:=a.eval k,val:=a.eval v }).map (·.born)=es.toList.map (·.born):=by
     rw[List.map_set]
     apply List.ext_getElem?
     intro j
     rw[List.getElem?_set]
     split
     ·rename_i hij;subst hij
      simp[e2]
      exact hlen
     ·rfl
    rw[this];exact k4.2
  ·rw[em,List.map_set]
   have:(es.toList.map (·.key)).set i (a.eval k)=es.toList.map (·.key):=by
    apply List.ext_getElem?
    intro j
    rw[List.getElem?_set]
    split
    ·rename_i hij;subst hij
     simp[e2,kk2]
     exact hlen
    ·rfl
   simp only[this];exact k5
  ·rw[em,List.map_set];exact M6 k6 vp1 vp2
 ·rename_i hfi
  simp only[Option.some.injEq,Prod.mk.injEq] at hl
  obtain ⟨rfl,rfl⟩:=hl
  obtain ⟨q,q1,q2⟩:=sK hk h2 k5 hfi
  rcases q2 with ⟨_,rfl⟩ | ⟨j,e,e1,_⟩
  case inr=>cases e1
  refine step (es.push { key:=a.eval k,val:=a.eval v,born:=ck }) (ck+1) ?_ ⟨fun x hx =>?_,?_⟩ ?_ ?_
  ·simp only[Instr.mapUpdate,Sem.run_bind,run_underlying hu,Result.andThen_ok,MapKept.run_getObj_map k3,hchk,q1,MapKept.run_setObj_map _ k3]
   rfl
  ·simp only[Array.toList_push,List.mem_append,List.mem_singleton] at hx
   rcases hx with hx | rfl
   ·have:=k4.1 x hx;omega
   ·simp
  ·simp only[Array.toList_push,List.map_append,List.map_cons,List.map_nil]
   refine List.nodup_append.2 ⟨k4.2,by simp,fun x hx y hy =>?_⟩
   simp only[List.mem_singleton] at hy
   subst hy
   obtain ⟨e,he,rfl⟩:=List.mem_map.1 hx
   exact Nat.ne_of_lt (k4.1 e he)
  ·simp only[Array.toList_push,List.map_append,List.map_cons,List.map_nil];exact yS k5 (M5 kp1 kp2)
  ·simp only[Array.toList_push,List.map_append,List.map_cons,List.map_nil];exact yS k6 (M5 vp1 vp2)
 ·cases hl
theorem XX{t kt et:TypeId}{y:Operand}{y':aK}{ks vs:List I}{d:Nat}(ho:o.op=.range t y)(hu:c.P.underlying t=some (.map kt et))(hy:bH c.P 0 y=some y')(h:ab A y'=.cT ks vs)(hd:o.dst=some d)(hn:d<c.n)(hf:A.o d=none) :
  iM c A o ((A.aM d (.it ks vs (List.range ks.length) none)).put d (.dx d)):=by
 intro a w D E hs
 have h1:=b8 hs hy
 rw[h] at h1
 obtain ⟨cs,q1,q2⟩:=h1
 simp only[af] at q2
 obtain ⟨b,es,ck,q3,q4,q5,q6⟩:=q2
 have hv:a.eval y=.map (some b):=by simpa[bK,I.isAgg,q3] using q1.symm
 have h2:=hs.ai2 (.inl hn) hf q4 q5 q6
 have h3:=h2.put (x:=.dx d) (v:=.pointer (some ⟨w.heap.size,0,none⟩)) hn ⟨_,by simp[bK,I.isAgg];rfl,by
  simp only[af,if_true]
  exact ⟨w.heap.size,rfl,rfl⟩⟩
 refine ⟨w.alloc (.mapIter (some b) ck #[] ck),.inl ⟨.pointer (some ⟨w.heap.size,0,none⟩),?_,D,_,by rw[hd];exact h3⟩⟩
 simp only[execOp,ho,hv,Sem.run_bind,run_range_map w t kt et b es ck hu q4.1,Result.andThen_ok,Sem.run_pure]
theorem JL{es:Array MapEntry}{bu:Array Nat}{i:Nat} : i∈oy es bu↔∃ e,es[i]?=some e∧bu.contains e.born=false:=by
 unfold oy
 simp only[List.mem_filter,List.mem_range]
 constructor
 ·rintro ⟨h1,h2⟩
  rw[Array.getElem?_eq_getElem h1] at h2 ⊢
  exact ⟨_,rfl,by simpa using h2⟩
 ·rintro ⟨e,h1,h2⟩
  exact ⟨(Array.getElem?_eq_some_iff.1 h1).1,by rw[h1];simpa using h2⟩
theorem alP{es:Array MapEntry}{ck:Nat}(hst:qf es ck){i j:Nat}{e f:MapEntry}(hi:es[i]?=some e)(hj:es[j]?=some f)(h:e.born=f.born):i=j:=by
 have hn:=hst.2
 rw[←Array.getElem?_toList] at hi hj
 have h1:(es.toList.map (·.born))[i]?=some e.born:=by rw[List.getElem?_map,hi];rfl
 have h2:(es.toList.map (·.born))[j]?=some e.born:=by rw[List.getElem?_map,hj,h];rfl
 have hil:i<(es.toList.map (·.born)).length:=(List.getElem?_eq_some_iff.1 h1).1
 have hjl:j<(es.toList.map (·.born)).length:=(List.getElem?_eq_some_iff.1 h2).1
 exact (List.getElem?_inj hil hn).1 (h1.trans h2.symm)
theorem aiz{es:Array MapEntry}{bu:Array Nat}{ck i:Nat}{e:MapEntry}(hst:qf es ck)(hi:es[i]?=some e):oy es (bu.push e.born)=(oy es bu).filter (· != i):=by
 unfold oy
 rw[List.filter_filter]
 refine List.filter_congr fun j hj =>?_
 have hjl:j<es.size:=by simpa using hj
 rw[Array.getElem?_eq_getElem hjl]
 simp only[Array.contains_push]
 by_cases hij:j=i
 ·subst hij
  rw[Array.getElem?_eq_getElem hjl,Option.some.injEq] at hi
  simp[hi]
 ·have:(es[j].born==e.born)=false:=by
   simp only[beq_eq_false_iff_ne,ne_eq]
   exact fun h=>hij (alP hst (Array.getElem?_eq_getElem hjl) hi h)
  have h2:(j != i)=true:=by simpa using hij
  simp[this,h2]
theorem ai4{y:Operand}{y':aK}{ks vs:List I}{left:List Nat}{cur:Option Nat}{n:Nat}(ho:o.op=.next y false)(hy:bH c.P 0 y=some y')(h:ab A y'=.dx n)(hn:A.o n=some (.it ks vs left cur))(hdn:∀ k,o.dst=some k→k<c.n){a:Act}{w:World}{D:aP}{E:aX}(hs:aS c A a w D E) :
  ∃ w' v,(execOp a.eval o).run c.P w=.ok (.value v) w'∧((left=[]∧cj c (A.aO o.dst (.tuple [.bool false])) (a.put o.dst v) w') ∨
   ∃ i k x,i∈left∧ks[i]?=some k∧vs[i]?=some x∧cj c ((A.aM n (.it ks vs (left.filter (· != i)) (some i))).aO o.dst (.tuple [.bool true,k,x])) (a.put o.dst v) w'):=by
 have h1:=b8 hs hy
 rw[h] at h1
 obtain ⟨cs,q1,q2⟩:=h1
 simp only[af] at q2
 obtain ⟨r,q3,q4⟩:=q2
 have hv:a.eval y=.pointer (some ⟨r,0,none⟩):=by simpa[bK,I.isAgg,q4] using q1.symm
 have hob:=hs.bX n
 rw[hn] at hob
 obtain ⟨r',b,es,ck,since,bu,last,k1,k2,k3,k4,k5,k6,k7,k8,k9,k9',k10⟩:=hob
 rw[k1] at q3;cases q3
 rcases run_next_at (P:=c.P) w o.type r b since last bu es ck k3 k4.1 k7 k8.1 with ⟨h0,hrun⟩ | ⟨e,he,w1,hal,hrun⟩
 ·refine ⟨w,.tuple #[.bool false],by simp only[execOp,ho,hv,Sem.run_bind,hrun,Result.andThen_ok,Sem.run_pure],.inl ⟨?_,D,E,hs.aO hdn ?_⟩⟩
  ·rw[k9]
   refine List.eq_nil_iff_forall_not_mem.2 fun i hi =>?_
   obtain ⟨e,h1,h2⟩:=JL.1 hi
   have hm:e∈leftOf es bu:=by
    unfold leftOf
    simp only[Array.mem_filter]
    exact ⟨Array.mem_of_getElem? h1,by simpa using h2⟩
   rw[Array.eq_empty_of_size_eq_zero h0] at hm
   simp at hm
  ·simp only[aW,aF]
   exact ⟨[.bool false],rfl,.bool false,[],[.bool false],rfl,by simp[bK,I.isAgg],by simp[af],rfl⟩
 ·have hmem:e∈es.toList∧bu.contains e.born=false:=by
   unfold leftOf at he
   simp only[Array.toList_filter,List.mem_filter] at he
   exact ⟨he.1,by simpa using he.2⟩
  obtain ⟨i,hi⟩:=List.getElem?_of_mem hmem.1
  have hie:es[i]?=some e:=by rw[←Array.getElem?_toList];exact hi
  obtain ⟨k,hk1,hk2⟩:=mQ (j:=i) (v:=e.key) k5 (by simp only[List.getElem?_map,hi,Option.map_some])
  obtain ⟨x,hx1,hx2⟩:=mQ (j:=i) (v:=e.val) k6 (by simp only[List.getElem?_map,hi,Option.map_some])
  have hsw:aS c A a w1 D E:=by
   rcases hal with rfl | rfl
   ·exact hs
   ·exact hs.grow (w':=w.drew) (D':=D) ⟨rfl,rfl,rfl,Nat.le_refl _,fun _ _=>rfl⟩ (fun _ _ h=>h) (fun _ _ h _=>h) (fun b o hd=>hs.de b o hd)
  have hw1:w1.heap=w.heap:=by rcases hal with rfl | rfl <;>rfl
  have k3':w1.heap[r]?=some (.mapIter (some b) since bu last):=by rw[hw1];exact k3
  have hset:=hsw.Nc (x:=.it ks vs (left.filter (· != i)) (some i)) (o':=.mapIter (some b) since (bu.push e.born) ck) k1 rfl rfl k3' rfl (fun q=>by simp) k2
   (fun hl hh hno=>by
    have hm:oD w1 D b es ck:=⟨by rw[hw1];exact k4.1,k4.2.1,k4.2.2⟩
    have hob:=hsw.bX n
    rw[hn] at hob
    refine ⟨r,b,es,ck,since,bu.push e.born,ck,k1,k2,hh,hm.bL hl,aF.bL hl _ _ ?_,aF.bL hl _ _ ?_,k7,?_,?_,fun j hj =>?_,hno⟩
    ·obtain ⟨dT,b2,es2,ck2,si2,se2,la2,g1,g2,g3,g4,g5,g6,_⟩:=hob
     rw[k1] at g1;cases g1
     rw[k3'] at g3;cases g3
     have:=g4.1;rw[hw1,k4.1] at this;cases this
     exact g5
    ·obtain ⟨dT,b2,es2,ck2,si2,se2,la2,g1,g2,g3,g4,g5,g6,_⟩:=hob
     rw[k1] at g1;cases g1
     rw[k3'] at g3;cases g3
     have:=g4.1;rw[hw1,k4.1] at this;cases this
     exact g6
    ·exact ⟨k8.2,k8.2⟩
    ·rw[k9,aiz k4.2.2 hie]
    ·cases hj
     exact ⟨e,hie,by simp,rfl⟩)
  have hset':aS c (A.aM n (.it ks vs (left.filter (· != i)) (some i))) a (ChangeMaps.setBlock w1 r (.mapIter (some b) since (bu.push e.born) ck)) D E:=hset
  refine ⟨_,.tuple #[.bool true,e.key,e.val],by simp only[execOp,ho,hv,Sem.run_bind,hrun,Result.andThen_ok,Sem.run_pure],.inr ⟨i,k,x,?_,hk1,hx1,D,E,hset'.aO hdn ?_⟩⟩
  ·rw[k9];exact JL.2 ⟨e,hie,hmem.2⟩
  ·have hob2:=hset'.bX n
   simp only[ae.aM,if_true] at hob2
   obtain ⟨dT,b2,es2,ck2,si2,se2,la2,g1,g2,g3,g4,g5,g6,_⟩:=hob2
   rw[k1] at g1;cases g1
   have hr2:(ChangeMaps.setBlock w1 r (.mapIter (some b) since (bu.push e.born) ck)).heap[r]?=some (.mapIter (some b) since (bu.push e.born) ck):=World.putObj_heap_same (w:=w1) (fT k3')
   rw[hr2] at g3;cases g3
   have hb2:(ChangeMaps.setBlock w1 r (.mapIter (some b) since (bu.push e.born) ck)).heap[b]?=some (.map es ck):=by
    have:b≠r:=fun e=>by rw[e] at k4;rw[k4.1] at k3;cases k3
    refine (World.putObj_heap_other (w:=w1) this).trans ?_
    rw[hw1];exact k4.1
   have:=g4.1;rw[hb2] at this;cases this
   obtain ⟨kk,a1,a2⟩:=mQ (j:=i) (v:=e.key) g5 (by simp only[List.getElem?_map,hi,Option.map_some])
   rw[hk1] at a1;cases a1
   obtain ⟨xx,b1,b2⟩:=mQ (j:=i) (v:=e.val) g6 (by simp only[List.getElem?_map,hi,Option.map_some])
   rw[hx1] at b1;cases b1
   obtain ⟨c1,c2,c3⟩:=oY (qa k5 hk1) a2
   obtain ⟨d1,d2,d3⟩:=oY (qa k6 hx1) b2
   simp only[aW,aF]
   exact ⟨[.bool true,e.key,e.val],rfl,.bool true,_,[.bool true],rfl,by simp[bK,I.isAgg],by simp[af],e.key,_,c1,rfl,c2,c3,e.val,[],d1,rfl,d2,d3,rfl⟩
theorem ahz{y:Operand}{y':aK}{ks vs:List I}{left:List Nat}{i n:Nat}{k x:I}(ho:o.op=.entry y)(hy:bH c.P 0 y=some y')(h:ab A y'=.dx n)(hn:A.o n=some (.it ks vs left (some i)))(hk:ks[i]?=some k)(hx:vs[i]?=some x):dL c A o (.tuple [k,x]) :=
 .same fun a w D E hs=>by
  have h1:=b8 hs hy
  rw[h] at h1
  obtain ⟨cs,q1,q2⟩:=h1
  simp only[af] at q2
  obtain ⟨r,q3,q4⟩:=q2
  have hv:a.eval y=.pointer (some ⟨r,0,none⟩):=by simpa[bK,I.isAgg,q4] using q1.symm
  have hob:=hs.bX n
  rw[hn] at hob
  obtain ⟨r',b,es,ck,since,bu,last,k1,k2,k3,k4,k5,k6,k7,k8,k9,k9',k10⟩:=hob
  rw[k1] at q3;cases q3
  obtain ⟨e,e1,e2,rfl⟩:=k9' i rfl
  have hi:es.toList[i]?=some e:=by rw[Array.getElem?_toList];exact e1
  obtain ⟨kk,a1,a2⟩:=mQ (j:=i) (v:=e.key) k5 (by simp only[List.getElem?_map,hi,Option.map_some])
  rw[hk] at a1;cases a1
  obtain ⟨xx,b1,b2⟩:=mQ (j:=i) (v:=e.val) k6 (by simp only[List.getElem?_map,hi,Option.map_some])
  rw[hx] at b1;cases b1
  obtain ⟨c1,c2,c3⟩:=oY (qa k5 hk) a2
  obtain ⟨d1,d2,d3⟩:=oY (qa k6 hx) b2
  have hf:es.find? (·.born==e.born)=some e:=by rw[←Array.find?_toList];exact find_born e es.toList k4.2.2.2 (List.mem_of_getElem? hi)
  refine ⟨.tuple #[e.key,e.val],?_,?_⟩
  ·have hr:(Instr.entry (.pointer (some ⟨r,0,none⟩))).run c.P w=.ok (.tuple #[e.key,e.val]) w:=by
    simp only[Instr.entry,getObj,Sem.run_bind,Sem.run,k3,k4.1,Result.andThen,e2,bne_self_eq_false,Bool.false_eq_true,if_false,hf]
    rfl
   simp only[execOp,ho,hv,Sem.run_bind,hr,Result.andThen_ok,Sem.run_pure]
  ·simp only[aW,aF]
   exact ⟨[e.key,e.val],rfl,e.key,_,c1,rfl,c2,c3,e.val,[],d1,rfl,d2,d3,rfl⟩
theorem MD{w:World}{D:aP}{E:aX}{z:I}{v:Value}(h:af w D E z [v]):∀ n:Nat,aG w D E (List.replicate n z) (List.replicate n v)
 |0=>by simp[aG]
 |n+1=>by simp only[List.replicate_succ,aG];exact ⟨[v],_,rfl,h,MD h n⟩
theorem XW{t e:TypeId}{l l':Operand}{n':aK}{z:I}{n d:Nat}{k:IntKind}(ho:o.op=.makeSlice t l l')(hll:l'=l)(hu:c.P.underlying t=some (.slice e))(hl:bH c.P 0 l=some n')(h:ab A n'=.int k n)(hz:fZ c.P e=some z)(hz1:z.size=1)
  (hc1:c.P.cellsOf e=1) (hby:n*c.P.bytesOf e≤281474976710656) (hmax:n≤maxLen) (hd:o.dst=some d) (hn:d<c.n) (hf:A.o d=none):iM c A o ((A.aM d (.box (.agg (List.replicate n z)))).put d (.view d [] 1 0 n)):=by
 subst hll
 intro a w D E hs
 have h1:=b8 hs hl
 rw[h] at h1
 obtain ⟨e1,_⟩:=fx h1
 obtain ⟨i,zv,hi,hzz,hzr⟩:=l7 hz
 have hzc:=af.length _ _ (hzr w D E)
 rw[hz1] at hzc
 obtain ⟨u,hu1⟩:∃ u,zv.cells = #[u]:=by
  have:zv.cells.size=1:=by simpa using hzc
  obtain ⟨u,hu⟩:=Array.size_eq_one_iff.1 this
  exact ⟨u,hu⟩
 have hsz:i.size=1:=by have:=hc1;simp only[Program.cellsOf,hi,Option.map_some,Option.getD_some] at this;exact this
 have hbytes:(i.bytes:Int)*(n:Int)≤281474976710656:=by
  have:c.P.bytesOf e=i.bytes:=by simp[Program.bytesOf,hi]
  rw[this] at hby
  have h2:((i.bytes*n:Nat):Int)≤281474976710656:=by rw[Nat.mul_comm] at hby;omega
  rwa [Int.natCast_mul] at h2
 have hrun:=run_make (P:=c.P) w t e i zv hu hi hzz k k n n (by omega) (Int.le_refl _) hbytes (by have h9:=hmax;unfold maxLen at h9;omega)
 simp only[Int.toNat_natCast,hsz,Nat.mul_one] at hrun
 have hmc:(madeCells zv.cells n).toList=List.replicate n u:=by
  rw[hu1]
  simp only[madeCells]
  apply List.ext_getElem?
  intro j
  simp[List.getElem?_replicate]
  split <;>simp_all[Nat.mod_one]
 have hcells:af w D E (.agg (List.replicate n z)) (madeCells zv.cells n).toList:=by
  rw[hmc]
  simp only[af]
  refine MD ?_ n
  have:=hzr w D E
  rw[hu1] at this
  simpa using this
 have h2:=hs.qV (T:=e) (.inl hn) hf hcells
 have h3:=h2.put (x:=.view d [] 1 0 n) (v:=.slice (some ⟨w.heap.size,0,none⟩) n n) hn ⟨_,by simp[bK,I.isAgg];rfl,by
  simp only[af,if_true]
  refine ⟨w.heap.size,_,0,I.cR (List.replicate n z),rfl,by simp[cO.off],by simp[I.aQ,cO.part],by simp[I.dq],by simpa[I.dq] using hmax,by simp[I.dq],fun s hs =>?_⟩
  rw[I.dq] at hs
  obtain ⟨y,hy,rfl⟩:=List.mem_map.1 hs
  rw[I.l5,(List.mem_replicate.1 hy).2,hz1]⟩
 refine ⟨_,.inl ⟨_,?_,D,_,by rw[hd];exact h3⟩⟩
 simp only[execOp,ho,e1,Sem.run_bind,hrun,Result.andThen_ok,Sem.run_pure]
end
end Go.Abs
namespace Go.Abs
open Go Go.RowKit
mutual
/-- Values that lead to no memory. -/
def I.flat:I→Bool
 | .agg fs | .tuple fs=>I.pC fs
 | .bool _ | .int _ _ | .cX _ | .nilp | .dj | .dR | .raw _ | .undef | .c9=>true
 |_=>false
def I.pC:List I→Bool
 | []=>true
 |x::xs=>x.flat&&I.pC xs
end
mutual
theorem af.flat{w w':World}{D D':aP}{E E':aX} : ∀ (x:I) (cs:List Value),x.flat=true→af w D E x cs→af w' D' E' x cs
 | .agg fs,cs,hf,hr=>by simp only[af,I.flat] at *;exact aG.flat fs cs hf hr
 | .bool b,cs,_,hr=>by simpa only[af] using hr
 | .int k n,cs,_,hr=>by simpa only[af] using hr
 | .cX s,cs,_,hr=>by simpa only[af] using hr
 | .nilp,cs,_,hr=>by simpa only[af] using hr
 | .dj,cs,_,hr=>by simpa only[af] using hr
 | .dR,cs,_,hr=>by simpa only[af] using hr
 | .raw _,cs,_,hr=>by simpa only[af] using hr
 | .undef,_,_,hr=>by simp only[af] at hr
 | .c9,_,_,hr=>by simp only[af] at hr
 | .tuple _,_,_,hr=>by simp only[af] at hr
 | .nils _,_,hf,_ | .c0 _,_,hf,_ | .slice _ _,_,hf,_ | .ref _,_,hf,_ | .func _ _,_,hf,_ | .iface _ _,_,hf,_ | .ptr _ _,_,hf,_ | .own _ _,_,hf,_ | .view _ _ _ _ _,_,hf,_ | .mref _,_,hf,_ | .dx _,_,hf,_ | .cT _ _,_,hf,_=>by simp[I.flat] at hf
theorem aG.flat{w w':World}{D D':aP}{E E':aX} : ∀ (xs:List I) (cs:List Value),I.pC xs=true→aG w D E xs cs→aG w' D' E' xs cs
 | [],cs,_,hr=>by simpa only[aG] using hr
 |x::xs,cs,hf,hr=>by
  simp only[aG,I.pC,Bool.and_eq_true] at *
  obtain ⟨c1,c2,h1,h2,h3⟩:=hr
  exact ⟨c1,c2,h1,af.flat x c1 hf.1 h2,aG.flat xs c2 hf.2 h3⟩
end
theorem aF.flat{w w':World}{D D':aP}{E E':aX} : ∀ (xs:List I) (vs:List Value),I.pC xs=true→aF w D E xs vs→aF w' D' E' xs vs
 | [],vs,_,hr=>by simpa only[aF] using hr
 |x::xs,vs,hf,hr=>by
  simp only[aF,I.pC,Bool.and_eq_true] at *
  obtain ⟨v,rest,cs,h1,h2,h3,h4⟩:=hr
  exact ⟨v,rest,cs,h1,h2,af.flat x cs hf.1 h3,aF.flat xs rest hf.2 h4⟩
theorem aW.flat{w w':World}{D D':aP}{E E':aX}{x:I}{v:Value}(hf:x.flat=true)(hr:aW w D E x v):aW w' D' E' x v:=by
 cases x <;>simp only[aW] at * <;>first
  |exact hr
  |(obtain ⟨vs,h1,h2⟩:=hr;exact ⟨vs,h1,aF.flat _ _ (by simpa[I.flat] using hf) h2⟩)
  |(obtain ⟨cs,h1,h2⟩:=hr;exact ⟨cs,h1,af.flat _ _ hf h2⟩)
def du:aX:=fun _=>none
def aw(P:Program)(f:FuncId)(args:List I)(r:I):Prop :=
 gS P f=true∧∀ (w:World) (D:aP) (vs:List Value),(∀ b o,D b o→b<w.heap.size)→aF w D du args vs →
  Calls P f vs.toArray w fun e w'=>∃ v D',e=.returned v∧aW w' D' du r v∧Below w.heap.size w w'∧(∀ b o,D' b o→b<w'.heap.size)∧∀ b o,D' b o→b<w.heap.size→D b o
def cH(P:Program)(f:FuncId)(args:List I)(os:List (Nat×ah))(post:cV):Prop :=
 gS P f=true∧ql (Calls P f) (fun _ _ _=>True) args os post
def bg(p:Nat→Bool):List (Nat×ah)→Prop
 | []=>True
 |(_,v)::r=>v.only p=true∧bg p r
def cE(ns:List Nat)(os:List (Nat×ah)):List (Nat×ah):=os.filter fun q => !ns.contains q.1
def fG(ns:List Nat)(ts:List (Nat×I)):List (Nat×I):=ts.map fun q=>(q.1,if q.2.only (fun n => !ns.contains n) then q.2 else .c9)
def fW(ns:List Nat)(os:List (Nat×ah)):List (Nat×ah):=os.filter fun q=>ns.contains q.1
def jR(ρ:List (Nat×Nat))(os:List (Nat×ah)):List Nat:=os.map fun q=>bJ ρ q.1
def jq(aC:Bool)(A0:ae)(ρ:List (Nat×Nat))(os:List (Nat×ah)):List I→List I→Prop
 | [],[]=>True
 |x::xs,c::cs=>((x=c.aR (bJ ρ)∧c.only (aq os)=true∧c.cq=true)∨bd aC A0 x=some c)∧jq aC A0 ρ os xs cs
 |_,_=>False
structure aB where
 dst:Option Nat
 op:b6
 guard:Option (Nat×Bool)
 deriving Inhabited
inductive cL where
 |done (A:ae)
 |fail
 |call (f:FuncId) (avs:List I) (a1 a2:Option (List I)) (dst:Option Nat) (rest:List aB) (A:ae)
 |po (v:Value) (avs:List I) (dst:Option Nat) (rest:List aB) (A:ae)
 |kv (f:FuncId) (avs:List I) (dst:Option Nat) (rest:List aB) (A:ae)
 |any (p:Nat→Prop) (k:Nat→cL)
def cP(x:Option I)(k:I→cL):cL:=match x with
 |some v=>k v
 |none=>.fail
def yd(s:Option Nat)(v old:I):Prop:=v.cq=true∧b5 s v=true∧v.aQ=old.aQ
def x9(e esz bytes l sz:Nat)(ys:List I)(T sz':Nat)(es:List I):Prop:=l=es.length∧sz=esz∧T=e∧sz'=esz∧ys≠[]∧es.length+ys.length≤maxLen∧(es.length+ys.length)*bytes≤140737488355328
def qM(ys:List I):List Int:=ys.filterMap fun y=>match y with | .int .i64 i=>some i | _=>none
def ya(e esz bytes l:Nat)(ys:List I)(T:Nat)(xs:List Int)(z:I):Prop:=l=xs.length∧esz=1∧T=e∧z=.int .i64 0∧ys=(qM ys).map (.int .i64)∧ys≠[]∧xs.length+ys.length≤maxLen∧(xs.length+ys.length)*bytes≤140737488355328
def j4:I→Bool
 | .slice _ es=>es.isEmpty
 | .c0 _=>true
 |_=>false
open Classical in
noncomputable def gp(A:ae)(dst:Option Nat)(esz bytes:Nat)(z:I)(es ys:List I)(k:ae→cL):cL :=
 match dst with
 |some d=>match A.o d with
  |none=>if (es.length+ys.length)*bytes≤140737488355328∧es.length+ys.length≤maxLen then
    .any (fun m=>es.length+ys.length+m≤maxLen) (fun m=>k ((A.aM d (.box (.agg (es++(ys++List.replicate m z))))).aO dst (.view d [] esz 0 (es.length+ys.length)))) else .fail
  |some _=>.fail
 |none=>.fail
open Classical in
noncomputable def ff(A:ae)(dst:Option Nat)(esz bytes:Nat)(z:I)(s:I):Option (List I)→Option (List I)→(ae→cL)→cL
 |some es,some ys,k=>if ys=[] then k (A.aO dst s) else match s with
  | .nils _=>gp A dst esz bytes z es ys k
  | .c0 _=>gp A dst esz bytes z es ys k
  | .view n p sz lo l=>match A.o n with
   |some (.box b)=>match b.at p with
    |some (.agg fs)=>if lo+l+ys.length≤fs.length then
      (if sz=esz∧I.cR ys=I.cR ((fs.drop (lo+l)).take ys.length) then k ((A.aM n (.box (iH b p (lo+l) fs ys))).aO dst (.view n p esz lo (l+ys.length))) else .fail)
      else gp A dst esz bytes z es ys k
    |_=>.fail
   |_=>.fail
  |_=>.fail
 |_,_,_=>.fail
open Classical in
noncomputable def u7(A:ae)(dst:Option Nat)(esz bytes:Nat)(z:I)(m:Nat)(s:I):Option (List I)→(ae→cL)→cL
 |some es,k=>match s with
  | .view n p _ lo l=>match A.o n with
   |some (.box b)=>match b.at p with
    |some (.agg fs)=>if 0<m∧fs.length<lo+l+m then gp A dst esz bytes z es (List.replicate m z) k else .fail
    |_=>.fail
   |_=>.fail
  |_=>.fail
 |_,_=>.fail
open Classical in
noncomputable def nd(A:ae)(esz:Nat)(z:I)(k:ae→cL):I→cL
 | .view n p sz lo l=>match A.o n with
  |some (.box b)=>match b.at p with
   |some (.agg fs)=>if sz=esz∧I.cR (List.replicate l z)=I.cR ((fs.drop lo).take l) then k (A.aM n (.box (iH b p lo fs (List.replicate l z)))) else .fail
   |_=>.fail
  |_=>.fail
 | .nils _=>k A
 | .c0 _=>k A
 |_=>.fail
open Classical in
noncomputable def su(A:ae)(dst:Option Nat)(esz:Nat)(k:ae→cL):I→Option (List I)→cL
 | .view n p sz lo l,some ys=>match A.o n with
  |some (.box b)=>match b.at p with
   |some (.agg fs)=>if sz=esz∧I.cR (ys.take (min ys.length l))=I.cR ((fs.drop lo).take (min ys.length l)) then k ((A.aM n (.box (iH b p lo fs (ys.take (min ys.length l))))).aO dst (.int .i64 (min ys.length l:Nat))) else .fail
   |_=>.fail
  |_=>.fail
 |_,_=>.fail
open Classical in
noncomputable def bn(A:ae)(dst:Option Nat)(op:b6)(rest:List aB)(k:ae→cL):cL :=
 match op with
 | .alloc z=>match dst with
  |some d=>match A.o d with
   |none=>k ((A.aM d (.box z)).put d (.ptr d []))
   |some _=>.fail
  |none=>.fail
 | .box x=>match dst with
  |some d=>match A.o d with
   |none=>if (ab A x).cq then k ((A.aM d (.box (ab A x))).put d (.ptr d [])) else .fail
   |some _=>.fail
  |none=>.fail
 | .bl s x v=>match dst with
  |none=>match ab A x with
   | .ptr n p=>match A.o n with
    |some (.box b)=>match b.at p with
     |some old=>if yd s (ab A v) old then k (A.aM n (.box (b.dF p (ab A v)))) else .fail
     |none=>.fail
    |_=>.fail
   |_=>.fail
  |some _=>.fail
 | .cS e esz bytes z s x=>match ab A s with
  | .own n l=>match ab A x with
   | .slice sz ys=>match A.o n with
    |some (.bW T sz' es)=>if x9 e esz bytes l sz ys T sz' es then k ((A.aM n (.bW e esz (es++ys))).aO dst (.own n (es.length+ys.length))) else .fail
    |some (.cU T xs)=>if ya e esz bytes l ys T xs z then k ((A.aM n (.cU e (xs++qM ys))).aO dst (.own n (xs.length+ys.length))) else .fail
    |_=>.fail
   |_=>.fail
  |s'=>ff A dst esz bytes z s' (ev A esz s') (ev A esz (ab A x)) k
 | .me _ esz bytes z s n=>match ab A n with
  | .int _ m=>u7 A dst esz bytes z m.toNat (ab A s) (ev A esz (ab A s)) k
  |_=>.fail
 | .nilS neg x=>if j4 (ab A x) then .any (fun m=>m<2) (fun m=>k (A.aO dst (.bool (m==0)))) else cP (bB A (.nilS neg x)) fun v=>k (A.aO dst v)
 | .js esz z x=>match dst with
  |none=>nd A esz z k (ab A x)
  |some _=>.fail
 | .lA esz x y=>su A dst esz k (ab A x) (ev A esz (ab A y))
 | .call f args=>.call f (args.map (ab A)) (bZ true A (args.map (ab A))) (bZ false A (args.map (ab A))) dst rest A
 | .eH x args=>match ab A x with
  | .func f caps=>.call f (args.map (ab A)++caps) (bZ true A (args.map (ab A)++caps)) (bZ false A (args.map (ab A)++caps)) dst rest A
  | .raw v=>.po v (args.map (ab A)) dst rest A
  |_=>.fail
 | .kv f args=>.kv f (args.map (ab A)) dst rest A
 | .jP=>match dst with
  |some d=>match A.o d with
   |none=>k ((A.aM d (.cu [] [])).put d (.mref d))
   |some _=>.fail
  |none=>.fail
 | .jQ _ bytes z n=>match dst with
  |some d=>match A.o d with
   |none=>match ab A n with
    | .int _ n=>if 0≤n∧n.toNat*bytes≤281474976710656∧n.toNat≤maxLen then k ((A.aM d (.box (.agg (List.replicate n.toNat z)))).put d (.view d [] 1 0 n.toNat)) else .fail
    |_=>.fail
   |some _=>.fail
  |none=>.fail
 | .gK ty m key v=>match dst with
  |none=>match ab A m with
   | .mref n=>match A.o n with
    |some (.cu ks vs)=>match gj ty (ab A key) (ab A v) ks vs with
     |some (ks',vs')=>k (A.aM n (.cu ks' vs'))
     |none=>.fail
    |_=>.fail
   |_=>.fail
  |some _=>.fail
 | .kq x=>match dst with
  |some d=>match A.o d with
   |none=>match ab A x with
    | .cT ks vs=>k ((A.aM d (.it ks vs (List.range ks.length) none)).put d (.dx d))
    |_=>.fail
   |some _=>.fail
  |none=>.fail
 | .jx x=>match ab A x with
  | .dx n=>match A.o n with
   |some (.it ks vs left cur)=>if left=[] then k (A.aO dst (.tuple [.bool false])) else
     .any (fun i=>i∈left) fun i=>match ks[i]?,vs[i]? with
      |some kk,some x=>k ((A.aM n (.it ks vs (left.filter (· != i)) (some i))).aO dst (.tuple [.bool true,kk,x]))
      |_,_=>.fail
   |_=>.fail
  |_=>.fail
 |op=>cP (bB A op) fun v=>k (A.aO dst v)
noncomputable def ay:List aB→ae→cL
 | [],A=>.done A
 |g::rest,A=>match g.guard with
  |none=>bn A g.dst g.op rest (ay rest)
  |some (t,b)=>match A.t t with
   | .bool b'=>if b'=b then bn A g.dst g.op rest (ay rest) else ay rest (A.aO g.dst .undef)
   | .undef=>ay rest (A.aO g.dst .undef)
   |_=>.fail
def PB(P:Program)(A:ae)(f:FuncId)(avs:List I)(r:I):Prop :=
 ∀ (c:cM) (a:Act) (w:World) (D:aP) (E:aX) (vs:List Value),c.P=P→aS c A a w D E→fQ (aW w D E) avs vs→∃ v,(callFunc f vs.toArray).run P w=.ok (.value v) w∧aW w D E r v
inductive bj (P:Program) (Y:Value→List I→List (Nat×ah)→cV→Prop) (dr:Bool) (K:ae→Prop):cL→Prop where
 |done {A:ae} : K A→bj P Y dr K (.done A)
 |flat {f:FuncId} {avs cargs:List I} {a2:Option (List I)} {dst:Option Nat} {rest:List aB} {A:ae} (r:I):aw P f cargs r→r.flat=true→bj P Y dr K (ay rest (A.aO dst r))→bj P Y dr K (.call f avs (some cargs) a2 dst rest A)
 |lead {f:FuncId} {avs cargs:List I} {a1:Option (List I)} {dst:Option Nat} {rest:List aB} {A:ae} (r:I):aw P f cargs r→bj P Y dr K (ay rest (A.aO dst r))→bj P Y dr K (.call f avs a1 (some cargs) dst rest A)
 |gU {f:FuncId} {avs cargs:List I} {a1 a2:Option (List I)} {dst:Option Nat} {rest:List aB} {ts:List (Nat×I)} {os0:List (Nat×ah)} (ns:List Nat) (r:I):dr=false→aw P f cargs r→bZ true (ar ts (fW ns os0)) avs=some cargs →
   bg (fun n => !ns.contains n) (cE ns os0)→bj P Y dr K (ay rest ((ar (fG ns ts) (cE ns os0)).aO dst r))→bj P Y dr K (.call f avs a1 a2 dst rest (ar ts os0))
 |bX {f:FuncId} {avs:List I} {a1 a2:Option (List I)} {dst:Option Nat} {rest:List aB} {ts:List (Nat×I)} {os0:List (Nat×ah)} (aC:Bool) (ρ:List (Nat×Nat)) (os:List (Nat×ah)) (cargs:List I) (post:cV):dr=false→cH P f cargs os post →
   gm ρ os os0→jq aC (ar ts (cE (jR ρ os) os0)) ρ os avs cargs→(∀ r os',post r os'→eC aC ρ os os0 r os') →
   (∀ r os',post r os'→bj P Y dr K (ay rest ((ar ts (dN ρ os'++os0)).aO dst (r.aR (bJ ρ)))))→bj P Y dr K (.call f avs a1 a2 dst rest (ar ts os0))
 |zj {v:Value} {avs:List I} {dst:Option Nat} {rest:List aB} {ts:List (Nat×I)} {os0:List (Nat×ah)} (os:List (Nat×ah)) (cargs:List I) (post:cV):dr=false→Y v cargs os post →
   gm [] os os0→jq false (ar ts (cE (jR [] os) os0)) [] os avs cargs→(∀ r os',post r os'→eC false [] os os0 r os') →
   (∀ r os',post r os'→bj P Y dr K (ay rest ((ar ts (dN [] os'++os0)).aO dst (r.aR (bJ [])))))→bj P Y dr K (.po v avs dst rest (ar ts os0))
 |ext {f:FuncId} {avs:List I} {dst:Option Nat} {rest:List aB} {A:ae} (r:I):dr=false→PB P A f avs r→bj P Y dr K (ay rest (A.aO dst r))→bj P Y dr K (.kv f avs dst rest A)
 |any {p:Nat→Prop} {k:Nat→cL} : dr=false→(∀ m,p m→bj P Y dr K (k m))→bj P Y dr K (.any p k)
def C0(n:Nat):Option Nat→Bool
 |some d=>decide (d<n)
 |none=>true
def pk(P:Program)(n:Nat)(bC:Array Oper)(o:Oper):Option aB :=
 match dC P o with
 |none=>none
 |some g=>if C0 n o.dst=true then
   match o.guard with
   |none=>some ⟨o.dst,g,none⟩
   |some (j,b)=>match (bC[j]?).bind (·.dst) with
    |some t=>some ⟨o.dst,g,some (t,b)⟩
    |none=>none
  else none
def j9(P:Program)(n:Nat)(bC:Array Oper):List Oper→Option (List aB)
 | []=>some []
 |o::l=>match pk P n bC o,j9 P n bC l with
  |some g,some gs=>some (g::gs)
  |_,_=>none
end Go.Abs
namespace Go.Abs
open Go Go.RowKit
section
variable {c:cM} {A:ae} {o:Oper} {x:I}
theorem akR{g:b6}(hg:dC c.P o=some g)(h:bB A g=some x):dL c A o x:=by
 unfold dC at hg
 split at hg
 -- move
 ·rename_i y ho
  simp only[Option.map_eq_some_iff] at hg
  obtain ⟨z,hz,rfl⟩:=hg
  simp only[bB,Option.some.injEq] at h
  subst h
  exact Jf (.inl ho) hz
 ·rename_i y ho
  simp only[Option.map_eq_some_iff] at hg
  obtain ⟨z,hz,rfl⟩:=hg
  simp only[bB,Option.some.injEq] at h
  subst h
  exact Jf (.inr ho) hz
 -- pick
 ·rename_i q y z ho
  split at hg
  ·rename_i q' y' z' h1 h2 h3
   simp only[Option.some.injEq] at hg
   subst hg
   simp only[bB] at h
   split at h
   ·rename_i t ht
    simp only[Option.some.injEq] at h
    subst h
    exact ahQ ho h1 h2 h3 ht
   ·cases h
  ·cases hg
 -- binOp
 ·rename_i op t y z yt ho
  split at hg
  ·rename_i k y' z' hu h1 h2
   simp only[Option.some.injEq] at hg
   subst hg
   exact Jd ho h1 h2 h
  ·rename_i y' z' hu h1 h2
   simp only[Option.some.injEq] at hg
   subst hg
   exact Jd ho h1 h2 h
  ·rename_i e y' z' hu h1 h2
   split at hg
   ·rename_i s
    split at hg
    ·rename_i hop
     simp only[Option.some.injEq] at hg
     subst hg
     have ho':o.op=.binOp (if (op==.neq)=true then .neq else .eql) t y z yt:=by
      rcases hop with rfl | rfl <;>simpa using ho
     simp only[bB] at h
     split at h
     ·rename_i s' hs'
      simp only[Option.some.injEq] at h
      subst h
      have:=xv (r:=true) ho' hu h1 h2 (.inl ⟨s',hs',rfl⟩)
      rw[show (if (op==BinOp.neq)=true then !true else true) = !(op==BinOp.neq) from by cases (op==BinOp.neq) <;>rfl] at this
      exact this
     ·rename_i s' es hs'
      split at h
      ·cases h
      ·rename_i hne
       simp only[Option.some.injEq] at h
       subst h
       have:=xv (r:=false) ho' hu h1 h2 (.inr (.inl ⟨s',es,hs',by simpa using hne,rfl⟩))
       rw[show (if (op==BinOp.neq)=true then !false else false)=(op==BinOp.neq) from by cases (op==BinOp.neq) <;>rfl] at this
       exact this
     ·rename_i n p s' lo k hs'
      simp only[Option.some.injEq] at h
      subst h
      have:=xv (r:=false) ho' hu h1 h2 (.inr (.inr ⟨n,p,s',lo,k,hs',rfl⟩))
      rw[show (if (op==BinOp.neq)=true then !false else false)=(op==BinOp.neq) from by cases (op==BinOp.neq) <;>rfl] at this
      exact this
     ·cases h
    ·cases hg
   ·cases hg
  ·rename_i e y' z' hu h1 h2
   split at hg
   ·rename_i hop
    simp only[Option.some.injEq] at hg
    subst hg
    have ho':o.op=.binOp (if (op==.neq)=true then .neq else .eql) t y z yt:=by
     rcases hop with rfl | rfl <;>simpa using ho
    simp only[bB] at h
    cases hb1:iX (ab A y') with
    |none=>rw[hb1] at h;cases h
    |some b1=>cases hb2:iX (ab A z') with
     |none=>rw[hb1,hb2] at h;cases h
     |some b2 =>
      rw[hb1,hb2] at h
      simp only[mK] at h
      split at h
      ·rename_i hor
       simp only[Option.some.injEq] at h
       subst h
       exact ahR ho' hu h1 h2 hb1 hb2 (by simpa using hor)
      ·cases h
   ·cases hg
  ·rename_i d y' z' _ _ _ _ hu h1 h2
   split at hg
   ·rename_i hop
    simp only[Option.map_eq_some_iff] at hg
    obtain ⟨ty,hty,rfl⟩:=hg
    have ho':o.op=.binOp (if (op==.neq)=true then .neq else .eql) t y z yt:=by
     rcases hop.1 with rfl | rfl <;>simpa using ho
    simp only[bB,Option.map_eq_some_iff] at h
    obtain ⟨r,hr,rfl⟩:=h
    exact ahA ho' h1 h2 hop.2 hty hr
   ·cases hg
  ·cases hg
 -- unOp
 ·rename_i op t y ho
  simp only[Option.map_eq_some_iff] at hg
  obtain ⟨z,hz,rfl⟩:=hg
  simp only[bB] at h
  split at h
  ·rename_i b hb
   simp only[Option.some.injEq] at h
   subst h
   exact ahP ho hz hb
  ·rename_i k n hb
   simp only[Option.some.injEq] at h
   subst h
   exact ahO ho hz hb
  ·rename_i k n hb
   simp only[Option.some.injEq] at h
   subst h
   exact ahy ho hz hb
  ·cases h
 -- nilCheck
 ·rename_i y ho
  simp only[Option.map_eq_some_iff] at hg
  obtain ⟨z,hz,rfl⟩:=hg
  simp only[bB] at h
  cases hy:ab A z <;>rw[hy] at h <;>simp only[mG,Option.some.injEq] at h <;>try (cases h;done)
  ·subst h;rw[←hy];exact Jg ho hz (.inr ⟨_,hy⟩)
  ·subst h;rw[←hy];exact Jg ho hz (.inl ⟨_,_,hy⟩)
 -- makeMap
 ·simp only[Option.some.injEq] at hg
  subst hg
  simp[bB] at h
 -- lookup
 ·rename_i t m k ok ho
  split at hg
  ·rename_i kt et m' k' hu h1 h2
   split at hg
   ·rename_i ty z hk hz
    split at hg
    ·rename_i hp
     simp only[Option.some.injEq] at hg
     subst hg
     simp only[bB] at h
     cases hm:gw A (ab A m') with
     |none=>rw[hm] at h;cases h
     |some q =>
      obtain ⟨ks,vs⟩:=q
      rw[hm] at h
      simp only[qR] at h
      cases hl:gv ty z (ab A k') ks vs with
      |none=>rw[hl] at h;cases h
      |some q =>
       obtain ⟨v,b⟩:=q
       rw[hl] at h
       simp only[qS,Option.some.injEq] at h
       subst h
       exact ahM ho hu hk hz hp h1 h2 hm hl
    ·cases hg
   ·cases hg
  ·cases hg
 -- mapUpdate,insert
 iterate 2
  ·split at hg
   ·split at hg
    ·simp only[Option.some.injEq] at hg
     subst hg
     simp[bB] at h
    ·cases hg
   ·cases hg
 -- makeSlice
 ·split at hg
  ·split at hg
   ·split at hg
    ·simp only[Option.some.injEq] at hg
     subst hg
     simp[bB] at h
    ·cases hg
   ·cases hg
  ·cases hg
 -- range
 ·split at hg
  ·simp only[Option.map_eq_some_iff] at hg
   obtain ⟨z,_,rfl⟩:=hg
   simp[bB] at h
  ·cases hg
 -- next
 ·simp only[Option.map_eq_some_iff] at hg
  obtain ⟨z,_,rfl⟩:=hg
  simp[bB] at h
 -- entry
 ·rename_i y ho
  simp only[Option.map_eq_some_iff] at hg
  obtain ⟨z,hz,rfl⟩:=hg
  simp only[bB] at h
  split at h
  ·rename_i n hn
   split at h
   ·rename_i ks vs left cur hob
    cases cur with
    |none=>cases h
    |some i =>
     simp only[py] at h
     split at h
     ·rename_i kk xx hk hx
      simp only[Option.some.injEq] at h
      subst h
      exact ahz ho hz hn hob hk hx
     ·cases h
   ·cases h
  ·cases h
 -- convert
 ·rename_i nU dst y ho
  split at hg
  ·rename_i k0 k y' h1 h2 h3
   simp only[Option.some.injEq] at hg
   subst hg
   simp only[bB] at h
   split at h
   ·rename_i k1 n hn
    simp only[Option.some.injEq] at h
    subst h
    exact ahx ho h1 h2 h3 hn
   ·cases h
  ·cases hg
 -- load
 ·rename_i t y ho
  split at hg
  ·rename_i s y' h1 h2
   simp only[Option.some.injEq] at hg
   subst hg
   simp only[bB] at h
   split at h
   ·rename_i v hv
    split at h
    ·rename_i hok
     simp only[Option.some.injEq] at h
     subst h
     exact ahL ho h1 h2 hv hok
    ·cases h
   ·cases h
  ·cases hg
 -- fieldAddr
 ·rename_i t y f ho
  split at hg
  ·rename_i fs y' hu h1
   split at hg
   ·rename_i fd hf
    split at hg
    ·cases hg
    ·rename_i hz
     simp only[Option.some.injEq] at hg
     subst hg
     simp only[bB] at h
     split at h
     ·rename_i gs hgs
      split at h
      ·rename_i v hv
       split at h
       ·rename_i hoff
        simp only[Option.some.injEq] at h
        subst h
        exact ahD ho hu hf hz h1 hgs hv hoff
       ·cases h
      ·cases h
     ·rename_i n p hp
      split at h
      ·rename_i gs hgs
       split at h
       ·rename_i hoff
        simp only[Option.some.injEq] at h
        subst h
        exact ahC ho hu hf hz h1 hp hgs hoff.1 hoff.2
       ·cases h
      ·cases h
     ·cases h
   ·cases hg
  ·cases hg
 -- field
 ·rename_i t y f ho
  split at hg
  ·rename_i fs y' hu h1
   split at hg
   ·rename_i fd hf
    simp only[Option.map_eq_some_iff] at hg
    obtain ⟨s,hs,rfl⟩:=hg
    simp only[bB] at h
    split at h
    ·rename_i gs hgs
     split at h
     ·rename_i v hv
      split at h
      ·rename_i hoff
       simp only[Option.some.injEq] at h
       subst h
       exact ahE ho hu hf hs h1 hgs hv hoff.1 hoff.2
      ·cases h
     ·cases h
    ·cases h
   ·cases hg
  ·cases hg
 -- indexAddr
 ·rename_i t y i ho
  split at hg
  ·rename_i n e y' i' hu h1 h2
   split at hg
   ·rename_i hinfo
    obtain ⟨ti,hti⟩:=Option.isSome_iff_exists.1 hinfo
    simp only[Option.some.injEq] at hg
    subst hg
    simp only[bB] at h
    split at h
    ·rename_i kk k hk
     split at h
     ·rename_i hb
      split at h
      ·rename_i gs hgs
       split at h
       ·rename_i hev
        simp only[Option.map_eq_some_iff] at h
        obtain ⟨v,hv,rfl⟩:=h
        exact ahG ho hu hti h1 h2 hgs hk hb hev hv
       ·cases h
      ·rename_i m p hp
       split at h
       ·rename_i gs hgs
        split at h
        ·rename_i hev
         simp only[Option.some.injEq] at h
         subst h
         exact ahF ho hu hti h1 h2 hp hk hb hgs hev
        ·cases h
       ·cases h
      ·cases h
     ·cases h
    ·cases h
   ·cases hg
  ·rename_i e y' i' hu h1 h2
   split at hg
   ·rename_i hinfo
    obtain ⟨ti,hti⟩:=Option.isSome_iff_exists.1 hinfo
    simp only[Option.some.injEq] at hg
    subst hg
    simp only[bB] at h
    split at h
    ·rename_i kk k hk
     split at h
     ·rename_i sz es hes
      split at h
      ·rename_i hb
       obtain ⟨rfl,hb⟩:=hb
       simp only[Option.map_eq_some_iff] at h
       obtain ⟨v,hv,rfl⟩:=h
       exact ahH ho hu hti h1 h2 hes hk hb hv
      ·cases h
     ·rename_i m l hm
      split at h
      ·rename_i T sz es hes
       split at h
       ·rename_i hb
        obtain ⟨rfl,rfl,hb⟩:=hb
        simp only[Option.map_eq_some_iff] at h
        obtain ⟨v,hv,rfl⟩:=h
        exact ahI ho hu hti h1 h2 hm hes hk hb hv
       ·cases h
      ·cases h
     ·rename_i m p sz lo l hm
      split at h
      ·rename_i fs hfs
       split at h
       ·rename_i hb
        simp only[Option.some.injEq] at h
        subst h
        exact ahJ ho hu hti h1 h2 hb.1 hm hfs hk hb.2
       ·cases h
      ·cases h
     ·cases h
    ·cases h
   ·cases hg
  ·cases hg
 -- index
 ·rename_i t y i ho
  split at hg
  ·rename_i n e y' i' hu h1 h2
   simp only[Option.map_eq_some_iff] at hg
   obtain ⟨s,hs,rfl⟩:=hg
   simp only[bB] at h
   split at h
   ·rename_i kk k hk
    split at h
    ·rename_i hb
     split at h
     ·rename_i gs hgs
      split at h
      ·rename_i hev
       split at h
       ·rename_i v hv
        split at h
        ·rename_i hok
         simp only[Option.some.injEq] at h
         subst h
         exact ahK ho hu hs h1 h2 hgs hk hb hev hv hok
        ·cases h
       ·cases h
      ·cases h
     ·cases h
    ·cases h
   ·cases h
  ·cases hg
 -- slice
 ·rename_i t y lo hi mx ho
  split at hg
  ·rename_i n e y' hu h1
   split at hg
   ·split at hg
    ·rename_i hinfo
     obtain ⟨ti,hti⟩:=Option.isSome_iff_exists.1 hinfo
     simp only[Option.some.injEq] at hg
     subst hg
     simp only[bB] at h
     split at h
     ·rename_i m p hp
      split at h
      ·rename_i gs hgs
       split at h
       ·rename_i hev
        simp only[Option.some.injEq] at h
        subst h
        exact ahT ho hu hti h1 hp hgs hev.1 hev.2.1 hev.2.2
       ·cases h
      ·cases h
     ·rename_i gs hgs
      split at h
      ·rename_i hev
       simp only[Option.some.injEq] at h
       subst h
       exact ahU ho hu hti h1 hgs hev.1 hev.2.1
      ·cases h
     ·cases h
    ·cases hg
   ·cases hg
  ·rename_i e y' hu h1
   split at hg
   ·rename_i lo' hi' mx' q1 q2 q3
    split at hg
    ·rename_i hc
     obtain ⟨ti,hti⟩:=Option.isSome_iff_exists.1 hc.2
     simp only[Option.some.injEq] at hg
     subst hg
     simp only[bB] at h
     split at h
     ·rename_i sz es hes
      split at h
      ·rename_i hsz
       subst hsz
       exact xw ho hu hti h1 q1 q2 q3 hc.1 (.inl hes) h
      ·cases h
     ·rename_i sz hes
      split at h
      ·rename_i hsz
       subst hsz
       exact xw ho hu hti h1 q1 q2 q3 hc.1 (.inr (.inl ⟨hes,rfl⟩)) h
      ·cases h
     ·rename_i sz hes
      split at h
      ·rename_i hsz
       subst hsz
       exact xw ho hu hti h1 q1 q2 q3 hc.1 (.inr (.inr ⟨hes,rfl⟩)) h
      ·cases h
     ·rename_i n p sz l0 k hv
      split at h
      ·rename_i fs hfs
       split at h
       ·rename_i hsz
        exact ahS ho hu hti h1 q1 q2 q3 hc.1 hsz hv hfs h
       ·cases h
      ·cases h
     ·cases h
    ·cases hg
   ·cases hg
  ·cases hg
 -- build
 ·rename_i t parts ho
  split at hg
  ·rename_i zs ps hz hp
   split at hg
   ·rename_i fs hu
    split at hg
    ·rename_i hc
     simp only[Option.some.injEq] at hg
     subst hg
     simp only[bB,Option.map_eq_some_iff] at h
     obtain ⟨zs',h,rfl⟩:=h
     exact Je ho hz hp (.inl ⟨fs,hu,hc.1,hc.2⟩) h
    ·cases hg
   ·rename_i n e hu
    split at hg
    ·rename_i hc
     simp only[Option.some.injEq] at hg
     subst hg
     simp only[bB,Option.map_eq_some_iff] at h
     obtain ⟨zs',h,rfl⟩:=h
     exact Je ho hz hp (.inr ⟨n,e,hu,hc.1,hc.2.1,hc.2.2⟩) h
    ·cases hg
   ·cases hg
  ·cases hg
 -- buildSlice
 ·rename_i t len parts ho
  split at hg
  ·rename_i e hu
   split at hg
   ·rename_i ps hp
    split at hg
    ·rename_i h0
     obtain ⟨rfl,rfl,h0⟩:=h0
     obtain ⟨ti,hti⟩:=Option.isSome_iff_exists.1 h0
     simp only[Option.some.injEq] at hg
     subst hg
     simp only[bB,Option.some.injEq] at h
     subst h
     exact ahw ho hu hti
    split at hg
    ·rename_i hc
     obtain ⟨c1,c2,c3,j8,lv⟩:=hc
     simp only[Option.some.injEq] at hg
     subst hg
     simp only[bB] at h
     split at h
     ·rename_i es hes
      split at h
      ·rename_i hev
       simp only[Option.some.injEq] at h
       subst h
       refine ahv ho hu hp c1 c2 c3 j8 lv hes (fun y hy =>?_) hev.2
       have:=List.all_eq_true.1 hev.1 y hy
       simpa using this
      ·cases h
     ·cases h
    ·cases hg
   ·cases hg
  ·cases hg
 -- extract
 ·rename_i y i ho
  simp only[Option.map_eq_some_iff] at hg
  obtain ⟨z,hz,rfl⟩:=hg
  simp only[bB] at h
  split at h
  ·rename_i fs hfs
   exact ahB ho hz hfs h
  ·cases h
 -- makeFunc
 ·rename_i f first caps ho
  split at hg
  ·rename_i hfirst
   simp only[Option.map_eq_some_iff] at hg
   obtain ⟨ys,hys,rfl⟩:=hg
   simp only[bB] at h
   split at h
   ·rename_i hv
    simp only[Option.some.injEq] at h
    subst h
    have hf:first = #[]:=by simpa using hfirst
    rw[hf] at ho
    refine ahN ho hys (fun y hy =>?_)
    have:=List.all_eq_true.1 hv (ab A y) (List.mem_map.2 ⟨y,hy,rfl⟩)
    exact this
   ·cases h
  ·cases hg
 -- alloc
 ·simp only[Option.map_eq_some_iff] at hg
  obtain ⟨z,_,rfl⟩:=hg
  simp[bB] at h
 -- box
 ·simp only[Option.map_eq_some_iff] at hg
  obtain ⟨z,_,rfl⟩:=hg
  simp[bB] at h
 -- store
 ·split at hg
  ·split at hg
   ·simp only[Option.some.injEq] at hg
    subst hg
    simp[bB] at h
   ·cases hg
  ·cases hg
 -- call
 ·split at hg
  ·simp only[Option.map_eq_some_iff] at hg
   obtain ⟨z,_,rfl⟩:=hg
   simp[bB] at h
  ·simp only[Option.map_eq_some_iff] at hg
   obtain ⟨z,_,rfl⟩:=hg
   simp[bB] at h
 ·split at hg
  ·simp only[Option.some.injEq] at hg
   subst hg
   simp[bB] at h
  ·cases hg
 -- len
 ·rename_i args tys ho
  split at hg
  ·rename_i y ty hargs htys
   have ho':o.op=.call { callee:=.builtin .len,args := #[y],argTypes := #[ty] } :=by
    rw[ho]
    have e1:args = #[y]:=by apply Array.ext';simpa using hargs
    have e2:tys = #[ty]:=by apply Array.ext';simpa using htys
    rw[e1,e2]
   split at hg
   ·rename_i e hu
    simp only[Option.map_eq_some_iff] at hg
    obtain ⟨y',hy,rfl⟩:=hg
    simp only[bB] at h
    split at h
    ·rename_i sz es hes
     simp only[Option.some.injEq] at h
     subst h
     refine pE ho' hu (.inl ⟨e,rfl⟩) hy (fun a w D E hs v hv =>?_)
     rw[hes] at hv
     obtain ⟨ad,cap,e1,e2,e3,_⟩:=nS hv
     exact ⟨Nat.le_trans e2 e3,fun _=>⟨ad,cap,e1⟩,fun e=>by cases e⟩
    ·rename_i sz hes
     simp only[Option.some.injEq] at h
     subst h
     refine pE (n:=0) ho' hu (.inl ⟨e,rfl⟩) hy (fun a w D E hs v hv =>?_)
     rw[hes] at hv
     obtain ⟨cs,q1,q2⟩:=hv
     simp only[af] at q2
     exact ⟨by simp[maxLen],fun _=>⟨none,0,by simpa[bK,I.isAgg,q2] using q1.symm⟩,fun e=>by cases e⟩
    ·rename_i sz hes
     simp only[Option.some.injEq] at h
     subst h
     refine pE (n:=0) ho' hu (.inl ⟨e,rfl⟩) hy (fun a w D E hs v hv =>?_)
     rw[hes] at hv
     obtain ⟨cs,q1,q2⟩:=hv
     simp only[af] at q2
     obtain ⟨ad,q2⟩:=q2
     exact ⟨by simp[maxLen],fun _=>⟨ad,0,by simpa[bK,I.isAgg,q2] using q1.symm⟩,fun e=>by cases e⟩
    ·rename_i m l hm
     split at h
     ·rename_i T sz es hes
      split at h
      ·rename_i hl
       subst hl
       simp only[Option.some.injEq] at h
       subst h
       refine pE ho' hu (.inl ⟨e,rfl⟩) hy (fun a w D E hs v hv =>?_)
       rw[hm] at hv
       rcases hs.own hes hv with ⟨rfl,_,rfl⟩ | ⟨b,cap,cs,pre,rest,_,rfl,_,_,_,_,_,k8,k9,_⟩
       ·exact ⟨by simp[maxLen],fun _=>⟨none,0,rfl⟩,fun e=>by cases e⟩
       ·exact ⟨Nat.le_trans k8 k9,fun _=>⟨_,_,rfl⟩,fun e=>by cases e⟩
      ·cases h
     ·cases h
    ·rename_i n p sz lo k hm
     simp only[Option.some.injEq] at h
     subst h
     refine pE ho' hu (.inl ⟨e,rfl⟩) hy (fun a w D E hs v hv =>?_)
     rw[hm] at hv
     obtain ⟨cs,q1,q2⟩:=hv
     simp only[af] at q2
     obtain ⟨b,aQ,off,l,_,_,_,q2,q3,q4,_⟩:=q2
     exact ⟨by omega,fun _=>⟨_,_,by simpa[bK,I.isAgg,q2] using q1.symm⟩,fun e=>by cases e⟩
    ·cases h
   ·rename_i hu
    simp only[Option.map_eq_some_iff] at hg
    obtain ⟨y',hy,rfl⟩:=hg
    simp only[bB] at h
    split at h
    ·rename_i s hs'
     simp only[Option.some.injEq] at h
     subst h
     refine pE ho' hu (.inr rfl) hy (fun a w D E hs v hv =>?_)
     rw[hs'] at hv
     obtain ⟨e1,e2⟩:=nT hv
     exact ⟨e2,(fun e=>by obtain ⟨_,e⟩:=e;cases e),fun _=>⟨s,e1,rfl⟩⟩
    ·cases h
   ·cases hg
  ·cases hg
 -- append
 ·split at hg
  ·split at hg
   ·split at hg
    ·simp only[Option.map_eq_some_iff] at hg
     obtain ⟨z,_,rfl⟩:=hg
     simp[bB] at h
    ·split at hg
     ·simp only[Option.map_eq_some_iff] at hg
      obtain ⟨z,_,rfl⟩:=hg
      simp[bB] at h
     ·cases hg
   ·cases hg
  ·cases hg
 -- cap
 ·rename_i args tys ho
  split at hg
  ·rename_i y ty hargs htys
   have ho':o.op=.call { callee:=.builtin .cap,args := #[y],argTypes := #[ty] } :=by
    rw[ho]
    have e1:args = #[y]:=by apply Array.ext';simpa using hargs
    have e2:tys = #[ty]:=by apply Array.ext';simpa using htys
    rw[e1,e2]
   split at hg
   ·rename_i e hu
    simp only[Option.map_eq_some_iff] at hg
    obtain ⟨y',hy,rfl⟩:=hg
    simp only[bB] at h
    split at h
    ·rename_i sz hes
     simp only[Option.some.injEq] at h
     subst h
     refine xu ho' hu hy (fun a w D E hs v hv =>?_)
     rw[hes] at hv
     obtain ⟨cs,q1,q2⟩:=hv
     simp only[af] at q2
     exact ⟨by simp[maxLen],_,_,by simpa[bK,I.isAgg,q2] using q1.symm⟩
    ·rename_i sz hes
     simp only[Option.some.injEq] at h
     subst h
     refine xu ho' hu hy (fun a w D E hs v hv =>?_)
     rw[hes] at hv
     obtain ⟨cs,q1,q2⟩:=hv
     simp only[af] at q2
     obtain ⟨ad,q2⟩:=q2
     exact ⟨by simp[maxLen],_,_,by simpa[bK,I.isAgg,q2] using q1.symm⟩
    ·rename_i n p sz lo k hm
     split at h
     ·rename_i fs hfs
      simp only[Option.some.injEq] at h
      subst h
      refine xu ho' hu hy (fun a w D E hs v hv =>?_)
      rw[hm] at hv
      obtain ⟨_,b,cs,T,off,c1,c2,c3,_,_,_,_,_,_,_,_,_,_,_,q1,q2⟩:=hs.view hv hfs
      exact ⟨by omega,_,_,q2⟩
     ·cases h
    ·cases h
   ·cases hg
  ·cases hg
 -- clear
 ·split at hg
  ·split at hg
   ·simp only[Option.map_eq_some_iff] at hg
    obtain ⟨z,_,rfl⟩:=hg
    simp[bB] at h
   ·cases hg
  ·cases hg
 -- copy
 ·split at hg
  ·split at hg
   ·split at hg
    ·simp only[Option.some.injEq] at hg
     subst hg
     simp[bB] at h
    ·cases hg
   ·cases hg
  ·cases hg
 ·cases hg
theorem fQ.append{α β:Type}{R:α→β→Prop} : ∀ {xs:List α} {ys:List β} {xs':List α} {ys':List β},fQ R xs ys→fQ R xs' ys'→fQ R (xs++xs') (ys++ys')
 |_,_,_,_,.nil,h=>h
 |_,_,_,_,.cons h1 h2,h=>.cons h1 (h2.append h)
theorem yR{w:World}{D:aP}{E:aX} : ∀ {xs:List I} {vs:List Value},aF w D E xs vs→fQ (aW w D E) xs vs
 | [],vs,h=>by simp only[aF] at h;subst h;exact .nil
 |x::xs,vs,h=>by
  simp only[aF] at h
  obtain ⟨v,rest,cs,rfl,h1,h2,h3⟩:=h
  exact .cons (mD h1 h2) (yR h3)
theorem SF {P : Program} {f : FuncId} (h : gS P f = true) : ∃ fn, P.funcs[f]? = some fn ∧ ¬ fn.name = "runtime.NumGoroutine" ∧ ¬ fn.body = none := by
 unfold gS at h
 cases hf:P.funcs[f]? with
 |none=>simp[hf] at h
 |some fn =>
  simp only[hf,Option.any_some,Bool.and_eq_true,bne_iff_ne,ne_eq] at h
  refine ⟨fn,rfl,by simpa using h.1,?_⟩
  cases hb:fn.body <;>simp_all
theorem yN{P:Program}{w:World}{f:FuncId}{args:Array Value}(h:gS P f=true):(callFunc f args).run P w=.ok (.enter f args) w:=by
 obtain ⟨fn,h1,h2,h3⟩:=SF h
 simp[callFunc,h1,h2,h3]
theorem aw.al9{f:FuncId}{avs cargs:List I}{r:I}{vs:List Value}{a:Act}{w:World}{D:aP}{E:aX}(hs:aS c A a w D E)(h:aw c.P f cargs r)(hf:r.flat=true)(hc:bZ true A avs=some cargs)(hv:fQ (aW w D E) avs vs) :
  Calls c.P f vs.toArray w fun e w'=>∃ v D',e=.returned v∧aS c A a w' D' E∧aW w' D' E r v:=by
 have hw:iq true A D E (fun b _=>b<w.heap.size):=by
  refine ⟨fun b o hd=>hs.de b o hd,fun n T sz es b cap hn av o _=>hs.fR av rfl,fun _ n x b aQ hn av o _=>hs.fR av rfl,fun _ n ks vs b hn av=>hs.fR av rfl⟩
 have hrv:=mu (E':=du) hs (fun _ _ h=>h) hw avs cargs vs (mR _ _ hv (qE hc)) hc
 refine (h.2 w _ vs (fun _ _ hd=>hd) hrv).mono fun e w' ⟨v,D',he,h1,h2,h3,h4⟩=>⟨v,D,he,?_,aW.flat hf h1⟩
 exact hs.grow h2 (fun _ _ hd=>hd) (fun _ _ hd _=>hd) (fun b o hd=>Nat.lt_of_lt_of_le (hs.de b o hd) h2.size)
theorem aw.amb{f:FuncId}{avs cargs:List I}{r:I}{vs:List Value}{a:Act}{w:World}{D:aP}{E:aX}(hs:aS c A a w D E)(h:aw c.P f cargs r)(hc:bZ false A avs=some cargs)(hv:fQ (aW w D E) avs vs) :
  Calls c.P f vs.toArray w fun e w'=>∃ v D',e=.returned v∧aS c A a w' D' E∧aW w' D' E r v:=by
 obtain ⟨hs1,hw⟩:=hs.oQ
 have hrv:=mu (E':=du) hs (fun _ _ h=>h) hw avs cargs vs (mR _ _ hv (qE hc)) hc
 refine (h.2 w _ vs hs1.de hrv).mono fun e w' ⟨v,D',he,h1,h2,h3,h4⟩=>⟨v,fun b o=>oN A D E b o∨(w.heap.size≤b∧D' b o),he,?_,?_⟩
 ·refine hs1.grow h2 (fun _ _ hd=>.inl hd) ?_ ?_
  ·rintro b o (hd | ⟨hle,_⟩) hlt
   ·exact hd
   ·omega
  ·rintro b o (hd | ⟨_,hd⟩)
   ·exact Nat.lt_of_lt_of_le (hs1.de b o hd) h2.size
   ·exact h3 b o hd
 ·refine aW.bL (E:=du) ⟨fun b o hd =>?_,fun _ _ _ _ h=>h,fun n b aQ hn=>by simp[du] at hn,fun n aE l hn=>by simp[du] at hn,fun n b hn=>by simp[du] at hn,fun n b hn=>by simp[du] at hn,fun _ _ _ _ h=>h⟩ h1
  rcases Nat.lt_or_ge b w.heap.size with hlt | hge
  ·exact .inl (h4 b o hd hlt)
  ·exact .inr ⟨hge,hd⟩
theorem JQ(p:Nat→Bool)(os:List (Nat×ah))(n:Nat):ak (os.filter fun q=>p q.1) n=if p n then ak os n else none:=by
 induction os with
 |nil=>simp[ak]
 |cons q os ih =>
  obtain ⟨k,v⟩:=q
  simp only[List.filter_cons]
  by_cases hk:p k=true
  ·simp only[hk,if_true,ak,ih]
   by_cases hn:n=k
   ·subst hn;simp only[hk,if_true]
   ·simp only[if_neg hn]
  ·simp only[hk,Bool.false_eq_true,if_false,ih,ak]
   by_cases hn:n=k
   ·subst hn;simp[hk]
   ·simp only[if_neg hn]
theorem mz(ns:List Nat)(os:List (Nat×ah))(n:Nat):ak (cE ns os) n=if ns.contains n then none else ak os n:=by
 rw[cE,JQ (fun n => !ns.contains n)]
 cases ns.contains n <;>rfl
theorem lP(ns:List Nat)(os:List (Nat×ah))(n:Nat):ak (fW ns os) n=if ns.contains n then ak os n else none:=JQ _ _ _
theorem ye{p:Nat→Bool} : ∀ {os:List (Nat×ah)},bg p os→∀ k x,ak os k=some x→x.only p=true
 | [],_,k,x,hx=>by simp[ak] at hx
 |(j,v)::r,h,k,x,hx=>by
  simp only[bg] at h
  simp only[ak] at hx
  split at hx
  ·simp only[Option.some.injEq] at hx;subst hx;exact h.1
  ·exact ye h.2 k x hx
theorem JR(ns:List Nat):∀ (ts:List (Nat×I)) (t:Nat),bO (fG ns ts) t=if (bO ts t).only (fun n => !ns.contains n) then bO ts t else .c9
 | [],t=>by simp[fG,bO,I.only]
 |(k,v)::r,t=>by
  simp only[fG,List.map_cons,bO]
  by_cases h:t=k
  ·simp only[if_pos h]
  ·simp only[if_neg h];exact JR ns r t
theorem aS.DC{a:Act}{w:World}{D:aP}{E:aX}{ts:List (Nat×I)}{os0:List (Nat×ah)}(h:aS c (ar ts os0) a w D E)(ns:List Nat)(ho:bg (fun n => !ns.contains n) (cE ns os0)) :
  ∃ D' E',aS c (ar (fG ns ts) (cE ns os0)) a w D' E'∧iq true (ar ts (fW ns os0)) D E D':=by
 have h1:=h.oQ.1
 have hw1:=h.oQ.2
 obtain ⟨D1,hD1⟩:∃ D1,D1=oN (ar ts os0) D E:=⟨_,rfl⟩
 rw[←hD1] at h1 hw1
 obtain ⟨D2,hD2⟩:∃ D2:aP,D2=fun b o=>D1 b o∨(∃ n x aQ,ns.contains n=true∧ak os0 n=some (.box x)∧E n=some (.aC b aQ)∧o<x.size)∨∃ n ks vs,ns.contains n=true∧ak os0 n=some (.cu ks vs)∧E n=some (.cu b)∧o=0:=⟨_,rfl⟩
 obtain ⟨E2,hE2⟩:∃ E2:aX,E2=fun n=>if ns.contains n then none else E n:=⟨_,rfl⟩
 have e2:∀ n,(!ns.contains n)=true→E2 n=E n:=fun n hn=>by rw[hE2];simp at hn;simp[hn]
 have hl:dM w D1 E2 w D2 E2:=⟨fun b o hd=>by rw[hD2];exact .inl hd,fun _ _ _ _ h=>h,fun _ _ _ h=>h,fun _ aE l h=>⟨aE,l,h,Nat.le_refl _,fun _=>rfl⟩,fun _ _ h=>h,fun _ _ h=>h,fun _ _ _ _ h=>h⟩
 have pQ:∀ b o,D2 b o→D1 b o∨∃ n e q,ns.contains n=true∧E n=some e∧e.aE=some b∧c.fe b∧w.heap[b]?=some q:=fun b o hd=>by
  rw[hD2] at hd
  rcases hd with hd | ⟨n,x,aQ,k1,k2,k3,k4⟩ | ⟨n,ks,vs,k1,k2,k3,_⟩
  ·exact .inl hd
  ·obtain ⟨b',cs,T,q1,q2,q3,_⟩:=h.box (n:=n) (x:=x) (by simpa[ar] using k2)
   rw[k3] at q1
   simp only[Option.some.injEq,bU.aC.injEq] at q1
   obtain ⟨rfl,rfl⟩:=q1
   exact .inr ⟨n,_,_,k1,k3,rfl,q2,q3⟩
  ·obtain ⟨b',es,ck,q1,q2,q3,_⟩:=h.map (n:=n) (ks:=ks) (vs:=vs) (by simpa[ar] using k2)
   rw[k3] at q1
   cases q1
   exact .inr ⟨n,_,_,k1,k3,rfl,q2,q3⟩
 refine ⟨D2,E2,⟨h1.sz,h1.eM,fun t =>?_,h1.dO,fun b o hd hm =>?_,fun b o hd =>?_,fun n =>?_,fun n m e e' b g1 g2 g3 g4 =>?_,fun n e hn =>?_,h1.eU,fun b o hd=>hl.c6 b o (h1.cK b o hd),h1.eW,h1.fE⟩,?_⟩
 ·simp only[ar,JR]
  have ht:=h1.dY t
  simp only[ar] at ht
  split
  ·rename_i hp
   exact aW.bL hl (aW.dB e2 hp ht)
  ·simp[aW]
 ·rcases pQ b o hd with hd | ⟨n,e,q,_,_,_,k,_⟩
  ·exact h1.c6 b o hd hm
  ·exact absurd k hm
 ·rcases pQ b o hd with hd | ⟨n,e,q,_,_,_,_,k⟩
  ·exact h1.de b o hd
  ·exact fT k
 ·simp only[ar,mz]
  by_cases hn:ns.contains n=true
  ·simp only[hn,if_true,dc];rw[hE2];simp only[hn,if_true]
  ·have hnb:(!ns.contains n)=true:=by simpa using hn
   simp only[hn,Bool.false_eq_true,if_false]
   have hob:=h1.bX n
   simp only[ar] at hob
   cases hx:ak os0 n with
   |none=>rw[hx] at hob;simp only[dc] at hob ⊢;rw[e2 n hnb];exact hob
   |some x =>
    have hon:=ye ho n x (by rw[mz,if_neg hn];exact hx)
    have nD:∀ e b,E n=some e→e.aE=some b→∀ o,D2 b o→D1 b o:=fun e b he hb o hd=>by
     rcases pQ b o hd with hd | ⟨m,e',q,k1,k3,k2,_⟩
     ·exact hd
     ·have:=h.cQ n m e _ b he k3 hb k2
      subst this
      exact absurd k1 hn
    rw[hx] at hob
    cases x with
    |box x =>
     obtain ⟨b,cs,T,k1,k2,k3,k4,k5⟩:=hob
     exact ⟨b,cs,T,(e2 n hnb).trans k1,k2,k3,af.bL hl _ _ (af.dB e2 _ _ (by simpa[ah.only] using hon) k4),fun o hd=>k5 o (nD _ b k1 rfl o hd)⟩
    |bW T sz es =>
     obtain ⟨aE,k1,k2,k3⟩:=hob
     refine ⟨aE,(e2 n hnb).trans k1,k2,?_⟩
     cases aE with
     |none=>exact k3
     |some bc =>
      obtain ⟨b,cap⟩:=bc
      obtain ⟨cs,pre,rest,q1,q2,q3,q4,q5,q6,q7,q8⟩:=k3
      exact ⟨cs,pre,rest,q1,q2,q3,aG.bL hl _ _ (aG.dB e2 _ _ (by simpa[ah.only] using hon) q4),q5,q6,q7,fun o hd=>q8 o (nD _ b k1 rfl o hd)⟩
    |cU T xs =>
     obtain ⟨aE,k1,k2,k3⟩:=hob
     refine ⟨aE,(e2 n hnb).trans k1,k2,?_⟩
     cases aE with
     |none=>exact k3
     |some bc =>
      obtain ⟨b,cap⟩:=bc
      obtain ⟨cs,r,q1,q2,q3,q4,q5,q6,q7⟩:=k3
      exact ⟨cs,r,q1,q2,q3,q4,q5,q6,fun o hd=>q7 o (nD _ b k1 rfl o hd)⟩
    |dK x =>
     obtain ⟨b,k1,k2,k3,k4,k5⟩:=hob
     exact ⟨b,(e2 n hnb).trans k1,k2,k3,k4,fun o hd=>k5 o (nD _ b k1 rfl o hd)⟩
    |cu ks vs =>
     obtain ⟨b,es,ck,k1,k2,k3,k4,k5,k6,k7⟩:=hob
     simp only[ah.only,Bool.and_eq_true] at hon
     exact ⟨b,es,ck,(e2 n hnb).trans k1,k2,k3,k4,aF.bL hl _ _ (aF.dB e2 _ _ hon.1 k5),aF.bL hl _ _ (aF.dB e2 _ _ hon.2 k6),fun o hd=>k7 o (nD _ b k1 rfl o hd)⟩
    |it ks vs left cur =>
     obtain ⟨r,b,es,ck,si,se,la,k1,k2,k3,k4,k5,k6,k7,k8,k9,k9',k10⟩:=hob
     simp only[ah.only,Bool.and_eq_true] at hon
     exact ⟨r,b,es,ck,si,se,la,(e2 n hnb).trans k1,k2,k3,k4.bL hl,aF.bL hl _ _ (aF.dB e2 _ _ hon.1 k5),aF.bL hl _ _ (aF.dB e2 _ _ hon.2 k6),k7,k8,k9,k9',fun o hd=>k10 o (nD _ r k1 rfl o hd)⟩
 ·have cut:∀ n e,E2 n=some e→E n=some e:=fun n e he=>by
   rw[hE2] at he
   simp only at he
   split at he
   ·cases he
   ·exact he
  exact h.cQ n m e e' b (cut n e g1) (cut m e' g2) g3 g4
 ·by_cases hm:ns.contains n=true
  ·left;rw[hE2];simp only[hm,if_true]
  ·rw[e2 n (by simpa using hm)];exact h.dQ n e hn
 ·refine ⟨fun b o hd=>by rw[hD2];exact .inl (hw1.c6 b o hd),fun n T sz es b cap hn av o hlt =>?_,fun _ n x b aQ hn av o hlt =>?_,fun _ n ks vs b hn av =>?_⟩
  ·simp only[ar,lP] at hn
   split at hn
   ·rw[hD2];exact .inl (hw1.bW n T sz es b cap hn av o hlt)
   ·cases hn
  ·simp only[ar,lP] at hn
   split at hn
   ·rename_i hk
    rw[hD2];exact .inr (.inl ⟨n,x,aQ,hk,hn,av,hlt⟩)
   ·cases hn
  ·simp only[ar,lP] at hn
   split at hn
   ·rename_i hk
    rw[hD2];exact .inr (.inr ⟨n,ks,vs,hk,hn,av,rfl⟩)
   ·cases hn
theorem aw.ama{f:FuncId}{avs cargs:List I}{r:I}{vs:List Value}{a:Act}{w:World}{D:aP}{E:aX}{ts:List (Nat×I)}{os0:List (Nat×ah)}(hs:aS c (ar ts os0) a w D E)(ns:List Nat)(ho:bg (fun n => !ns.contains n) (cE ns os0))
  (h:aw c.P f cargs r) (hc:bZ true (ar ts (fW ns os0)) avs=some cargs) (hv:fQ (aW w D E) avs vs) :
  Calls c.P f vs.toArray w fun e w'=>∃ v D' E',e=.returned v∧aS c (ar (fG ns ts) (cE ns os0)) a w' D' E'∧aW w' D' E' r v:=by
 obtain ⟨D1,E1,hs1,hw⟩:=hs.DC ns ho
 have hu:ee (ar ts (fW ns os0)) (ar ts os0):=fun n x hx=>by
  simp only[ar,lP] at hx ⊢
  split at hx
  ·exact hx
  ·cases hx
 have hrv:=mu (E':=du) hs hu hw avs cargs vs (mR _ _ hv (qE hc)) hc
 refine (h.2 w _ vs hs1.de hrv).mono fun e w' ⟨v,D',he,h1,h2,h3,h4⟩=>⟨v,fun b o=>D1 b o∨(w.heap.size≤b∧D' b o),E1,he,?_,?_⟩
 ·refine hs1.grow h2 (fun _ _ hd=>.inl hd) ?_ ?_
  ·rintro b o (hd | ⟨hle,_⟩) hlt
   ·exact hd
   ·omega
  ·rintro b o (hd | ⟨_,hd⟩)
   ·exact Nat.lt_of_lt_of_le (hs1.de b o hd) h2.size
   ·exact h3 b o hd
 ·refine aW.bL (E:=du) ⟨fun b o hd =>?_,fun _ _ _ _ h=>h,fun n b aQ hn=>by simp[du] at hn,fun n aE l hn=>by simp[du] at hn,fun n b hn=>by simp[du] at hn,fun n b hn=>by simp[du] at hn,fun _ _ _ _ h=>h⟩ h1
  rcases Nat.lt_or_ge b w.heap.size with hlt | hge
  ·exact .inl (h4 b o hd hlt)
  ·exact .inr ⟨hge,hd⟩
theorem vb{a:Act}{w:World}{D D1:aP}{E:aX}{ts:List (Nat×I)}{os0 os:List (Nat×ah)}{ρ:List (Nat×Nat)}{aC:Bool}{A0:ae}(hs:aS c (ar ts os0) a w D E)(hu:ee A0 (ar ts os0))(hD:∀ b o,D b o→D1 b o)(hw:iq aC A0 D E D1) :
  ∀ (avs cargs:List I) (vs:List Value),jq aC A0 ρ os avs cargs→fQ (aW w D E) avs vs→aF w D1 (av ρ os E) cargs vs
 | [],[],vs,_,hv=>by cases hv;simp[aF]
 | [],_::_,_,h,_=>by simp[jq] at h
 |_::_,[],_,h,_=>by simp[jq] at h
 |x::xs,y::ys,vs,h,hv=>by
  cases hv with
  |cons hv hvs =>
  rename_i v vs
  simp only[jq] at h
  have ih:=vb hs hu hD hw xs ys vs h.2 hvs
  have hl:dM w D (av ρ os E) w D1 (av ρ os E):=⟨hD,fun _ _ _ _ h=>h,fun _ _ _ h=>h,fun _ aE l h=>⟨aE,l,h,Nat.le_refl _,fun _=>rfl⟩,fun _ _ h=>h,fun _ _ h=>h,fun _ _ _ _ h=>h⟩
  have h1:∃ cs,bK y v cs∧af w D1 (av ρ os E) y cs:=by
   rcases h.1 with ⟨k1,k2,k3⟩ | k
   ·rw[k1] at hv
    have h2:=aW.bL hl ((aW.aR (w:=w) (D:=D) (p:=aq os) (ρ:=bJ ρ) (E:=av ρ os E) (E':=E) (fun n hn=>by simp only[av,hn,if_true]) k2).1 hv)
    cases y <;>simp only[aW] at h2 <;>first | (simp[I.cq] at k3;done) | exact h2
   ·have h2:aF w D E [x] [v]:=mR [x] [v] (.cons hv .nil) (by
     intro z hz
     simp only[List.mem_singleton] at hz
     subst hz
     cases z <;>simp_all[bd,I.cq])
    have h3:=mu (E':=av ρ os E) hs hu hw [x] [y] [v] h2 (by simp[bZ,k])
    simp only[aF] at h3
    obtain ⟨v',rest,cs,e,k1,k2,_⟩:=h3
    simp only[List.cons.injEq] at e
    obtain ⟨rfl,_⟩:=e
    exact ⟨cs,k1,k2⟩
  obtain ⟨cs,k1,k2⟩:=h1
  simp only[aF]
  exact ⟨v,vs,cs,rfl,k1,k2,ih⟩
theorem ee.drop(ts:List (Nat×I))(ns:List Nat)(os0:List (Nat×ah)):ee (ar ts (cE ns os0)) (ar ts os0):=fun n x hx=>by
 simp only[ar,mz] at hx ⊢
 split at hx
 ·cases hx
 ·exact hx
theorem ql.use{run:Array Value→World→(Ending→World→Prop)→Prop}{since:World→aP→aX→Prop}{avs cargs:List I}{post:cV}{vs:List Value}{a:Act}{w:World}{D:aP}{E:aX}{ts:List (Nat×I)}{os0 os:List (Nat×ah)}{ρ:List (Nat×Nat)}
  (hs:aS c (ar ts os0) a w D E) (h:ql run since cargs os post) (aC:Bool) (hmono:∀ {vs w R R'},run vs w R→(∀ e w,R e w→R' e w)→run vs w R') (hsince:(aC=true→∀ D E,since w D E)∧(aC=false→since w (oN (ar ts os0) D E) (av ρ os E)))
  (hg:gm ρ os os0) (ha:jq aC (ar ts (cE (jR ρ os) os0)) ρ os avs cargs) (hb:∀ r os',post r os'→eC aC ρ os os0 r os') (hv:fQ (aW w D E) avs vs) :
  run vs.toArray w fun e w'=>∃ v r os' D2 E2,e=.returned v∧post r os'∧aS c (ar ts (dN ρ os'++os0)) a w' D2 E2∧aW w' D2 E2 (r.aR (bJ ρ)) v∧∀ m e,av ρ os E m=some e→aq os' m=true→∃ e',E2 (bJ ρ m)=some e'∧e.le e':=by
 have notName:∀ n,(jR ρ os).contains n=false→∀ m,aq os m=true→bJ ρ m≠n:=fun n hn m hm he=>by
  obtain ⟨q,hq,rfl⟩:=xK.1 hm
  have:(jR ρ os).contains n=true:=by simp only[jR,List.contains_iff_mem,List.mem_map];exact ⟨q,hq,he⟩
  rw[this] at hn;cases hn
 have other:∀ {D:aP},aS c (ar ts os0) a w D E→∀ n e b x,ak (cE (jR ρ os) os0) n=some x→E n=some e→e.aE=some b→¬ dy (av ρ os E) b:=fun hs n e b x hx he hb ho=>by
  obtain ⟨m,e',h1,h2,hb',_⟩:=hs.s7 hg ho
  rw[mz] at hx
  split at hx
  ·cases hx
  ·rename_i hc
   have:=hs.cQ n (bJ ρ m) e _ b he h2 hb hb'
   exact notName n (by simpa using hc) m h1 this.symm
 cases aC with
 |true =>
  obtain ⟨D1,hD1⟩:∃ D1:aP,D1=fun b o=>D b o∨(b<w.heap.size∧¬ dy (av ρ os E) b):=⟨_,rfl⟩
  have hD:∀ b o,D b o→D1 b o:=fun b o hd=>by rw[hD1];exact .inl hd
  have hw:iq true (ar ts (cE (jR ρ os) os0)) D E D1:=by
   refine ⟨hD,fun n T sz es b cap hn av o _ =>?_,fun _ n x b aQ hn av o _ =>?_,fun _ n ks vs b hn av =>?_⟩
   ·rw[hD1];exact .inr ⟨hs.fR av rfl,other hs n _ b _ hn av rfl⟩
   ·rw[hD1];exact .inr ⟨hs.fR av rfl,other hs n _ b _ hn av rfl⟩
   ·rw[hD1];exact .inr ⟨hs.fR av rfl,other hs n _ b _ hn av rfl⟩
  have hrv:=vb hs (ee.drop ts _ os0) hD hw avs cargs vs ha hv
  refine hmono (h w D1 (av ρ os E) vs (hsince.1 rfl _ _) (fun b o hd=>by
   rw[hD1] at hd
   rcases hd with hd | hd
   ·exact hs.de b o hd
   ·exact hd.1) (hs.Jk hg hD fun b o hd ho=>by
    rw[hD1] at hd
    rcases hd with hd | hd
    ·exact hd
    ·exact absurd ho hd.2) hrv) ?_
  rintro e w' ⟨v,D',E',r,os',he,hp,h1,h2,h3,h4,h5,h6,h7,h8⟩
  obtain ⟨D2,E2,k1,k2⟩:=hs.m5 hg hD (fun h=>by cases h) (hb r os' hp) h1 h2 h3 h5 h4 h8 h6 h7
  exact ⟨v,r,os',D2,E2,he,hp,k1,k2⟩
 |false =>
  obtain ⟨hs1,hw⟩:=hs.oQ
  have hw':iq false (ar ts (cE (jR ρ os) os0)) D E (oN (ar ts os0) D E):=⟨hw.c6,fun n T sz es b cap hn av o hlt=>hw.bW n T sz es b cap (ee.drop ts _ os0 n _ hn) av o hlt,(fun hb=>by cases hb),fun hb=>by cases hb⟩
  have hrv:=vb hs (ee.drop ts _ os0) hw.c6 hw' avs cargs vs ha hv
  refine hmono (h w _ (av ρ os E) vs (hsince.2 rfl) hs1.de (hs1.Jk hg (fun _ _ h=>h) fun b o hd _=>hd) hrv) ?_
  rintro e w' ⟨v,D',E',r,os',he,hp,h1,h2,h3,h4,h5,h6,h7,h8⟩
  obtain ⟨D2,E2,k1,k2⟩:=hs1.m5 hg (fun _ _ h=>h) (fun _ _ _ h=>h) (hb r os' hp) h1 h2 h3 h5 h4 h8 h6 h7
  exact ⟨v,r,os',D2,E2,he,hp,k1,k2⟩
theorem aS.since{A:ae}{a:Act}{w:World}{D:aP}{E E':aX}(h:aS c A a w D E)(av:∀ n,E' n=E n∨E' n=none):zU c w D E' :=
 ⟨h.dO,h.cK,h.c6,fun n e hn=>by
  rcases av n with k | k
  ·rw[k];exact h.dQ n e hn
  ·exact .inl k,h.fE⟩
theorem oi(c:cM)(f:FuncId):c.bh.fn f:=by unfold cM.bh;split <;>trivial
theorem CX(c:cM):c.bh.depth.isSome=true→1≤9:=fun _=>by omega
theorem mb{a:Act}{w:World} : ∀ f,o.about c.P w a.eval=some f→c.bh.fn f:=fun f _=>oi c f
theorem mT{g:b6}(hg:dC c.P o=some g)(r:Option Nat)(ρ:Operand→Value):o.semAt r ρ=execOp ρ o:=by
 cases r with
 |none=>rfl
 |some l =>
  refine Oper.semAt_some l ρ o fun cl h =>?_
  unfold dC at hg
  rw[h] at hg
  simp at hg
theorem SH{f:FuncId}{args:Array Value}{w:World}{R:Ending→World→Prop}(h:Calls c.P f args w R):CallsIn c.bh (9-1) c.P f args w R:=by
 have h1:CallsIn Fence.wide (9-1) c.P f args w R:=callsIn_wide.2 h
 unfold cM.bh
 split
 ·exact h1
 ·exact h1
theorem r5.mono{P:Program}{v:Value}{vs:Array Value}{w:World}{R R':Ending→World→Prop}(h:r5 P v vs w R)(hr:∀ e w,R e w→R' e w):r5 P v vs w R':=by
 obtain ⟨l,h1,fn,tmps,assign,body,h2,h3⟩:=h
 exact ⟨l,h1,fn,tmps,assign,body,h2,h3.mono hr⟩
theorem alh{l:Nat}{f:FuncId}{tmps:Array Value}{assign body:Code}{w:World}{R:Ending→World→Prop}(h:RoundIn Fence.wide 9 c.P l f tmps assign body w R):RoundIn c.bh (9-1) c.P l f tmps assign body w R:=by
 have h1:RoundIn Fence.wide (9-1) c.P l f tmps assign body w R:=⟨h.1,fun cc cs _=>h.2 cc cs (room_wide _)⟩
 unfold cM.bh
 split
 ·exact h1
 ·exact h1
theorem iM.wp{B:ae}{g:b6}(hg:dC c.P o=some g)(h:iM c A o B){a:Act}{w:World}{K:Act→World→Prop}{Q:Exit→Act→World→Prop}(hs:cj c A a w)(hK:∀ a w,cj c B a w→K a w):o.wpIn c.bh 9 c.P a w K Q:=by
 obtain ⟨D,E,hs⟩:=hs
 obtain ⟨w',h⟩:=h a w D E hs
 refine ⟨mb,?_⟩
 rw[mT hg]
 rcases h with ⟨v,h1,h2⟩ | ⟨h1,h2⟩
 ·rw[h1];exact hK _ _ h2
 ·rw[h1];exact hK _ _ h2
theorem Cw{dr:Bool}{K:ae→Prop}{f:FuncId}{avs:List I}{a1 a2:Option (List I)}{vs:List Value}{dst:Option Nat}{rest:List aB}{a:Act}{w:World}{Kw:Act→World→Prop}{Q:Exit→Act→World→Prop}{g:b6}(hg:dC c.P o=some g)(h1:bZ true A avs=a1)(h2:bZ false A avs=a2)
  (hs:∀ D E,aS c A a w D E→fQ (aW w D E) avs vs) (hsim:cj c A a w) (hwp:bj c.P c.Y dr K (.call f avs a1 a2 dst rest A)) (hd:o.dst=dst) (hdn:∀ k,dst=some k→k<c.n)
  (hrun:gS c.P f=true→(execOp a.eval o).run c.P w=.ok (.enter f vs.toArray) w)
  (hK:∀ B a' w',bj c.P c.Y dr K (ay rest B)→cj c B a' w'→Kw a' w'):o.wpIn c.bh 9 c.P a w Kw Q:=by
 obtain ⟨D,E,hsw⟩:=hsim
 have oV:∀ {R:Ending→World→Prop},gS c.P f=true→Calls c.P f vs.toArray w R→(∀ e w',R e w'→∃ v,e=.returned v∧Kw (a.put o.dst v) w')→o.wpIn c.bh 9 c.P a w Kw Q:=fun {R} hc hcl hR=>by
  refine ⟨mb,?_⟩
  rw[mT hg,hrun hc,Oper.uponIn_enter]
  refine ⟨CX c,SH (hcl.mono fun e w' he =>?_)⟩
  obtain ⟨v,rfl,hv⟩:=hR e w' he
  exact hv
 cases hwp with
 |flat r hspec hflat hrest =>
  refine oV hspec.1 (hspec.al9 hsw hflat h1 (hs D E hsw)) ?_
  rintro e w' ⟨v,D',he,hs',hv⟩
  refine ⟨v,he,?_⟩
  rw[hd]
  exact hK _ _ _ hrest ⟨D',E,hs'.aO hdn hv⟩
 |lead r hspec hrest =>
  refine oV hspec.1 (hspec.amb hsw h2 (hs D E hsw)) ?_
  rintro e w' ⟨v,D',he,hs',hv⟩
  refine ⟨v,he,?_⟩
  rw[hd]
  exact hK _ _ _ hrest ⟨D',E,hs'.aO hdn hv⟩
 |gU ns r hdr hspec hf ho hrest =>
  refine oV hspec.1 (hspec.ama hsw ns ho hf (hs D E hsw)) ?_
  rintro e w' ⟨v,D',E',he,hs',hv⟩
  refine ⟨v,he,?_⟩
  rw[hd]
  exact hK _ _ _ hrest ⟨D',E',hs'.aO hdn hv⟩
 |bX aC ρ os cargs post hdr hspec hgv ha hb hrest =>
  refine oV hspec.1 (hspec.2.use hsw aC (fun h=>h.mono) ⟨fun _ _ _=>trivial,fun _=>trivial⟩ hgv ha hb (hs D E hsw)) ?_
  rintro e w' ⟨v,r,os',D2,E2,he,hp,hs',hv,_⟩
  refine ⟨v,he,?_⟩
  rw[hd]
  exact hK _ _ _ (hrest r os' hp) ⟨D2,E2,hs'.aO hdn hv⟩
theorem SG{dr:Bool}{K:ae→Prop}{v:Value}{avs:List I}{vs:List Value}{dst:Option Nat}{rest:List aB}{a:Act}{w:World}{Kw:Act→World→Prop}{Q:Exit→Act→World→Prop}{g:b6}(hg:dC c.P o=some g)
  (hs:∀ D E,aS c A a w D E→fQ (aW w D E) avs vs) (hsim:cj c A a w) (hwp:bj c.P c.Y dr K (.po v avs dst rest A)) (hd:o.dst=dst) (hdn:∀ k,dst=some k→k<c.n)
  (hrun:∀ l,v=.func (.yield l) #[] #[]→(execOp a.eval o).run c.P w=(Instr.yield l vs.toArray).run c.P w)
  (hK:∀ B a' w',bj c.P c.Y dr K (ay rest B)→cj c B a' w'→Kw a' w'):o.wpIn c.bh 9 c.P a w Kw Q:=by
 obtain ⟨D,E,hsw⟩:=hsim
 cases hwp with
 |zj os cargs post hdr hY hgv ha hb hrest =>
  have hyr:=(hsw.eW _ _ _ _ hY).use (ρ:=[]) hsw false (fun h=>h.mono) ⟨(fun h=>by cases h),fun _=>hsw.oQ.1.since (fun n=>by simp only[av,bJ];split <;>simp)⟩ hgv ha hb (hs D E hsw)
  obtain ⟨l,rfl,fn,tmps,assign,body,h2,h3⟩:=hyr
  refine ⟨mb,?_⟩
  rw[mT hg,hrun l rfl,h2,Oper.uponIn_round]
  refine ⟨CX c,alh (h3.mono fun e w' he =>?_)⟩
  obtain ⟨v,r,os',D2,E2,rfl,hp,hs',hv,_⟩:=he
  rw[hd]
  exact hK _ _ _ (hrest r os' hp) ⟨D2,E2,hs'.aO hdn hv⟩
end
section
variable {c:cM} {A:ae} {o:Oper}
theorem vl{P:Program}{n:Nat}{bC:Array Oper}{g:aB}(h:pk P n bC o=some g):dC P o=some g.op∧g.dst=o.dst∧(∀ k,o.dst=some k→k<n) ∧
  ((o.guard=none∧g.guard=none)∨∃ j b t,o.guard=some (j,b)∧(bC[j]?).bind (·.dst)=some t∧g.guard=some (t,b)):=by
 unfold pk at h
 split at h
 ·cases h
 rename_i g' hg'
 split at h
 case isFalse=>cases h
 rename_i hd
 have hdst:∀ k,o.dst=some k→k<n:=by
  intro k hk
  rw[hk] at hd
  simpa[C0] using hd
 split at h
 ·rename_i hgd
  simp only[Option.some.injEq] at h
  subst h
  exact ⟨hg',rfl,hdst,.inl ⟨hgd,rfl⟩⟩
 ·rename_i j b hgd
  split at h
  ·rename_i t ht
   simp only[Option.some.injEq] at h
   subst h
   exact ⟨hg',rfl,hdst,.inr ⟨j,b,t,hgd,ht,rfl⟩⟩
  ·cases h
theorem Jc{dr:Bool}{K:ae→Prop}{op:b6}{dst:Option Nat}{rest:List aB}{a:Act}{w:World}{Kw:Act→World→Prop}{Q:Exit→Act→World→Prop}(hop:dC c.P o=some op)(hd:o.dst=dst)(hdn:∀ k,dst=some k→k<c.n)
  (hsim:cj c A a w) (hK:∀ B a' w',bj c.P c.Y dr K (ay rest B)→cj c B a' w'→Kw a' w') (h:bj c.P c.Y dr K (cP (bB A op) fun v=>ay rest (A.aO dst v))):o.wpIn c.bh 9 c.P a w Kw Q:=by
 cases hv:bB A op with
 |some v =>
  rw[hv] at h
  exact ((akR hop hv).does (by rw[hd];exact hdn)).wp hop hsim (fun a' w' hs=>by rw[hd] at hs;exact hK _ a' w' h hs)
 |none=>rw[hv] at h;cases h
theorem ag7{dr:Bool}{K:ae→Prop}{dst:Option Nat}{rest:List aB}{a:Act}{w:World}{Kw:Act→World→Prop}{Q:Exit→Act→World→Prop}{z:I}(hop:dC c.P o=some (.alloc z))(hd:o.dst=dst)(hdn:∀ k,dst=some k→k<c.n)
  (hwp:bj c.P c.Y dr K (bn A dst (.alloc z) rest (ay rest))) (hsim:cj c A a w) (hK:∀ B a' w',bj c.P c.Y dr K (ay rest B)→cj c B a' w'→Kw a' w'):o.wpIn c.bh 9 c.P a w Kw Q:=by
 have hop0:=hop
 simp only[bn] at hwp
 split at hwp
 case h_2=>cases hwp
 rename_i d
 split at hwp
 case h_2=>cases hwp
 rename_i hf
 unfold dC at hop
 split at hop <;>try (first | (simp at hop;done) | ((repeat' split at hop) <;>simp at hop;done))
 rename_i t ho
 simp only[Option.map_eq_some_iff,b6.alloc.injEq] at hop
 obtain ⟨z',hz,rfl⟩:=hop
 exact (XN ho hz hd (hdn d rfl) hf).wp hop0 hsim (fun a' w' hs=>hK _ a' w' hwp hs)
theorem aha{dr:Bool}{K:ae→Prop}{dst:Option Nat}{rest:List aB}{a:Act}{w:World}{Kw:Act→World→Prop}{Q:Exit→Act→World→Prop}{x:aK}(hop:dC c.P o=some (.box x))(hd:o.dst=dst)(hdn:∀ k,dst=some k→k<c.n)
  (hwp:bj c.P c.Y dr K (bn A dst (.box x) rest (ay rest))) (hsim:cj c A a w) (hK:∀ B a' w',bj c.P c.Y dr K (ay rest B)→cj c B a' w'→Kw a' w'):o.wpIn c.bh 9 c.P a w Kw Q:=by
 have hop0:=hop
 simp only[bn] at hwp
 split at hwp
 case h_2=>cases hwp
 rename_i d
 split at hwp
 case h_2=>cases hwp
 rename_i hf
 split at hwp
 case isFalse=>cases hwp
 rename_i hv
 unfold dC at hop
 split at hop <;>try (first | (simp at hop;done) | ((repeat' split at hop) <;>simp at hop;done))
 rename_i t y ho
 simp only[Option.map_eq_some_iff,b6.box.injEq] at hop
 obtain ⟨z',hz,rfl⟩:=hop
 exact (XS ho hz hv hd (hdn d rfl) hf).wp hop0 hsim (fun a' w' hs=>hK _ a' w' hwp hs)
theorem ahl{dr:Bool}{K:ae→Prop}{dst:Option Nat}{rest:List aB}{a:Act}{w:World}{Kw:Act→World→Prop}{Q:Exit→Act→World→Prop}{s:Option Nat}{x v:aK}(hop:dC c.P o=some (.bl s x v))(hd:o.dst=dst)(hdn:∀ k,dst=some k→k<c.n)
  (hwp:bj c.P c.Y dr K (bn A dst (.bl s x v) rest (ay rest))) (hsim:cj c A a w) (hK:∀ B a' w',bj c.P c.Y dr K (ay rest B)→cj c B a' w'→Kw a' w'):o.wpIn c.bh 9 c.P a w Kw Q:=by
 have hop0:=hop
 simp only[bn] at hwp
 split at hwp
 case h_2=>cases hwp
 split at hwp
 case h_2=>cases hwp
 rename_i n p hp
 split at hwp
 case h_2=>cases hwp
 rename_i b hb
 split at hwp
 case h_2=>cases hwp
 rename_i old hat
 split at hwp
 case isFalse=>cases hwp
 rename_i hok
 unfold dC at hop
 split at hop <;>try (first | (simp at hop;done) | ((repeat' split at hop) <;>simp at hop;done))
 rename_i t y z ho
 split at hop
 case h_2=>cases hop
 rename_i s' x' v' h1 h2 h3
 split at hop
 case isFalse=>cases hop
 rename_i hk
 simp only[Option.some.injEq,b6.bl.injEq] at hop
 obtain ⟨rfl,rfl,rfl⟩:=hop
 exact (XY ho h1 hk h2 h3 hp hb hat hok.1 hok.2.1 hok.2.2 hd).wp hop0 hsim (fun a' w' hs=>hK _ a' w' hwp hs)
theorem ahb{dr:Bool}{K:ae→Prop}{dst:Option Nat}{rest:List aB}{a:Act}{w:World}{Kw:Act→World→Prop}{Q:Exit→Act→World→Prop}{f:FuncId}{args:List aK}(hop:dC c.P o=some (.call f args))(hd:o.dst=dst)(hdn:∀ k,dst=some k→k<c.n)
  (hwp:bj c.P c.Y dr K (bn A dst (.call f args) rest (ay rest))) (hsim:cj c A a w) (hK:∀ B a' w',bj c.P c.Y dr K (ay rest B)→cj c B a' w'→Kw a' w'):o.wpIn c.bh 9 c.P a w Kw Q:=by
 have hop0:=hop
 simp only[bn] at hwp
 unfold dC at hop
 split at hop <;>try (first | (simp at hop;done) | ((repeat' split at hop) <;>simp at hop;done))
 rename_i f' xs ts ho
 split at hop
 case isFalse=>simp at hop
 simp only[Option.map_eq_some_iff,b6.call.injEq] at hop
 obtain ⟨ys,hys,rfl,rfl⟩:=hop
 refine Cw (vs:=xs.toList.map a.eval) hop0 rfl rfl (fun D E hs=>pd hs xs.toList ts.toList ys hys) hsim hwp hd hdn (fun hc =>?_) hK
 have e:xs.map a.eval=(xs.toList.map a.eval).toArray:=by apply Array.ext';simp
 simp only[execOp,ho,resolve,Act.eval,Deferred.ofValue,Sem.run_bind,Sem.run_pure,Result.andThen_ok,invoke,Array.append_empty,Array.empty_append,yN hc]
 rw[←e]
theorem ahm{dr:Bool}{K:ae→Prop}{dst:Option Nat}{rest:List aB}{a:Act}{w:World}{Kw:Act→World→Prop}{Q:Exit→Act→World→Prop}{f:FuncId}{args:List aK}(hop:dC c.P o=some (.kv f args))(hd:o.dst=dst)(hdn:∀ k,dst=some k→k<c.n)
  (hwp:bj c.P c.Y dr K (bn A dst (.kv f args) rest (ay rest))) (hsim:cj c A a w) (hK:∀ B a' w',bj c.P c.Y dr K (ay rest B)→cj c B a' w'→Kw a' w'):o.wpIn c.bh 9 c.P a w Kw Q:=by
 have hop0:=hop
 simp only[bn] at hwp
 unfold dC at hop
 split at hop <;>try (first | (simp at hop;done) | ((repeat' split at hop) <;>simp at hop;done))
 rename_i f' xs ts ho
 split at hop
 case isTrue=>simp at hop
 simp only[Option.map_eq_some_iff,b6.kv.injEq] at hop
 obtain ⟨ys,hys,rfl,rfl⟩:=hop
 obtain ⟨D,E,hs⟩:=hsim
 cases hwp with
 |ext r hdr hx hw =>
  obtain ⟨v,g1,g2⟩:=hx c a w D E (xs.toList.map a.eval) rfl hs (pd hs xs.toList ts.toList ys hys)
  have e:xs.map a.eval=(xs.toList.map a.eval).toArray:=by apply Array.ext';simp
  have hrun:(execOp a.eval o).run c.P w=.ok (.value v) w:=by
   simp only[execOp,ho,resolve,Act.eval,Deferred.ofValue,Sem.run_bind,Sem.run_pure,Result.andThen_ok,invoke,Array.append_empty,Array.empty_append]
   rw[←e] at g1
   exact g1
  refine ⟨mb,?_⟩
  rw[mT hop0,hrun,Oper.uponIn_value]
  exact hK _ _ _ hw ⟨D,E,by rw[hd];exact hs.aO hdn g2⟩
theorem ahf{dr:Bool}{K:ae→Prop}{dst:Option Nat}{rest:List aB}{a:Act}{w:World}{Kw:Act→World→Prop}{Q:Exit→Act→World→Prop} (hop:dC c.P o=some (.jP))(hd:o.dst=dst)(hdn:∀ k,dst=some k→k<c.n)
  (hwp:bj c.P c.Y dr K (bn A dst (.jP) rest (ay rest))) (hsim:cj c A a w) (hK:∀ B a' w',bj c.P c.Y dr K (ay rest B)→cj c B a' w'→Kw a' w'):o.wpIn c.bh 9 c.P a w Kw Q:=by
 have hop0:=hop
 simp only[bn] at hwp
 split at hwp
 case h_2=>cases hwp
 rename_i d
 split at hwp
 case h_2=>cases hwp
 rename_i hf
 unfold dC at hop
 split at hop <;>try (first | (simp at hop;done) | ((repeat' split at hop) <;>simp at hop;done))
 rename_i t ho
 exact (XV ho hd (hdn d rfl) hf).wp hop0 hsim (fun a' w' hs=>hK _ a' w' hwp hs)
theorem ahg{dr:Bool}{K:ae→Prop}{dst:Option Nat}{rest:List aB}{a:Act}{w:World}{Kw:Act→World→Prop}{Q:Exit→Act→World→Prop}{e:TypeId}{bytes:Nat}{z:I}{n:aK}(hop:dC c.P o=some (.jQ e bytes z n))(hd:o.dst=dst)(hdn:∀ k,dst=some k→k<c.n)
  (hwp:bj c.P c.Y dr K (bn A dst (.jQ e bytes z n) rest (ay rest))) (hsim:cj c A a w) (hK:∀ B a' w',bj c.P c.Y dr K (ay rest B)→cj c B a' w'→Kw a' w'):o.wpIn c.bh 9 c.P a w Kw Q:=by
 have hop0:=hop
 simp only[bn] at hwp
 split at hwp
 case h_2=>cases hwp
 rename_i d
 split at hwp
 case h_2=>cases hwp
 rename_i hf
 split at hwp
 case h_2=>cases hwp
 rename_i k m hn
 split at hwp
 case isFalse=>cases hwp
 rename_i hc
 unfold dC at hop
 split at hop <;>try (first | (simp at hop;done) | ((repeat' split at hop) <;>simp at hop;done))
 rename_i t l l' ho
 split at hop
 case h_2=>cases hop
 rename_i e' n' hu hl
 split at hop
 case h_2=>cases hop
 rename_i z' hz
 split at hop
 case isFalse=>cases hop
 rename_i hc2
 simp only[Option.some.injEq,b6.jQ.injEq] at hop
 obtain ⟨rfl,rfl,rfl,rfl⟩:=hop
 obtain ⟨j,rfl⟩:=Int.eq_ofNat_of_zero_le hc.1
 simp only[Int.toNat_natCast] at hc hwp
 exact (XW ho (alp hc2.1) hu hl hn hz hc2.2.1 hc2.2.2 hc.2.1 hc.2.2 hd (hdn d rfl) hf).wp hop0 hsim (fun a' w' hs=>hK _ a' w' hwp hs)
theorem ahh{dr:Bool}{K:ae→Prop}{dst:Option Nat}{rest:List aB}{a:Act}{w:World}{Kw:Act→World→Prop}{Q:Exit→Act→World→Prop}{ty:cN}{m k v:aK}(hop:dC c.P o=some (.gK ty m k v))(hd:o.dst=dst)(hdn:∀ k,dst=some k→k<c.n)
  (hwp:bj c.P c.Y dr K (bn A dst (.gK ty m k v) rest (ay rest))) (hsim:cj c A a w) (hK:∀ B a' w',bj c.P c.Y dr K (ay rest B)→cj c B a' w'→Kw a' w'):o.wpIn c.bh 9 c.P a w Kw Q:=by
 have hop0:=hop
 simp only[bn] at hwp
 split at hwp
 case h_2=>cases hwp
 split at hwp
 case h_2=>cases hwp
 rename_i n hm
 split at hwp
 case h_2=>cases hwp
 rename_i ks vs hn
 split at hwp
 case h_2=>cases hwp
 rename_i ks' vs' hl
 unfold dC at hop
 split at hop <;>try (first | (simp at hop;done) | ((repeat' split at hop) <;>simp at hop;done))
 all_goals
  rename_i t mo ko vo ho
  split at hop
  case h_2=>cases hop
  rename_i kt et m' k' hu h1 h2
  split at hop
  case h_2=>cases hop
  rename_i ty' v' hk h3
  simp only[Option.some.injEq,b6.gK.injEq] at hop
  obtain ⟨rfl,rfl,rfl,rfl⟩:=hop
 ·exact (CZ (.inl ho) hu hk h1 h2 h3 hm hn hl hd).wp hop0 hsim (fun a' w' hs=>hK _ a' w' hwp hs)
 ·exact (CZ (.inr ho) hu hk h1 h2 h3 hm hn hl hd).wp hop0 hsim (fun a' w' hs=>hK _ a' w' hwp hs)
theorem ahk{dr:Bool}{K:ae→Prop}{dst:Option Nat}{rest:List aB}{a:Act}{w:World}{Kw:Act→World→Prop}{Q:Exit→Act→World→Prop}{x:aK}(hop:dC c.P o=some (.kq x))(hd:o.dst=dst)(hdn:∀ k,dst=some k→k<c.n)
  (hwp:bj c.P c.Y dr K (bn A dst (.kq x) rest (ay rest))) (hsim:cj c A a w) (hK:∀ B a' w',bj c.P c.Y dr K (ay rest B)→cj c B a' w'→Kw a' w'):o.wpIn c.bh 9 c.P a w Kw Q:=by
 have hop0:=hop
 simp only[bn] at hwp
 split at hwp
 case h_2=>cases hwp
 rename_i d
 split at hwp
 case h_2=>cases hwp
 rename_i hf
 split at hwp
 case h_2=>cases hwp
 rename_i ks vs hx
 unfold dC at hop
 split at hop <;>try (first | (simp at hop;done) | ((repeat' split at hop) <;>simp at hop;done))
 rename_i t y ho
 split at hop
 case h_2=>cases hop
 rename_i kt et hu
 simp only[Option.map_eq_some_iff,b6.kq.injEq] at hop
 obtain ⟨z,hz,rfl⟩:=hop
 exact (XX ho hu hz hx hd (hdn d rfl) hf).wp hop0 hsim (fun a' w' hs=>hK _ a' w' hwp hs)
theorem ahj{dr:Bool}{K:ae→Prop}{dst:Option Nat}{rest:List aB}{a:Act}{w:World}{Kw:Act→World→Prop}{Q:Exit→Act→World→Prop}{x:aK}(hop:dC c.P o=some (.jx x))(hd:o.dst=dst)(hdn:∀ k,dst=some k→k<c.n)
  (hwp:bj c.P c.Y dr K (bn A dst (.jx x) rest (ay rest))) (hsim:cj c A a w) (hK:∀ B a' w',bj c.P c.Y dr K (ay rest B)→cj c B a' w'→Kw a' w'):o.wpIn c.bh 9 c.P a w Kw Q:=by
 have hop0:=hop
 simp only[bn] at hwp
 split at hwp
 case h_2=>cases hwp
 rename_i n hx
 split at hwp
 case h_2=>cases hwp
 rename_i ks vs left cur hn
 unfold dC at hop
 split at hop <;>try (first | (simp at hop;done) | ((repeat' split at hop) <;>simp at hop;done))
 rename_i y ho
 simp only[Option.map_eq_some_iff,b6.jx.injEq] at hop
 obtain ⟨z,hz,rfl⟩:=hop
 obtain ⟨D,E,hs⟩:=hsim
 obtain ⟨w',v,hrun,hor⟩:=ai4 ho hz hx hn (by rw[hd];exact hdn) hs
 refine ⟨mb,?_⟩
 rw[mT hop0,hrun,Oper.uponIn_value]
 rw[hd] at hor
 split at hwp
 ·rename_i hl
  rcases hor with ⟨_,hor⟩ | ⟨i,k,x,hi,_⟩
  ·exact hK _ _ _ hwp (by rw[hd];exact hor)
  ·rw[hl] at hi;cases hi
 ·rename_i hl
  rcases hor with ⟨h,_⟩ | ⟨i,k,x,hi,hk,hx,hor⟩
  ·exact absurd h hl
  ·cases hwp with
   |any hdr hall =>
    have:=hall i hi
    simp only[hk,hx] at this
    exact hK _ _ _ this (by rw[hd];exact hor)
theorem ahc{dr:Bool}{K:ae→Prop}{dst:Option Nat}{rest:List aB}{a:Act}{w:World}{Kw:Act→World→Prop}{Q:Exit→Act→World→Prop}{x:aK}{args:List aK}(hop:dC c.P o=some (.eH x args))(hd:o.dst=dst)(hdn:∀ k,dst=some k→k<c.n)
  (hwp:bj c.P c.Y dr K (bn A dst (.eH x args) rest (ay rest))) (hsim:cj c A a w) (hK:∀ B a' w',bj c.P c.Y dr K (ay rest B)→cj c B a' w'→Kw a' w'):o.wpIn c.bh 9 c.P a w Kw Q:=by
 have hop0:=hop
 simp only[bn] at hwp
 unfold dC at hop
 split at hop <;>try (first | (simp at hop;done) | ((repeat' split at hop) <;>simp at hop;done))
 rename_i y xs ts _ ho
 split at hop
 case h_2=>cases hop
 rename_i y' ys h1 h2
 simp only[Option.some.injEq,b6.eH.injEq] at hop
 obtain ⟨rfl,rfl⟩:=hop
 obtain ⟨D,E,hs⟩:=hsim
 have hv:=b8 hs h1
 split at hwp
 ·rename_i f caps hx
  rw[hx] at hv
  obtain ⟨cs,q1,q2⟩:=hv
  simp only[af] at q2
  obtain ⟨vs,q3,q4⟩:=q2
  have hval:a.eval y=.func (.func f) #[] vs.toArray:=by simpa[bK,I.isAgg,q3] using q1.symm
  refine Cw (vs:=xs.toList.map a.eval++vs) hop0 rfl rfl (fun D' E' hs'=>(pd hs' xs.toList ts.toList ys h2).append ?_) ⟨D,E,hs⟩ hwp hd hdn (fun hc =>?_) hK
  ·have hv':=b8 hs' h1
   rw[hx] at hv'
   obtain ⟨cs',q1',q2'⟩:=hv'
   simp only[af] at q2'
   obtain ⟨vs',q3',q4'⟩:=q2'
   have hval':a.eval y=.func (.func f) #[] vs'.toArray:=by simpa[bK,I.isAgg,q3'] using q1'.symm
   rw[hval] at hval'
   simp only[Value.func.injEq,true_and,Array.mk.injEq] at hval'
   subst hval'
   exact yR q4'
  ·have e:xs.map a.eval=(xs.toList.map a.eval).toArray:=by apply Array.ext';simp
   simp only[execOp,ho,resolve,hval,Deferred.ofValue,Sem.run_bind,Sem.run_pure,Result.andThen_ok,invoke,Array.empty_append,yN hc]
   rw[e]
   simp
 ·rename_i u hx
  rw[hx] at hv
  obtain ⟨cs,q1,q2⟩:=hv
  simp only[af] at q2
  have hval:a.eval y=u:=by simpa[bK,I.isAgg,q2.1] using q1.symm
  refine SG (vs:=xs.toList.map a.eval) hop0 (fun D' E' hs'=>pd hs' xs.toList ts.toList ys h2) ⟨D,E,hs⟩ hwp hd hdn (fun l hl =>?_) hK
  subst hl
  have e:xs.map a.eval=(xs.toList.map a.eval).toArray:=by apply Array.ext';simp
  simp only[execOp,ho,resolve,hval,Deferred.ofValue,Sem.run_bind,Sem.run_pure,Result.andThen_ok,invoke,Array.empty_append]
  rw[e]
 ·cases hwp
theorem ahi{dr:Bool}{K:ae→Prop}{dst:Option Nat}{rest:List aB}{a:Act}{w:World}{Kw:Act→World→Prop}{Q:Exit→Act→World→Prop}{neg:Bool}{x:aK}(hop:dC c.P o=some (.nilS neg x))(hd:o.dst=dst)(hdn:∀ k,dst=some k→k<c.n)
  (hwp:bj c.P c.Y dr K (bn A dst (.nilS neg x) rest (ay rest))) (hsim:cj c A a w) (hK:∀ B a' w',bj c.P c.Y dr K (ay rest B)→cj c B a' w'→Kw a' w'):o.wpIn c.bh 9 c.P a w Kw Q:=by
 have hop0:=hop
 simp only[bn] at hwp
 split at hwp
 case isFalse=>exact Jc hop hd hdn hsim hK hwp
 rename_i hu
 cases hwp with
 |any hdr hall =>
 unfold dC at hop
 split at hop <;>try (first | (simp at hop;done) | ((repeat' split at hop) <;>simp at hop;done))
 rename_i bop t y z yt ho
 split at hop
 ·simp at hop
 ·simp at hop
 ·rename_i e y' z' hut h1 h2
  split at hop
  ·rename_i s
   split at hop
   ·rename_i hopp
    simp only[Option.some.injEq,b6.nilS.injEq] at hop
    obtain ⟨rfl,rfl⟩:=hop
    have ho':o.op=.binOp (if (bop==.neq)=true then .neq else .eql) t y z yt:=by
     rcases hopp with rfl | rfl <;>simpa using ho
    obtain ⟨D,E,hs⟩:=hsim
    have hund:∃ sz,ab A y'=.slice sz []∨ab A y'=.c0 sz:=by
     generalize ab A y'=q at hu
     cases q <;>simp only[j4,Bool.false_eq_true,List.isEmpty_iff] at hu
     ·rename_i sz;exact ⟨sz,.inr rfl⟩
     ·rename_i sz es;subst hu;exact ⟨sz,.inl rfl⟩
    obtain ⟨b,hrun⟩:=ai6 ho' hut h1 h2 hund hs
    refine ⟨mb,?_⟩
    rw[mT hop0,hrun,Oper.uponIn_value]
    have hb:=hall (if b then 0 else 1) (by cases b <;>simp)
    refine hK _ _ _ hb ⟨D,E,?_⟩
    rw[hd]
    have e:((if b=true then (0:Nat) else 1)==0)=b:=by cases b <;>rfl
    rw[e]
    exact hs.aO hdn (oC b)
   ·cases hop
  ·cases hop
 ·split at hop <;>simp at hop
 ·split at hop <;>simp at hop
 ·cases hop
theorem ag8{dr:Bool}{K:ae→Prop}{dst:Option Nat}{rest:List aB}{a:Act}{w:World}{Kw:Act→World→Prop}{Q:Exit→Act→World→Prop}{e:TypeId}{esz bytes:Nat}{z:I}{s x:aK}(hop:dC c.P o=some (.cS e esz bytes z s x))(hd:o.dst=dst)(hdn:∀ k,dst=some k→k<c.n)
  (hwp:bj c.P c.Y dr K (bn A dst (.cS e esz bytes z s x) rest (ay rest))) (hsim:cj c A a w) (hK:∀ B a' w',bj c.P c.Y dr K (ay rest B)→cj c B a' w'→Kw a' w'):o.wpIn c.bh 9 c.P a w Kw Q:=by
 have hop0:=hop
 simp only[bn] at hwp
 unfold dC at hop
 split at hop <;>try (first | (simp at hop;done) | ((repeat' split at hop) <;>simp at hop;done))
 rename_i args tys ho
 split at hop
 case h_2=>cases hop
 rename_i y q t t' ha ht
 split at hop
 case h_2=>cases hop
 rename_i e' s' x' k1 k2 k3
 split at hop
 case isFalse=>split at hop <;>simp at hop
 rename_i hk
 simp only[Option.map_eq_some_iff,b6.cS.injEq] at hop
 obtain ⟨zz,hz1,rfl,rfl,rfl,rfl,rfl,rfl⟩:=hop
 obtain ⟨rfl,hk2,hk3⟩:=hk
 have ha':args = #[y,q]:=by apply Array.ext';simpa using ha
 have ht':tys = #[t,t]:=by apply Array.ext';simpa using ht
 subst ha' ht'
 rw[hz1] at hk3
 simp only[Option.map_some,Option.some.injEq] at hk3
 have hinfo:(c.P.info? e').isSome=true:=by
  obtain ⟨ti,_,hti,_⟩:=l7 hz1
  rw[hti];rfl
 have grow:∀ es ys,ev A (c.P.cellsOf e') (ab A s')=some es→ev A (c.P.cellsOf e') (ab A x')=some ys→ys≠[]→(∀ a w D E,aS c A a w D E→∀ ad l cp,a.eval y=.slice ad l cp→cp<l+ys.length) →
   bj c.P c.Y dr K (gp A dst (c.P.cellsOf e') (c.P.bytesOf e') zz es ys (ay rest))→o.wpIn c.bh 9 c.P a w Kw Q:=fun es ys hse hsx hne hfull h=>by
  simp only[gp] at h
  split at h
  case h_2=>cases h
  rename_i d
  split at h
  case h_2=>cases h
  rename_i hf
  split at h
  case isFalse=>cases h
  rename_i hb
  cases h with
  |any hdr hall =>
   obtain ⟨D,E,hs⟩:=hsim
   obtain ⟨v,w',m,g1,g2,g3⟩:=P3 ho k1 k2 k3 hz1 hk3 hse hsx hb.1 hd (hdn d rfl) hf hne hs (hfull a w D E hs) hb.2
   refine ⟨mb,?_⟩
   rw[mT hop0,g1,Oper.uponIn_value,hd]
   rw[hd] at g3
   exact hK _ _ _ (hall m g2) g3
 split at hwp
 ·rename_i n l hs'
  split at hwp
  case h_2=>cases hwp
  rename_i sz ys hx'
  split at hwp
  case h_3=>cases hwp
  case h_2 =>
   rename_i T xs hn
   split at hwp
   case isFalse=>cases hwp
   rename_i hok
   obtain ⟨h1,h2,h3,h4,h5,h6,h7,h8⟩:=hok
   subst h3 h4
   have hl5:ys.length=(qM ys).length:=(congrArg List.length h5).trans (by simp)
   rw[hl5] at h7 h8 hwp
   rw[h5] at hx'
   have hd':=XP (o:=o) ho k1 k2 k3 hz1 h2 hs' hn h1 hx' (fun e=>h6 (by rw[h5,e];rfl)) h7 h8 (by rw[hd];exact hdn)
   exact hd'.wp hop0 hsim (fun a' w' hs=>by rw[hd] at hs;exact hK _ a' w' hwp hs)
  rename_i T sz' es hn
  split at hwp
  case isFalse=>cases hwp
  rename_i hok
  obtain ⟨h1,h2,h3,h4,h5,h6,h7⟩:=hok
  subst h2 h3 h4
  have hd':=XO (o:=o) ho k1 k2 k3 hz1 hk3 hk2 hs' hn h1 hx' rfl h5 h6 h7 (by rw[hd];exact hdn)
  exact hd'.wp hop0 hsim (fun a' w' hs=>by rw[hd] at hs;exact hK _ a' w' hwp hs)
 ·simp only[ff] at hwp
  split at hwp
  case h_2=>cases hwp
  rename_i es ys hse hsx
  split at hwp
  ·rename_i hne
   subst hne
   exact ((XR ho k1 hinfo k2 k3 hse hsx).does (by rw[hd];exact hdn)).wp hop0 hsim (fun a' w' hs=>by rw[hd] at hs;exact hK _ a' w' hwp hs)
  ·rename_i hne
   have hpos:0<ys.length:=List.length_pos_iff.2 hne
   split at hwp
   ·rename_i z0 hsv
    refine grow es ys hse hsx hne (fun a w D E hs ad l cp hv =>?_) hwp
    have h0:=b8 hs k2
    rw[hsv] at h0
    obtain ⟨cs,q1,q2⟩:=h0
    simp only[af] at q2
    have:a.eval y=.slice none 0 0:=by simpa[bK,I.isAgg,q2] using q1.symm
    rw[this] at hv
    simp only[Value.slice.injEq] at hv
    omega
   ·rename_i z0 hsv
    refine grow es ys hse hsx hne (fun a w D E hs ad l cp hv =>?_) hwp
    have h0:=b8 hs k2
    rw[hsv] at h0
    obtain ⟨cs,q1,q2⟩:=h0
    simp only[af] at q2
    obtain ⟨ad',q2⟩:=q2
    have:a.eval y=.slice ad' 0 0:=by simpa[bK,I.isAgg,q2] using q1.symm
    rw[this] at hv
    simp only[Value.slice.injEq] at hv
    omega
   ·rename_i n p sz lo l hsv
    split at hwp
    case h_2=>cases hwp
    rename_i b hn
    split at hwp
    case h_2=>cases hwp
    rename_i fs hat
    split at hwp
    ·rename_i hroom
     split at hwp
     case isFalse=>cases hwp
     rename_i hok
     obtain ⟨rfl,hsh⟩:=hok
     exact (XQ ho k1 hinfo k2 k3 hsv hn hat hsx hroom hsh (by rw[hd];exact hdn)).wp hop0 hsim (fun a' w' hs=>by rw[hd] at hs;exact hK _ a' w' hwp hs)
    ·rename_i hroom
     refine grow es ys hse hsx hne (fun a w D E hs ad l' cp hv =>?_) hwp
     have h0:=b8 hs k2
     rw[hsv] at h0
     obtain ⟨_,bb,cs,T,off,c1,c2,c3,_,_,_,_,_,_,_,_,_,_,r1,dT,oI⟩:=hs.view (fs:=fs) h0 (by simp only[cv,hn,hat])
     rw[oI] at hv
     simp only[Value.slice.injEq] at hv
     omega
   ·cases hwp
theorem ag9{dr:Bool}{K:ae→Prop}{dst:Option Nat}{rest:List aB}{a:Act}{w:World}{Kw:Act→World→Prop}{Q:Exit→Act→World→Prop}{e:TypeId}{esz bytes:Nat}{z:I}{s n:aK}(hop:dC c.P o=some (.me e esz bytes z s n))(hd:o.dst=dst)(hdn:∀ k,dst=some k→k<c.n)
  (hwp:bj c.P c.Y dr K (bn A dst (.me e esz bytes z s n) rest (ay rest))) (hsim:cj c A a w) (hK:∀ B a' w',bj c.P c.Y dr K (ay rest B)→cj c B a' w'→Kw a' w'):o.wpIn c.bh 9 c.P a w Kw Q:=by
 have hop0:=hop
 simp only[bn] at hwp
 unfold dC at hop
 split at hop <;>try (first | (simp at hop;done) | ((repeat' split at hop) <;>simp at hop;done))
 rename_i args tys ho
 split at hop
 case h_2=>cases hop
 rename_i y q t t' ha ht
 split at hop
 case h_2=>cases hop
 rename_i e' s' x' k1 k2 k3
 split at hop
 case isTrue=>simp at hop
 split at hop
 case isFalse=>cases hop
 rename_i hk
 simp only[Option.map_eq_some_iff,b6.me.injEq] at hop
 obtain ⟨zz,hz1,rfl,rfl,rfl,rfl,rfl,rfl⟩:=hop
 obtain ⟨hint,hk2,hk3⟩:=hk
 have ha':args = #[y,q]:=by apply Array.ext';simpa using ha
 have ht':tys = #[t,t']:=by apply Array.ext';simpa using ht
 subst ha' ht'
 rw[hz1] at hk3
 simp only[Option.map_some,Option.some.injEq] at hk3
 obtain ⟨kt,hkt⟩:∃ kt,c.P.underlying t'=some (.int kt):=by
  cases hu:c.P.underlying t' with
  |none=>rw[hu] at hint;cases hint
  |some dsc=>cases dsc <;>rw[hu] at hint <;>first | exact ⟨_,rfl⟩ | cases hint
 split at hwp
 case h_2=>cases hwp
 rename_i kx aV hx'
 simp only[u7] at hwp
 split at hwp
 case h_2=>cases hwp
 rename_i es hse
 split at hwp
 case h_2=>cases hwp
 rename_i nn p sz lo l hsv
 split at hwp
 case h_2=>cases hwp
 rename_i bb hn
 split at hwp
 case h_2=>cases hwp
 rename_i fs hat
 split at hwp
 case isFalse=>cases hwp
 rename_i hroom
 simp only[gp] at hwp
 split at hwp
 case h_2=>cases hwp
 rename_i d
 split at hwp
 case h_2=>cases hwp
 rename_i hf
 split at hwp
 case isFalse=>cases hwp
 rename_i hb
 rw[List.length_replicate] at hb
 cases hwp with
 |any hdr hall =>
  obtain ⟨D,E,hs⟩:=hsim
  obtain ⟨v,w',m,g1,g2,g3⟩:=P9 ho k1 k2 k3 hkt hx' rfl hroom.1 hk2 hz1 hk3 hse hb.1 hd (hdn d rfl) hf hs (fun ad l' cp hv=>by
   have h0:=b8 hs k2
   rw[hsv] at h0
   have hsv':=hse
   obtain ⟨_,b1,cs,T,off,c1,c2,c3,_,_,_,_,_,_,_,_,_,_,r1,dT,oI⟩:=hs.view (fs:=fs) h0 (by simp only[cv,hn,hat])
   rw[oI] at hv
   simp only[Value.slice.injEq] at hv
   have hel:es.length=l:=by
    rw[hsv] at hse
    simp only[ev,cv,hn,hat] at hse
    split at hse
    ·simp only[Option.some.injEq] at hse
     rw[←hse,List.length_take,List.length_drop]
     omega
    ·cases hse
   omega) hb.2
  refine ⟨mb,?_⟩
  rw[mT hop0,g1,Oper.uponIn_value,hd]
  rw[hd] at g3
  have:=hall m (by rw[List.length_replicate];exact g2)
  rw[List.length_replicate] at this
  exact hK _ _ _ this g3
theorem ahd{dr:Bool}{K:ae→Prop}{dst:Option Nat}{rest:List aB}{a:Act}{w:World}{Kw:Act→World→Prop}{Q:Exit→Act→World→Prop}{esz:Nat}{z:I}{x:aK}(hop:dC c.P o=some (.js esz z x))(hd:o.dst=dst)(hdn:∀ k,dst=some k→k<c.n)
  (hwp:bj c.P c.Y dr K (bn A dst (.js esz z x) rest (ay rest))) (hsim:cj c A a w) (hK:∀ B a' w',bj c.P c.Y dr K (ay rest B)→cj c B a' w'→Kw a' w'):o.wpIn c.bh 9 c.P a w Kw Q:=by
 have hop0:=hop
 simp only[bn] at hwp
 split at hwp
 case h_2=>cases hwp
 unfold dC at hop
 split at hop <;>try (first | (simp at hop;done) | ((repeat' split at hop) <;>simp at hop;done))
 rename_i args tys ho
 split at hop
 case h_2=>cases hop
 rename_i y t ha ht
 split at hop
 case h_2=>cases hop
 rename_i e' x' k1 k2
 simp only[Option.map_eq_some_iff,b6.js.injEq] at hop
 obtain ⟨zz,hz1,rfl,rfl,rfl⟩:=hop
 have ha':args = #[y]:=by apply Array.ext';simpa using ha
 have ht':tys = #[t]:=by apply Array.ext';simpa using ht
 subst ha' ht'
 have nothing:bj c.P c.Y dr K (ay rest A)→(∀ a w D E,aS c A a w D E→∃ ad cp,a.eval y=.slice ad 0 cp)→o.wpIn c.bh 9 c.P a w Kw Q:=fun h hv=>by
  obtain ⟨D,E,hs⟩:=hsim
  obtain ⟨ad,cp,hv⟩:=hv a w D E hs
  refine ⟨mb,?_⟩
  have hrun:(execOp a.eval o).run c.P w=.ok (.value (.tuple #[])) w:=by
   cases ad <;>simp[execOp,ho,resolve,invoke,builtin,Builtin.clear_,run_underlying k1,hv]
  rw[mT hop0,hrun,Oper.uponIn_value,hd]
  exact hK _ _ _ h ⟨D,E,hs⟩
 unfold nd at hwp
 split at hwp
 ·rename_i n p sz lo l hv
  split at hwp
  case h_2=>cases hwp
  rename_i b hn
  split at hwp
  case h_2=>cases hwp
  rename_i fs hat
  split at hwp
  case isFalse=>cases hwp
  rename_i hok
  obtain ⟨rfl,hsh⟩:=hok
  exact (XT ho k1 k2 hz1 hv hn hat hsh hd).wp hop0 hsim (fun a' w' hs=>hK _ a' w' hwp hs)
 ·rename_i z0 hv
  refine nothing hwp fun a w D E hs =>?_
  have h0:=b8 hs k2
  rw[hv] at h0
  obtain ⟨cs,q1,q2⟩:=h0
  simp only[af] at q2
  exact ⟨none,0,by simpa[bK,I.isAgg,q2] using q1.symm⟩
 ·rename_i z0 hv
  refine nothing hwp fun a w D E hs =>?_
  have h0:=b8 hs k2
  rw[hv] at h0
  obtain ⟨cs,q1,q2⟩:=h0
  simp only[af] at q2
  obtain ⟨ad,q2⟩:=q2
  exact ⟨ad,0,by simpa[bK,I.isAgg,q2] using q1.symm⟩
 ·cases hwp
theorem ahe{dr:Bool}{K:ae→Prop}{dst:Option Nat}{rest:List aB}{a:Act}{w:World}{Kw:Act→World→Prop}{Q:Exit→Act→World→Prop}{esz:Nat}{x y:aK}(hop:dC c.P o=some (.lA esz x y))(hd:o.dst=dst)(hdn:∀ k,dst=some k→k<c.n)
  (hwp:bj c.P c.Y dr K (bn A dst (.lA esz x y) rest (ay rest))) (hsim:cj c A a w) (hK:∀ B a' w',bj c.P c.Y dr K (ay rest B)→cj c B a' w'→Kw a' w'):o.wpIn c.bh 9 c.P a w Kw Q:=by
 have hop0:=hop
 simp only[bn] at hwp
 unfold dC at hop
 split at hop <;>try (first | (simp at hop;done) | ((repeat' split at hop) <;>simp at hop;done))
 rename_i args tys ho
 split at hop
 case h_2=>cases hop
 rename_i u v t t' ha ht
 split at hop
 case h_2=>cases hop
 rename_i e' x' y' k1 k2 k3
 split at hop
 case isFalse=>cases hop
 rename_i hk
 simp only[Option.some.injEq,b6.lA.injEq] at hop
 obtain ⟨rfl,rfl,rfl⟩:=hop
 obtain ⟨rfl,hinfo⟩:=hk
 have ha':args = #[u,v]:=by apply Array.ext';simpa using ha
 have ht':tys = #[t,t]:=by apply Array.ext';simpa using ht
 subst ha' ht'
 unfold su at hwp
 split at hwp
 ·rename_i n p sz lo l ys hv hsx
  split at hwp
  case h_2=>cases hwp
  rename_i b hn
  split at hwp
  case h_2=>cases hwp
  rename_i fs hat
  split at hwp
  case isFalse=>cases hwp
  rename_i hok
  obtain ⟨rfl,hsh⟩:=hok
  exact (XU ho k1 hinfo k2 k3 hv hn hat hsx rfl hsh (by rw[hd];exact hdn)).wp hop0 hsim (fun a' w' hs=>by rw[hd] at hs;exact hK _ a' w' hwp hs)
 ·cases hwp
theorem xm{dr:Bool}{K:ae→Prop}{op:b6}{dst:Option Nat}{rest:List aB}{a:Act}{w:World}{Kw:Act→World→Prop}{Q:Exit→Act→World→Prop}(hop:dC c.P o=some op)(hd:o.dst=dst)(hdn:∀ k,dst=some k→k<c.n)
  (hwp:bj c.P c.Y dr K (bn A dst op rest (ay rest))) (hsim:cj c A a w) (hK:∀ B a' w',bj c.P c.Y dr K (ay rest B)→cj c B a' w'→Kw a' w'):o.wpIn c.bh 9 c.P a w Kw Q:=by
 cases op with
 |alloc z=>exact ag7 hop hd hdn hwp hsim hK
 |box x=>exact aha hop hd hdn hwp hsim hK
 |bl s x v=>exact ahl hop hd hdn hwp hsim hK
 |call f args=>exact ahb hop hd hdn hwp hsim hK
 |kv f args=>exact ahm hop hd hdn hwp hsim hK
 |jP=>exact ahf hop hd hdn hwp hsim hK
 |jQ e bytes z n=>exact ahg hop hd hdn hwp hsim hK
 |gK ty m k v=>exact ahh hop hd hdn hwp hsim hK
 |kq x=>exact ahk hop hd hdn hwp hsim hK
 |jx x=>exact ahj hop hd hdn hwp hsim hK
 |eH x args=>exact ahc hop hd hdn hwp hsim hK
 |nilS neg x=>exact ahi hop hd hdn hwp hsim hK
 |cS e esz bytes z s x=>exact ag8 hop hd hdn hwp hsim hK
 |me e esz bytes z s n=>exact ag9 hop hd hdn hwp hsim hK
 |js esz z x=>exact ahd hop hd hdn hwp hsim hK
 |lA esz x y=>exact ahe hop hd hdn hwp hsim hK
 |_=>exact Jc hop hd hdn hsim hK (by simpa only[bn] using hwp)
theorem xy{j t:Nat}{bC:Array Oper}{a:Act}{w:World}{b b':Bool}(hs:cj c A a w)(hg:o.guard=some (j,b))(ht:(bC[j]?).bind (·.dst)=some t)(hv:A.t t=.bool b'):Region.wanted o (yielded bC a.tmps)=(b'==b):=by
 obtain ⟨D,E,hs⟩:=hs
 have h:=hs.dY t
 rw[hv] at h
 have h:=lZ h
 have hy:yielded bC a.tmps j=some b':=by
  unfold yielded
  rw[ht]
  simp only[Option.bind_some]
  simp only[Array.getD_eq_getD_getElem?] at h
  cases hh:a.tmps[t]? with
  |none=>simp[hh,undef] at h
  |some v=>simp only[hh,Option.getD_some] at h;subst h;rfl
 unfold Region.wanted
 rw[hg]
 simp only[hy]
 cases b <;>cases b' <;>rfl
theorem xz{j t:Nat}{bC:Array Oper}{a:Act}{w:World}{b:Bool}(hs:cj c A a w)(hg:o.guard=some (j,b))(ht:(bC[j]?).bind (·.dst)=some t)(hv:A.t t=.undef):Region.wanted o (yielded bC a.tmps)=false:=by
 obtain ⟨D,E,hs⟩:=hs
 have h:=hs.dY t
 rw[hv] at h
 simp only[aW] at h
 have hy:yielded bC a.tmps j=none:=by
  unfold yielded
  rw[ht]
  simp only[Option.bind_some]
  simp only[Array.getD_eq_getD_getElem?] at h
  cases hh:a.tmps[t]? with
  |none=>rfl
  |some v=>simp only[hh,Option.getD_some] at h;subst h;rfl
 unfold Region.wanted
 rw[hg]
 simp only[hy]
 rfl
theorem cj.p7{a:Act}{w:World}(h:cj c A a w){d:Option Nat}(hd:∀ k,d=some k→k<c.n):cj c (A.aO d .undef) (a.put d undef) w:=by
 obtain ⟨D,E,h⟩:=h
 exact ⟨D,E,h.aO hd (by simp[aW])⟩
theorem s8{dr:Bool}{K:ae→Prop}{bC:Array Oper}{Q:Exit→Act→World→Prop}(hQ:∀ B a w,K B→cj c B a w→Q .normal a w):∀ (l:List Oper) (gs:List aB) (A:ae) (a:Act) (w:World),j9 c.P c.n bC l=some gs→bj c.P c.Y dr K (ay gs A) →
  cj c A a w→wpListIn c.bh 9 c.P bC Q l a w
 | [],gs,A,a,w,hc,hwp,hs=>by
  simp only[j9,Option.some.injEq] at hc
  subst hc
  simp only[ay] at hwp
  cases hwp with
  |done hk=>exact hQ A a w hk hs
 |o::l,gs,A,a,w,hc,hwp,hs=>by
  simp only[j9] at hc
  split at hc
  case h_2=>cases hc
  rename_i g gs' hg hgs
  simp only[Option.some.injEq] at hc
  subst hc
  obtain ⟨h1,h2,h3,h4⟩:=vl hg
  have step:bj c.P c.Y dr K (bn A g.dst g.op gs' (ay gs'))→o.wpIn c.bh 9 c.P a w (wpListIn c.bh 9 c.P bC Q l) Q:=fun h =>
   xm h1 h2.symm (by rw[h2];exact h3) h hs (fun B a' w' hw hs'=>s8 hQ l gs' B a' w' hgs hw hs')
  simp only[wpListIn]
  simp only[ay] at hwp
  rcases h4 with ⟨h5,h6⟩ | ⟨j,b,t,h5,h6,h7⟩
  ·rw[h6] at hwp
   have hw:Region.wanted o (yielded bC a.tmps)=true:=by simp[Region.wanted,h5]
   rw[hw,if_pos rfl]
   exact step hwp
  ·rw[h7] at hwp
   simp only at hwp
   split at hwp
   ·rename_i b' hb'
    rw[xy hs h5 h6 hb']
    split at hwp
    ·rename_i hbb
     subst hbb
     simp only[BEq.rfl,if_true]
     exact step hwp
    ·rename_i hbb
     have:(b'==b)=false:=by simpa using hbb
     rw[this]
     simp only[Bool.false_eq_true,if_false]
     exact ⟨fun f _=>oi c f,s8 hQ l gs' _ _ w hgs hwp (by rw[h2];exact hs.p7 h3)⟩
   ·rename_i hb'
    rw[xz hs h5 h6 hb']
    simp only[Bool.false_eq_true,if_false]
    exact ⟨fun f _=>oi c f,s8 hQ l gs' _ _ w hgs hwp (by rw[h2];exact hs.p7 h3)⟩
   ·cases hwp
end
def aK.sl:aK→List Nat
 | .t n=>[n]
 | .c _=>[]
def tL:Option aK→List Nat
 |some x=>x.sl
 |none=>[]
def jY(l:List aK):List Nat:=l.flatMap aK.sl
def b6.c7:b6→List Nat
 | .mv x=>x.sl
 | .pick c a b=>c.sl++(a.sl++b.sl)
 | .bin _ x y=>x.sl++y.sl
 | .eqv _ _ x y=>x.sl++y.sl
 | .nilS _ x=>x.sl
 | .conv _ x=>x.sl
 | .un _ x=>x.sl
 | .ld _ x=>x.sl
 | .fa _ _ x=>x.sl
 | .fl _ _ _ x=>x.sl
 | .ia _ _ x i=>x.sl++i.sl
 | .is _ x i=>x.sl++i.sl
 | .ix _ _ _ x i=>x.sl++i.sl
 | .len x=>x.sl
 | .lenT x=>x.sl
 | .va _ _ x=>x.sl
 | .sl _ x lo hi mx=>x.sl++(tL lo++(tL hi++tL mx))
 | .bld _ ps=>jY (ps.map (·.2))
 | .bs _ ps=>jY ps
 | .ext x _=>x.sl
 | .mk _ caps=>jY caps
 | .alloc _=>[]
 | .box x=>x.sl
 | .bl _ x v=>x.sl++v.sl
 | .cS _ _ _ _ s x=>s.sl++x.sl
 | .me _ _ _ _ s x=>s.sl++x.sl
 | .cap x=>x.sl
 | .bs0 _=>[]
 | .js _ _ x=>x.sl
 | .lA _ x y=>x.sl++y.sl
 | .call _ args=>jY args
 | .eH x args=>x.sl++jY args
 | .kv _ args=>jY args
 | .nilC x=>x.sl
 | .ptrE _ x y=>x.sl++y.sl
 | .jQ _ _ _ n=>n.sl
 | .jP=>[]
 | .lk _ _ _ m k=>m.sl++k.sl
 | .gK _ m k v=>m.sl++(k.sl++v.sl)
 | .kq x=>x.sl
 | .jx x=>x.sl
 | .ent x=>x.sl
def aB.c7(g:aB):List Nat:=g.op.c7++(match g.guard with | some (t,_)=>[t] | none=>[])
def b6.gF:b6→Nat
 | .mv _ | .pick .. | .bin .. | .eqv .. | .nilS .. | .conv .. | .un .. | .fl .. | .ix .. | .lenT _ | .bld .. | .ext .. | .mk .. | .nilC _ | .ptrE .. =>0
 | .ld .. | .fa .. | .ia .. | .is .. | .len _ | .va .. | .bs .. | .sl .. | .cap _ | .bs0 _ | .lk .. | .ent _=>1
 | .call .. | .eH .. =>2
 | .alloc _ | .box _=>3
 | .bl .. =>4
 | .cS .. | .me .. | .js .. | .lA .. | .kv .. | .jQ .. | .jP | .gK .. | .kq _ | .jx _=>5
def vy(a b:Nat):Bool:=(decide (a≤2)&&decide (b≤3))||(a==0&&b==4)
def nA(g h:aB):Bool:=vy g.op.gF h.op.gF&&(match g.dst with
  |some d => !h.c7.contains d&&h.dst != some d
  |none=>true)&&(match h.dst with
  |some d => !g.c7.contains d
  |none=>true)
def dZ(A A':ae)(l:List Nat):Prop:=∀ k∈l,A'.t k=A.t k
section
variable {A A':ae}
theorem dg{x:aK}(h:dZ A A' x.sl):ab A' x=ab A x:=by
 cases x with
 |t n=>exact h n (by simp[aK.sl])
 |c x=>rfl
theorem dZ.l{l m:List Nat}(h:dZ A A' (l++m)):dZ A A' l:=fun k hk=>h k (List.mem_append_left _ hk)
theorem dZ.r{l m:List Nat}(h:dZ A A' (l++m)):dZ A A' m:=fun k hk=>h k (List.mem_append_right _ hk)
theorem mn:∀ {l:List aK},dZ A A' (jY l)→l.map (ab A')=l.map (ab A)
 | [],_=>rfl
 |x::l,h=>by
  simp only[jY,List.flatMap_cons] at h
  simp only[List.map_cons,dg h.l,mn (l:=l) h.r]
theorem pA{x:Option aK}(h:dZ A A' (tL x)):x.map (ab A')=x.map (ab A):=by
 cases x with
 |none=>rfl
 |some x=>simp only[Option.map_some,dg (x:=x) h]
theorem Dc:∀ {l:List (Nat×aK)},dZ A A' (jY (l.map (·.2)))→(l.map fun p=>(p.1,ab A' p.2))=l.map fun p=>(p.1,ab A p.2)
 | [],_=>rfl
 |x::l,h=>by
  simp only[jY,List.map_cons,List.flatMap_cons] at h
  simp only[List.map_cons,dg h.l,Dc (l:=l) h.r]
theorem qU{f g:I→Option I}(h:∀ x v,f x=some v→g x=some v):∀ {xs vs:List I},fH f xs=some vs→fH g xs=some vs
 | [],vs,hx=>by simpa only[fH] using hx
 |x::xs,vs,hx=>by
  simp only[fH] at hx ⊢
  cases h1:f x with
  |none=>rw[h1] at hx;cases hx
  |some y=>cases h2:fH f xs with
   |none=>rw[h1,h2] at hx;cases hx
   |some ys=>rw[h1,h2] at hx;rw[h x y h1,qU h h2];exact hx
theorem vV(hu:ee A A'):∀ (k:Nat) (x v:I),dv A k x=some v→dv A' k x=some v
 |0,_,_,h=>by simp[dv] at h
 |k+1,x,v,h=>by
  have ih:=vV hu k
  simp only[dv] at h ⊢
  split at h
  ·rename_i hc;rw[if_pos hc];exact h
  ·rename_i hc
   rw[if_neg hc]
   cases x <;>simp only[] at h ⊢ <;>try (cases h;done)
   case agg fs =>
    simp only[Option.map_eq_some_iff] at h ⊢
    obtain ⟨a,h1,h2⟩:=h
    exact ⟨a,qU ih h1,h2⟩
   case func f fs =>
    simp only[Option.map_eq_some_iff] at h ⊢
    obtain ⟨a,h1,h2⟩:=h
    exact ⟨a,qU ih h1,h2⟩
   case ptr n p =>
    cases hd:cv A (.ptr n p) with
    |none=>rw[hd] at h;cases h
    |some y =>
     rw[hd] at h;rw[jK hu hd]
     simp only[Option.map_eq_some_iff] at h ⊢
     obtain ⟨a,h1,h2⟩:=h
     exact ⟨a,ih _ _ h1,h2⟩
   case view n p sz lo l =>
    cases hd:cv A (.ptr n p) with
    |none=>rw[hd] at h;cases h
    |some y=>rw[hd] at h;rw[jK hu hd];exact h
   case mref n =>
    cases ho:A.o n with
    |none=>rw[ho] at h;cases h
    |some y =>
     rw[ho] at h;rw[hu n y ho]
     cases y <;>try (cases h;done)
     simp only at h ⊢
     split at h
     ·rename_i hk
      rw[if_pos hk]
      simp only[Option.map_eq_some_iff] at h ⊢
      obtain ⟨a,h1,h2⟩:=h
      exact ⟨a,qU ih h1,h2⟩
     ·cases h
   case own n l =>
    cases ho:A.o n with
    |none=>rw[ho] at h;cases h
    |some y=>rw[ho] at h;rw[hu n y ho];exact h
mutual
theorem Dr(hu:ee A A'){aC:Bool} : ∀ {x v:I},bd aC A x=some v→bd aC A' x=some v
 | .ptr n p,v,h=>by
  simp only[bd] at h ⊢
  cases aC <;>simp only[Bool.false_eq_true,if_false,if_true] at h ⊢
  ·exact h
  ·cases hd:cv A (.ptr n p) with
   |none=>rw[hd] at h;cases h
   |some y =>
    rw[hd] at h;rw[jK hu hd]
    simp only at h ⊢
    split at h
    ·rename_i hc;rw[if_pos hc];exact h
    ·rename_i hc
     rw[if_neg hc]
     simp only[Option.map_eq_some_iff] at h ⊢
     obtain ⟨a,h1,h2⟩:=h
     exact ⟨a,vV hu 9 _ _ h1,h2⟩
 | .mref n,v,h=>by
  simp only[bd] at h ⊢
  cases aC <;>simp only[Bool.false_eq_true,if_false,if_true] at h ⊢
  ·exact h
  ·cases ho:A.o n with
   |none=>rw[ho] at h;cases h
   |some y =>
    rw[ho] at h;rw[hu n y ho]
    cases y <;>try (cases h;done)
    simp only at h ⊢
    split at h
    ·rename_i hk
     rw[if_pos hk]
     simp only[Option.map_eq_some_iff] at h ⊢
     obtain ⟨a,h1,h2⟩:=h
     exact ⟨a,qU (vV hu 9) h1,h2⟩
    ·cases h
 | .dx _,_,h=>by simp[bd] at h
 | .cT _ _,_,h=>by simpa only[bd] using h
 | .own n k,v,h=>by
  simp only[bd] at h ⊢
  cases ho:A.o n with
  |none=>rw[ho] at h;cases h
  |some y=>rw[ho] at h;rw[hu n y ho];exact h
 | .view n p sz lo k,v,h=>by
  simp only[bd] at h ⊢
  cases aC <;>simp only[Bool.false_eq_true,if_false,if_true] at h ⊢
  ·exact h
  ·cases hd:cv A (.ptr n p) with
   |none=>rw[hd] at h;cases h
   |some y=>rw[hd] at h;rw[jK hu hd];exact h
 | .func f caps,v,h=>by
  simp only[bd,Option.map_eq_some_iff] at h ⊢
  obtain ⟨a,h1,h2⟩:=h
  exact ⟨a,lI hu h1,h2⟩
 | .agg fs,v,h=>by
  simp only[bd,Option.map_eq_some_iff] at h ⊢
  obtain ⟨a,h1,h2⟩:=h
  exact ⟨a,lI hu h1,h2⟩
 | .nils _,_,h | .c0 _,_,h | .tuple _,_,h | .undef,_,h | .c9,_,h | .bool _,_,h | .int _ _,_,h | .cX _,_,h | .nilp,_,h | .dj,_,h | .dR,_,h | .raw _,_,h | .slice _ _,_,h | .ref _,_,h | .iface _ _,_,h=>by simpa only[bd] using h
theorem lI(hu:ee A A'){aC:Bool} : ∀ {xs vs:List I},bZ aC A xs=some vs→bZ aC A' xs=some vs
 | [],vs,h=>by simpa only[bZ] using h
 |x::xs,vs,h=>by
  simp only[bZ] at h ⊢
  cases h1:bd aC A x with
  |none=>rw[h1] at h;cases h
  |some y=>cases h2:bZ aC A xs with
   |none=>rw[h1,h2] at h;cases h
   |some ys=>rw[h1,h2] at h;rw[Dr hu h1,lI hu h2];exact h
end
theorem yu{op:b6}(hc:op.gF=0)(h:dZ A A' op.c7):bB A' op=bB A op:=by
 cases op <;>simp only[b6.gF] at hc <;>try (cases hc;done)
 all_goals simp only[b6.c7] at h
 case mv x=>simp only[bB,dg h]
 case pick c a b=>simp only[bB,dg h.l,dg h.r.l,dg h.r.r]
 case bin _ x y=>simp only[bB,dg h.l,dg h.r]
 case eqv _ _ x y=>simp only[bB,dg h.l,dg h.r]
 case nilS x=>simp only[bB,dg h]
 case conv x=>simp only[bB,dg h]
 case un x=>simp only[bB,dg h]
 case fl x=>simp only[bB,dg h]
 case ix x i=>simp only[bB,dg h.l,dg h.r]
 case lenT x=>simp only[bB,dg h]
 case bld zs ps=>simp only[bB,Dc h]
 case ext x i=>simp only[bB,dg h]
 case mk f caps=>simp only[bB,mn h]
 case nilC x=>simp only[bB,dg h]
 case ptrE neg x y=>simp only[bB,dg h.l,dg h.r]
theorem aiM(hu:ee A A'){m:I}{q:List I×List I}(h:gw A m=some q):gw A' m=some q:=by
 cases m with
 |mref n =>
  simp only[gw] at h ⊢
  cases hd:A.o n with
  |none=>simp only[hd] at h;cases h
  |some y=>simp only[hd] at h;simp only[hu n y hd];exact h
 |raw v=>cases v <;>first | (cases h;done) | (rename_i m;cases m <;>first | exact h | cases h)
 |cT ks vs=>exact h
 |_=>simp only[gw] at h;cases h
theorem KG{op:b6}(hu:ee A A')(h:dZ A A' op.c7){v:I}(hv:bB A op=some v):bB A' op=some v:=by
 by_cases hc:op.gF=0
 ·rw[yu hc h];exact hv
 cases op <;>try (exact absurd rfl hc)
 all_goals simp only[b6.c7] at h
 case ld s x =>
  simp only[bB,dg h] at hv ⊢
  cases hd:cv A (ab A x) with
  |none=>rw[hd] at hv;cases hv
  |some y=>rw[hd] at hv;rw[jK hu hd];exact hv
 case fa f off x =>
  simp only[bB,dg h] at hv ⊢
  generalize ab A x=z at *
  cases z <;>try (first | exact hv | (rename_i y;cases y <;>exact hv))
  rename_i n p
  cases hd:cv A (.ptr n p) with
  |none=>simp only[hd] at hv;cases hv
  |some y=>simp only[hd] at hv;simp only[jK hu hd];exact hv
 case ia n esz x i =>
  simp only[bB,dg h.l,dg h.r] at hv ⊢
  generalize ab A x=z at *
  cases z <;>try (first | exact hv | (rename_i y;cases y <;>exact hv))
  rename_i n p
  cases hd:cv A (.ptr n p) with
  |none=>simp only[hd] at hv;(repeat' split at hv) <;>cases hv
  |some y=>simp only[hd] at hv;simp only[jK hu hd];exact hv
 case is esz x i =>
  simp only[bB,dg h.l,dg h.r] at hv ⊢
  generalize ab A i=q at *
  cases q <;>try (exact hv)
  simp only at hv ⊢
  generalize ab A x=z at *
  cases z <;>try (first | exact hv | (rename_i y;cases y <;>exact hv))
  ·rename_i n p
   cases hd:A.o n with
   |none=>simp only[hd] at hv;cases hv
   |some y=>simp only[hd] at hv;simp only[hu n y hd];exact hv
  ·rename_i n p sz lo k
   simp only at hv ⊢
   cases hd:cv A (.ptr n p) with
   |none=>simp only[hd] at hv;cases hv
   |some y=>simp only[hd] at hv;simp only[jK hu hd];exact hv
 case len x =>
  simp only[bB,dg h] at hv ⊢
  generalize ab A x=z at *
  cases z <;>try (first | exact hv | (rename_i y;cases y <;>exact hv))
  rename_i n p
  cases hd:A.o n with
  |none=>simp only[hd] at hv;cases hv
  |some y=>simp only[hd] at hv;simp only[hu n y hd];exact hv
 case cap x =>
  simp only[bB,dg h] at hv ⊢
  generalize ab A x=z at *
  cases z <;>try (first | exact hv | (rename_i y;cases y <;>exact hv))
  rename_i n p sz lo k
  simp only at hv ⊢
  cases hd:cv A (.ptr n p) with
  |none=>simp only[hd] at hv;cases hv
  |some y=>simp only[hd] at hv;simp only[jK hu hd];exact hv
 case bs0 esz=>exact hv
 case sl esz x lo hi mx =>
  simp only[bB,dg h.l,pA h.r.l,pA h.r.r.l,pA h.r.r.r] at hv ⊢
  generalize ab A x=z at *
  cases z <;>try (first | exact hv | (rename_i y;cases y <;>exact hv))
  rename_i n p sz l0 k
  simp only at hv ⊢
  cases hd:cv A (.ptr n p) with
  |none=>simp only[hd] at hv;cases hv
  |some y=>simp only[hd] at hv;simp only[jK hu hd];exact hv
 case va n esz x =>
  simp only[bB,dg h] at hv ⊢
  generalize ab A x=z at *
  cases z <;>try (first | exact hv | (rename_i y;cases y <;>exact hv))
  rename_i n p
  cases hd:cv A (.ptr n p) with
  |none=>simp only[hd] at hv;cases hv
  |some y=>simp only[hd] at hv;simp only[jK hu hd];exact hv
 case lk ty z ok m k =>
  simp only[bB,dg h.l,dg h.r] at hv ⊢
  cases hd:gw A (ab A m) with
  |none=>rw[hd] at hv;cases hv
  |some y=>rw[hd] at hv;rw[aiM hu hd];exact hv
 case ent x =>
  simp only[bB,dg h] at hv ⊢
  generalize ab A x=z at *
  cases z <;>try (exact hv)
  rename_i n
  simp only at hv ⊢
  cases hd:A.o n with
  |none=>simp only[hd] at hv;cases hv
  |some y=>simp only[hd] at hv;simp only[hu n y hd];exact hv
 case bs esz ps =>
  simp only[bB,mn h] at hv ⊢
  cases hd:bZ false A (ps.map (ab A)) with
  |none=>rw[hd] at hv;cases hv
  |some y=>rw[hd] at hv;rw[lI hu hd];exact hv
 all_goals (simp only[bB] at hv;cases hv)
end
def pass(A:ae)(g:aB):Prop:=match g.guard with | none=>True | some (t,b)=>A.t t=.bool b
def gz(A:ae)(g:aB):Prop:=match g.guard with | none=>False | some (t,b)=>A.t t=.bool (!b)∨A.t t=.undef
inductive jD (P:Program) (A:ae):b6→I→Prop where
 |pure {op:b6} {v:I} : bB A op=some v→jD P A op v
 |flat {f:FuncId} {args:List aK} {cargs:List I} {r:I} : bZ true A (args.map (ab A))=some cargs→aw P f cargs r→r.flat=true→jD P A (.call f args) r
 |lead {f:FuncId} {args:List aK} {cargs:List I} {r:I} : bZ false A (args.map (ab A))=some cargs→aw P f cargs r→jD P A (.call f args) r
 |uB {x:aK} {f:FuncId} {caps:List I} {args:List aK} {cargs:List I} {r:I} : ab A x=.func f caps→bZ true A (args.map (ab A)++caps)=some cargs→aw P f cargs r→r.flat=true→jD P A (.eH x args) r
 |uC {x:aK} {f:FuncId} {caps:List I} {args:List aK} {cargs:List I} {r:I} : ab A x=.func f caps→bZ false A (args.map (ab A)++caps)=some cargs→aw P f cargs r→jD P A (.eH x args) r
def r2(A:ae)(op:b6)(x:I):Prop:=op=.alloc x∨∃ y,op=.box y∧(ab A y).cq=true∧x=ab A y
def r3(A:ae)(op:b6)(n:Nat)(z:ah):Prop:=∃ s x v p b old,op=.bl s x v∧ab A x=.ptr n p∧A.o n=some (.box b)∧b.at p=some old∧yd s (ab A v) old∧z=.box (b.dF p (ab A v))
def Pv(A:ae)(dst:Option Nat)(op:b6)(B:ae):Prop:=op.gF=5∧∀ (rest:List aB) (k:ae→cL),bn A dst op rest k=k B
theorem al7{A:ae}{neg:Bool}{x:aK}{v:I}(h:bB A (.nilS neg x)=some v):j4 (ab A x)=false:=by
 simp only[bB] at h
 generalize ab A x=q at *
 cases q <;>simp only[j4] <;>simp only at h <;>try (cases h;done)
 rename_i sz es
 cases es with
 |nil=>simp at h
 |cons=>rfl
inductive fm (P:Program) (g:aB) (A:ae):ae→Prop where
 |skip:gz A g→fm P g A (A.aO g.dst .undef)
 |val {v:I} : pass A g→jD P A g.op v→fm P g A (A.aO g.dst v)
 |jw {d:Nat} {x:I} : pass A g→g.dst=some d→r2 A g.op x→A.o d=none→fm P g A ((A.aM d (.box x)).put d (.ptr d []))
 |bl {n:Nat} {z:ah} : pass A g→g.dst=none→r3 A g.op n z→fm P g A (A.aM n z)
 |iy {B:ae} : pass A g→Pv A g.dst g.op B→fm P g A B
theorem vf{b' b:Bool}(h:b'≠b):b' = !b:=by cases b <;>cases b' <;>simp_all
section
variable {P:Program} {Y:Value→List I→List (Nat×ah)→cV→Prop} {K:ae→Prop}
theorem fm.J7{A:ae}{g:aB}{rest:List aB}(hp:pass A g)(h:bj P Y true K (bn A g.dst g.op rest (ay rest))):∃ B,fm P g A B∧bj P Y true K (ay rest B):=by
 have pure:bj P Y true K (cP (bB A g.op) fun v=>ay rest (A.aO g.dst v))→∃ B,fm P g A B∧bj P Y true K (ay rest B):=by
  intro h
  cases hv:bB A g.op with
  |none=>rw[hv] at h;cases h
  |some v=>rw[hv] at h;exact ⟨_,.val hp (.pure hv),h⟩
 obtain ⟨dst,op,gd⟩:=g
 cases op with
 |alloc z =>
  simp only[bn] at h
  split at h
  case h_2=>cases h
  split at h
  case h_2=>cases h
  rename_i hd _ ho
  exact ⟨_,.jw hp rfl (.inl rfl) ho,h⟩
 |box x =>
  simp only[bn] at h
  split at h
  case h_2=>cases h
  split at h
  case h_2=>cases h
  rename_i hd _ ho
  split at h
  case isFalse=>cases h
  rename_i hv
  exact ⟨_,.jw hp rfl (.inr ⟨x,rfl,hv,rfl⟩) ho,h⟩
 |bl s x v =>
  simp only[bn] at h
  split at h
  case h_2=>cases h
  split at h
  case h_2=>cases h
  rename_i n p hx
  split at h
  case h_2=>cases h
  rename_i b hb
  split at h
  case h_2=>cases h
  rename_i old hat
  split at h
  case isFalse=>cases h
  rename_i hok
  exact ⟨_,.bl hp rfl ⟨s,x,v,p,b,old,rfl,hx,hb,hat,hok,rfl⟩,h⟩
 |nilS neg x =>
  simp only[bn] at h
  split at h
  ·cases h with | any hdr=>cases hdr
  ·exact pure h
 |cS e esz bytes z s x =>
  simp only[bn] at h
  split at h
  ·rename_i n l hs'
   split at h
   case h_2=>cases h
   rename_i sz ys hx'
   split at h
   case h_3=>cases h
   case h_2 =>
    rename_i T xs hn
    split at h
    case isFalse=>cases h
    rename_i hok
    exact ⟨_,.iy hp ⟨rfl,fun rest k=>by simp only[bn,hs',hx',hn,if_pos hok]⟩,h⟩
   rename_i T sz' es hn
   split at h
   case isFalse=>cases h
   rename_i hok
   exact ⟨_,.iy hp ⟨rfl,fun rest k=>by simp only[bn,hs',hx',hn,if_pos hok]⟩,h⟩
  ·rename_i hno
   have hg:∀ (rest:List aB) (k:ae→cL),bn A dst (.cS e esz bytes z s x) rest k=ff A dst esz bytes z (ab A s) (ev A esz (ab A s)) (ev A esz (ab A x)) k:=fun rest k=>by
    simp only[bn]
   simp only[ff] at h hg
   split at h
   case h_2=>cases h
   rename_i es ys hse hsx
   simp only[hse,hsx] at hg
   have grow:¬ bj P Y true K (gp A dst esz bytes z es ys (ay rest)):=fun h=>by
    simp only[gp] at h
    split at h
    case h_2=>cases h
    split at h
    case h_2=>cases h
    split at h
    case isFalse=>cases h
    cases h with | any hdr=>cases hdr
   split at h
   ·rename_i hne
    simp only[if_pos hne] at hg
    exact ⟨_,.iy hp ⟨rfl,hg⟩,h⟩
   ·rename_i hne
    simp only[if_neg hne] at hg
    split at h
    ·exact absurd h grow
    ·exact absurd h grow
    ·rename_i n p sz lo l hsv
     split at h
     case h_2=>cases h
     rename_i b hn
     split at h
     case h_2=>cases h
     rename_i fs hat
     split at h
     ·rename_i hroom
      split at h
      case isFalse=>cases h
      rename_i hok
      simp only[hsv,hn,hat,if_pos hroom,if_pos hok] at hg
      exact ⟨_,.iy hp ⟨rfl,hg⟩,h⟩
     ·exact absurd h grow
    ·cases h
 |kv f args =>
  simp only[bn] at h
  cases h with | ext r hdr=>cases hdr
 |me e esz bytes z s n =>
  exfalso
  simp only[bn] at h
  split at h
  case h_2=>cases h
  simp only[u7] at h
  split at h
  case h_2=>cases h
  split at h
  case h_2=>cases h
  split at h
  case h_2=>cases h
  split at h
  case h_2=>cases h
  split at h
  case isFalse=>cases h
  simp only[gp] at h
  split at h
  case h_2=>cases h
  split at h
  case h_2=>cases h
  split at h
  case isFalse=>cases h
  cases h with | any hdr=>cases hdr
 |jP =>
  simp only[bn] at h
  split at h
  case h_2=>cases h
  rename_i d
  split at h
  case h_2=>cases h
  rename_i hf
  exact ⟨_,.iy hp ⟨rfl,fun rest k=>by simp only[bn,hf]⟩,h⟩
 |jQ e bytes z n =>
  simp only[bn] at h
  split at h
  case h_2=>cases h
  rename_i d
  split at h
  case h_2=>cases h
  rename_i hf
  split at h
  case h_2=>cases h
  rename_i k m hn
  split at h
  case isFalse=>cases h
  rename_i hc
  exact ⟨_,.iy hp ⟨rfl,fun rest k=>by simp only[bn,hf,hn,if_pos hc]⟩,h⟩
 |gK ty m key v =>
  simp only[bn] at h
  split at h
  case h_2=>cases h
  split at h
  case h_2=>cases h
  rename_i n hm
  split at h
  case h_2=>cases h
  rename_i ks vs hn
  split at h
  case h_2=>cases h
  rename_i ks' vs' hl
  exact ⟨_,.iy hp ⟨rfl,fun rest k=>by simp only[bn,hm,hn,hl]⟩,h⟩
 |kq x =>
  simp only[bn] at h
  split at h
  case h_2=>cases h
  rename_i d
  split at h
  case h_2=>cases h
  rename_i hf
  split at h
  case h_2=>cases h
  rename_i ks vs hx
  exact ⟨_,.iy hp ⟨rfl,fun rest k=>by simp only[bn,hf,hx]⟩,h⟩
 |jx x =>
  simp only[bn] at h
  split at h
  case h_2=>cases h
  rename_i n hx
  split at h
  case h_2=>cases h
  rename_i ks vs left cur hn
  split at h
  ·rename_i hl
   exact ⟨_,.iy hp ⟨rfl,fun rest k=>by simp only[bn,hx,hn,if_pos hl]⟩,h⟩
  ·cases h with | any hdr=>cases hdr
 |js esz z x =>
  simp only[bn] at h
  split at h
  case h_2=>cases h
  have hg:∀ (rest:List aB) (k:ae→cL),bn A none (.js esz z x) rest k=nd A esz z k (ab A x):=fun rest k=>rfl
  simp only[nd] at h hg
  split at h
  ·rename_i n p sz lo l hv
   split at h
   case h_2=>cases h
   rename_i b hn
   split at h
   case h_2=>cases h
   rename_i fs hat
   split at h
   case isFalse=>cases h
   rename_i hok
   simp only[hv,hn,hat,if_pos hok] at hg
   exact ⟨_,.iy hp ⟨rfl,hg⟩,h⟩
  ·rename_i z0 hv
   simp only[hv] at hg
   exact ⟨_,.iy hp ⟨rfl,hg⟩,h⟩
  ·rename_i z0 hv
   simp only[hv] at hg
   exact ⟨_,.iy hp ⟨rfl,hg⟩,h⟩
  ·cases h
 |lA esz x y =>
  have hg:∀ (rest:List aB) (k:ae→cL),bn A dst (.lA esz x y) rest k=su A dst esz k (ab A x) (ev A esz (ab A y)):=fun rest k=>rfl
  simp only[bn] at h
  simp only[su] at h hg
  split at h
  ·rename_i n p sz lo l ys hv hsx
   split at h
   case h_2=>cases h
   rename_i b hn
   split at h
   case h_2=>cases h
   rename_i fs hat
   split at h
   case isFalse=>cases h
   rename_i hok
   simp only[hv,hsx,hn,hat,if_pos hok] at hg
   exact ⟨_,.iy hp ⟨rfl,hg⟩,h⟩
  ·cases h
 |call f args =>
  simp only[bn] at h
  generalize h1:bZ true A (args.map (ab A))=a1 at h
  generalize h2:bZ false A (args.map (ab A))=a2 at h
  cases h with
  |flat r hc hf hw=>exact ⟨_,.val hp (.flat h1 hc hf),hw⟩
  |lead r hc hw=>exact ⟨_,.val hp (.lead h2 hc),hw⟩
  |gU ns r hdr=>cases hdr
  |bX aC ρ os cargs post hdr=>cases hdr
 |eH x args =>
  simp only[bn] at h
  split at h
  case h_3=>cases h
  case h_2=>cases h with | zj os cargs post hdr=>cases hdr
  rename_i f caps hx
  generalize h1:bZ true A (args.map (ab A)++caps)=a1 at h
  generalize h2:bZ false A (args.map (ab A)++caps)=a2 at h
  cases h with
  |flat r hc hf hw=>exact ⟨_,.val hp (.uB hx h1 hc hf),hw⟩
  |lead r hc hw=>exact ⟨_,.val hp (.uC hx h2 hc),hw⟩
  |gU ns r hdr=>cases hdr
  |bX aC ρ os cargs post hdr=>cases hdr
 |_=>exact pure (by simpa only[bn] using h)
theorem fm.x8{A:ae}{g:aB}{rest:List aB}(h:bj P Y true K (ay (g::rest) A)):∃ B,fm P g A B∧bj P Y true K (ay rest B):=by
 simp only[ay] at h
 split at h
 ·rename_i hg
  exact fm.J7 (by simp only[pass,hg]) h
 ·rename_i t b hg
  split at h
  ·rename_i b' hb
   split at h
   ·rename_i hbb
    subst hbb
    exact fm.J7 (by simp only[pass,hg];exact hb) h
   ·rename_i hbb
    refine ⟨_,.skip (by simp only[gz,hg];exact .inl (by rw[hb,vf hbb])),h⟩
  ·rename_i hb
   exact ⟨_,.skip (by simp only[gz,hg];exact .inr hb),h⟩
  ·cases h
theorem n9{A:ae}{g:aB}{rest:List aB}(hp:pass A g):ay (g::rest) A=bn A g.dst g.op rest (ay rest):=by
 simp only[ay]
 cases hg:g.guard with
 |none=>rfl
 |some tb =>
  obtain ⟨t,b⟩:=tb
  simp only[pass,hg] at hp
  simp only[hp,if_true]
theorem fm.zh{A B:ae}{g:aB}{rest:List aB}(h:fm P g A B)(hw:bj P Y true K (ay rest B)):bj P Y true K (ay (g::rest) A):=by
 cases h with
 |skip hn =>
  simp only[ay]
  cases hg:g.guard with
  |none=>simp only[gz,hg] at hn
  |some tb =>
   obtain ⟨t,b⟩:=tb
   simp only[gz,hg] at hn
   rcases hn with hn | hn
   ·simp only[hn];rw[if_neg (by cases b <;>simp)];exact hw
   ·simp only[hn];exact hw
 |val hp hv =>
  rw[n9 hp]
  obtain ⟨dst,op,gd⟩:=g
  cases hv with
  |pure hv =>
   have hv':bB A op=some _:=hv
   cases op <;>try (simp only[bn,hv',cP] <;>first | exact hw | (simp only[bB] at hv';cases hv');done)
   all_goals first
    |(simp only[bB] at hv';cases hv';done)
    |(simp only[bn,al7 hv',Bool.false_eq_true,if_false,hv',cP];exact hw)
  |flat h1 h2 h3=>simp only[bn,h1];exact .flat _ h2 h3 hw
  |lead h1 h2=>simp only[bn,h1];exact .lead _ h2 hw
  |uB h0 h1 h2 h3=>simp only[bn,h0,h1];exact .flat _ h2 h3 hw
  |uC h0 h1 h2=>simp only[bn,h0,h1];exact .lead _ h2 hw
 |jw hp hd hm ho =>
  rw[n9 hp]
  obtain ⟨dst,op,gd⟩:=g
  simp only at hd
  subst hd
  rcases hm with hm | ⟨y,hm,hv,rfl⟩ <;>simp only at hm <;>subst hm
  ·simp only[bn,ho];exact hw
  ·simp only[bn,ho,hv,if_true];exact hw
 |bl hp hd hm =>
  rw[n9 hp]
  obtain ⟨dst,op,gd⟩:=g
  simp only at hd
  subst hd
  obtain ⟨s,x,v,p,b,old,h1,h2,h3,h4,h5,rfl⟩:=hm
  simp only at h1
  subst h1
  simp only[bn,h2,h3,h4,if_pos h5]
  exact hw
 |iy hp hm =>
  rw[n9 hp,hm.2]
  exact hw
theorem jD.cK{A A':ae}{op:b6}{v:I}(h:jD P A op v)(hu:ee A A')(ha:dZ A A' op.c7):jD P A' op v:=by
 cases h with
 |pure h=>exact .pure (KG hu ha h)
 |flat h1 h2 h3=>exact .flat (by rw[mn ha];exact lI hu h1) h2 h3
 |lead h1 h2=>exact .lead (by rw[mn ha];exact lI hu h1) h2
 |uB h0 h1 h2 h3=>simp only[b6.c7] at ha;exact .uB (by rw[dg ha.l];exact h0) (by rw[mn ha.r];exact lI hu h1) h2 h3
 |uC h0 h1 h2=>simp only[b6.c7] at ha;exact .uC (by rw[dg ha.l];exact h0) (by rw[mn ha.r];exact lI hu h1) h2
theorem jD.gU{A A':ae}{op:b6}{v:I}(h:jD P A op v)(hc:op.gF=0)(ha:dZ A A' op.c7):jD P A' op v:=by
 cases h with
 |pure h=>exact .pure (by rw[yu hc ha];exact h)
 |_=>simp[b6.gF] at hc
theorem nM{A A':ae}{g:aB}(ha:dZ A A' g.c7)(h:pass A g):pass A' g:=by
 unfold pass at *
 cases hg:g.guard with
 |none=>trivial
 |some tb=>simp only[hg] at h ⊢;rw[ha tb.1 (by simp[aB.c7,hg])];exact h
theorem pU{A A':ae}{g:aB}(ha:dZ A A' g.c7)(h:gz A g):gz A' g:=by
 unfold gz at *
 cases hg:g.guard with
 |none=>simp only[hg] at h
 |some tb=>simp only[hg] at h ⊢;rw[ha tb.1 (by simp[aB.c7,hg])];exact h
theorem aB.km{A A':ae}{g:aB}(ha:dZ A A' g.c7):dZ A A' g.op.c7:=fun k hk=>ha k (List.mem_append_left _ hk)
def lj(P:Program)(g:aB)(A:ae)(v:I):Prop:=(gz A g∧v=.undef)∨(pass A g∧jD P A g.op v)
theorem lj.step{A:ae}{g:aB}{v:I}(h:lj P g A v):fm P g A (A.aO g.dst v):=by
 rcases h with ⟨h,rfl⟩ | ⟨h,k⟩
 ·exact .skip h
 ·exact .val h k
theorem lj.cK{A A':ae}{g:aB}{v:I}(h:lj P g A v)(hu:ee A A')(ha:dZ A A' g.c7):lj P g A' v:=by
 rcases h with ⟨h,rfl⟩ | ⟨h,k⟩
 ·exact .inl ⟨pU ha h,rfl⟩
 ·exact .inr ⟨nM ha h,k.cK hu (aB.km ha)⟩
theorem lj.gU{A A':ae}{g:aB}{v:I}(h:lj P g A v)(hc:g.op.gF=0)(ha:dZ A A' g.c7):lj P g A' v:=by
 rcases h with ⟨h,rfl⟩ | ⟨h,k⟩
 ·exact .inl ⟨pU ha h,rfl⟩
 ·exact .inr ⟨nM ha h,k.gU hc (aB.km ha)⟩
theorem fm.zd{A B:ae}{g:aB}(h:fm P g A B)(hc:g.op.gF≤2):∃ v,lj P g A v∧B=A.aO g.dst v:=by
 cases h with
 |skip h=>exact ⟨_,.inl ⟨h,rfl⟩,rfl⟩
 |val h k=>exact ⟨_,.inr ⟨h,k⟩,rfl⟩
 |jw h1 h2 h3 h4=>rcases h3 with h3 | ⟨y,h3,_⟩ <;>(rw[h3] at hc;simp[b6.gF] at hc)
 |bl h1 h2 h3=>obtain ⟨s,x,v,p,b,old,h4,_⟩:=h3;rw[h4] at hc;simp[b6.gF] at hc
 |iy h1 h3=>rw[h3.1] at hc;omega
theorem p8{A:ae}{a b:Option Nat}{v u:I}(h:∀ d,a=some d→b≠some d):(A.aO a v).aO b u=(A.aO b u).aO a v:=by
 cases a with
 |none=>rfl
 |some d=>cases b with
  |none=>rfl
  |some e =>
   have hne:d≠e:=fun he=>h d rfl (by rw[he])
   simp only[ae.aO,ae.put,ae.mk.injEq,and_true]
   funext k
   by_cases h1:k=e <;>by_cases h2:k=d <;>simp_all
theorem iF{A:ae}{d:Option Nat}{v:I} : (A.aO d v).o=A.o:=by cases d <;>rfl
theorem mL{A:ae}{d:Option Nat}{v:I}{l:List Nat}(h:∀ k,d=some k→k∉l):dZ A (A.aO d v) l:=by
 cases d with
 |none=>exact fun _ _=>rfl
 |some e =>
  intro k hk
  have:k≠e:=fun he=>h e rfl (he▸hk)
  simp[ae.aO,ae.put,this]
theorem dZ.symm{A A':ae}{l:List Nat}(h:dZ A A' l):dZ A' A l:=fun k hk=>(h k hk).symm
theorem r2.same{A A':ae}{op:b6}{x:I}(h:r2 A op x)(ha:dZ A A' op.c7):r2 A' op x:=by
 rcases h with h | ⟨y,h1,h2,h3⟩
 ·exact .inl h
 ·subst h1
  have:=dg (x:=y) ha
  exact .inr ⟨y,rfl,by rw[this];exact h2,by rw[this];exact h3⟩
theorem r3.same{A A':ae}{op:b6}{n:Nat}{z:ah}(h:r3 A op n z)(ho:A'.o=A.o)(ha:dZ A A' op.c7):r3 A' op n z:=by
 obtain ⟨s,x,v,p,b,old,h1,h2,h3,h4,h5,h6⟩:=h
 subst h1
 simp only[b6.c7] at ha
 have e1:=dg ha.l
 have e2:=dg ha.r
 exact ⟨s,x,v,p,b,old,rfl,by rw[e1];exact h2,by rw[ho];exact h3,h4,by rw[e2];exact h5,by rw[e2];exact h6⟩
theorem ah2{g h:aB}(hi:nA g h=true):vy g.op.gF h.op.gF=true∧(∀ d,g.dst=some d→d∉h.c7)∧(∀ d,g.dst=some d→h.dst≠some d)∧(∀ d,h.dst=some d→d∉g.c7):=by
 simp only[nA,Bool.and_eq_true] at hi
 obtain ⟨⟨h1,h2⟩,h3⟩:=hi
 refine ⟨h1,fun d hd =>?_,fun d hd =>?_,fun d hd =>?_⟩
 ·rw[hd] at h2;simp at h2;exact h2.1
 ·rw[hd] at h2;simp at h2;exact h2.2
 ·rw[hd] at h3;simpa using h3
theorem fm.swap{A B C:ae}{g h:aB}(hi:nA g h=true)(h1:fm P g A B)(h2:fm P h B C):∃ B',fm P h A B'∧fm P g B' C:=by
 obtain ⟨hc,i1,i2,i3⟩:=ah2 hi
 simp only[vy,Bool.or_eq_true,Bool.and_eq_true,decide_eq_true_eq,beq_iff_eq] at hc
 have hg2:g.op.gF≤2:=by rcases hc with hc | hc <;>omega
 obtain ⟨v,hv,rfl⟩:=h1.zd hg2
 have ag:dZ (A.aO g.dst v) A h.c7:=(mL i1).symm
 have cK:ee (A.aO g.dst v) A:=fun n x hx=>by rwa [iF] at hx
 cases h2 with
 |skip hn =>
  exact ⟨_,.skip (pU ag hn),by
   rw[p8 i2];exact (hv.cK (by intro n x hx;rwa [iF]) (mL i3)).step⟩
 |val hp hu =>
  exact ⟨_,.val (nM ag hp) (hu.cK cK (aB.km ag)),by
   rw[p8 i2];exact (hv.cK (by intro n x hx;rwa [iF]) (mL i3)).step⟩
 |jw hp hd hm ho =>
  rename_i d x
  rw[iF] at ho
  refine ⟨_,.jw (nM ag hp) hd (hm.same (aB.km ag)) ho,?_⟩
  have e:((A.aO g.dst v).aM d (.box x)).put d (.ptr d [])=((A.aM d (.box x)).put d (.ptr d [])).aO g.dst v:=by
   cases hgd:g.dst with
   |none=>rfl
   |some e =>
    have hne:e≠d:=fun he=>i2 e hgd (by rw[hd,he])
    simp only[ae.aO,ae.put,ae.aM,ae.mk.injEq,and_true]
    funext k
    by_cases h1:k=e <;>by_cases h2:k=d <;>simp_all
  rw[e]
  refine (hv.cK (fun n y hy =>?_) (fun k hk =>?_)).step
  ·have:n≠d:=fun he=>by rw[he,ho] at hy;cases hy
   simp only[ae.put,ae.aM,this,if_false];exact hy
  ·have:k≠d:=fun he=>i3 d hd (he▸hk)
   simp only[ae.put,ae.aM,this,if_false]
 |bl hp hd hm =>
  rename_i n z
  have hc0:g.op.gF=0:=by
   obtain ⟨s,x,v,p,b,old,h4,_⟩:=hm
   rcases hc with hc | hc
   ·rw[h4] at hc;exact absurd hc.2 (by simp[b6.gF])
   ·exact hc.1
  refine ⟨_,.bl (nM ag hp) hd (hm.same iF.symm (aB.km ag)),?_⟩
  have e:(A.aO g.dst v).aM n z=(A.aM n z).aO g.dst v:=by cases g.dst <;>rfl
  rw[e]
  exact (lj.gU (A':=A.aM n z) hv hc0 (fun _ _=>rfl)).step
 |iy hp hm =>
  exfalso
  rw[hm.1] at hc
  omega
theorem bj.swap{A:ae}{g h:aB}{rest:List aB}(hi:nA g h=true)(hw:bj P Y true K (ay (g::h::rest) A)):bj P Y true K (ay (h::g::rest) A):=by
 obtain ⟨B,h1,h2⟩:=fm.x8 hw
 obtain ⟨C,h3,h4⟩:=fm.x8 h2
 obtain ⟨B',h5,h6⟩:=fm.swap hi h1 h3
 exact h5.zh (h6.zh h4)
theorem bj.ph{g:aB} : ∀ {l:List aB} {r:List aB} {A:ae},(∀ j∈l,nA j g=true)→bj P Y true K (ay (l++g::r) A)→bj P Y true K (ay (g::(l++r)) A)
 | [],r,A,_,h=>h
 |j::l,r,A,hi,h=>by
  obtain ⟨B,h1,h2⟩:=fm.x8 (g:=j) (rest:=l++g::r) h
  have h3:=bj.ph (l:=l) (r:=r) (fun k hk=>hi k (by simp[hk])) h2
  exact bj.swap (hi j (by simp)) (h1.zh h3)
end
def cZ(o:Oper):List Nat:=(o.after.toList.filter fun e=>Region.binds .any e).map (·.on)
def nW(cl:List Nat):List Nat→Nat
 | []=>0
 |k::ks=>(2^k ||| cl.getD k 0) ||| nW cl ks
def sw(on:List (List Nat))(gs:List aB)(cl:List Nat):Bool :=
 (List.range gs.length).all fun i=>(on.getD i []).all (fun k=>decide (k<i))&&Nat.beq (cl.getD i 0) (nW cl (on.getD i [])) &&
  (List.range i).all fun j=>(cl.getD i 0).testBit j||nA (gs.getD j default) (gs.getD i default)
theorem uA{cl:List Nat}{j:Nat} : ∀ {l:List Nat},(nW cl l).testBit j=true→j∈l∨∃ k∈l,(cl.getD k 0).testBit j=true
 | [],h=>by simp[nW] at h
 |k::ks,h=>by
  simp only[nW,Nat.testBit_or,Bool.or_eq_true,Nat.testBit_two_pow,decide_eq_true_eq] at h
  rcases h with (h | h) | h
  ·exact .inl (by simp[h])
  ·exact .inr ⟨k,by simp,h⟩
  ·rcases uA h with h | ⟨m,h1,h2⟩
   ·exact .inl (by simp[h])
   ·exact .inr ⟨m,by simp[h1],h2⟩
structure uH (l:List Oper) (gs:List aB):Prop where
 m5:∀ i o,l[i]?=some o→∀ k∈cZ o,k<i
 qL:∀ (S:Nat→Prop),(∀ i o,l[i]?=some o→S i→∀ k∈cZ o,S k)→∀ i o g j,l[i]?=some o→gs[i]?=some g→(∀ k∈cZ o,S k)→j<i→¬ S j→nA (gs.getD j default) g=true
theorem X1{l:List Oper}{gs:List aB}{cl:List Nat}(hlen:gs.length=l.length)(h:sw (l.map cZ) gs cl=true):uH l gs:=by
 simp only[sw,List.all_eq_true,List.mem_range] at h
 have da:∀ i o,l[i]?=some o→∃ g,gs[i]?=some g∧(∀ k∈cZ o,k<i)∧(∀ j,(cl.getD i 0).testBit j=true→j∈cZ o∨∃ k∈cZ o,(cl.getD k 0).testBit j=true)∧∀ j,j<i→(cl.getD i 0).testBit j=true∨nA (gs.getD j default) g=true:=by
  intro i o ho
  have hi:i<l.length:=(List.getElem?_eq_some_iff.1 ho).1
  have h1:=h i (by omega)
  have hon:(l.map cZ).getD i []=cZ o:=by simp[List.getD_eq_getElem?_getD,ho]
  have hgi:i<gs.length:=by omega
  have hg:gs[i]?=some gs[i]:=List.getElem?_eq_getElem hgi
  have hgd:gs.getD i default=gs[i]:=by simp[List.getD_eq_getElem?_getD,hg]
  rw[hon,hgd] at h1
  simp only[Bool.and_eq_true,List.all_eq_true,decide_eq_true_eq,Bool.or_eq_true,List.mem_range] at h1
  have hb:=Nat.eq_of_beq_eq_true h1.1.2
  exact ⟨_,hg,h1.1.1,fun j hj=>uA (by rw[←hb];exact hj),h1.2⟩
 refine ⟨fun i o ho=>(da i o ho).choose_spec.2.1,?_⟩
 intro S hS i o g j ho hg hon hj hnj
 have key:∀ n i o,i≤n→l[i]?=some o→(∀ k∈cZ o,S k)→∀ j,(cl.getD i 0).testBit j=true→S j:=by
  intro n
  induction n with
  |zero =>
   intro i o hi ho hon j hj
   obtain ⟨g,_,h1,h2,_⟩:=da i o ho
   rcases h2 j hj with h | ⟨k,hk,_⟩
   ·exact hon j h
   ·have:=h1 k hk;omega
  |succ n ih =>
   intro i o hi ho hon j hj
   obtain ⟨g,_,h1,h2,_⟩:=da i o ho
   rcases h2 j hj with h | ⟨k,hk,hjk⟩
   ·exact hon j h
   ·have hki:=h1 k hk
    have hkl:k<l.length:=Nat.lt_trans hki (List.getElem?_eq_some_iff.1 ho).1
    obtain ⟨ok,hok⟩:∃ ok,l[k]?=some ok:=⟨l[k],List.getElem?_eq_getElem hkl⟩
    exact ih k ok (by omega) hok (hS k ok hok (hon k hk)) j hjk
 obtain ⟨g',hg',_,_,h3⟩:=da i o ho
 rw[hg,Option.some.injEq] at hg'
 subst hg'
 rcases h3 j hj with h | h
 ·exact absurd (key i i o (Nat.le_refl _) ho hon j h) hnj
 ·exact h
def jf(listed:Array Bool)(n:Nat):List Nat:=(List.range n).filter fun i => !listed.getD i true
def oK(gs:List aB)(listed:Array Bool)(n:Nat):List aB:=(jf listed n).map fun i=>gs.getD i default
theorem MA{i n:Nat}(h:i<n):List.range n=List.range i++i::(List.range (n-(i+1))).map (i+1 + ·):=by
 conv=>lhs;rw[show n=(i+1)+(n-(i+1)) by omega,List.range_add]
 rw[List.range_succ]
 simp
theorem ak1{listed:Array Bool}{i n:Nat}(h:i<n)(hs:listed.size=n)(hu:listed.getD i true=false):∃ l1 l2,jf listed n=l1++i::l2∧jf (listed.setIfInBounds i true) n=l1++l2∧∀ j∈l1,j<i∧listed.getD j true=false:=by
 have same:∀ j,j≠i→(listed.setIfInBounds i true).getD j true=listed.getD j true:=fun j hj=>getD_set_ne true (Ne.symm hj)
 have hit:(listed.setIfInBounds i true).getD i true=true:=by simp[hs,h]
 refine ⟨(List.range i).filter fun j => !listed.getD j true,((List.range (n-(i+1))).map (i+1 + ·)).filter fun j => !listed.getD j true,?_,?_,?_⟩
 ·simp only[jf]
  rw[MA h,List.filter_append,List.filter_cons]
  simp only[hu,Bool.not_false,if_true]
 ·simp only[jf]
  rw[MA h,List.filter_append,List.filter_cons]
  simp only[hit,Bool.not_true,Bool.false_eq_true,if_false]
  congr 1
  ·refine List.filter_congr fun j hj =>?_
   rw[same j (by have:=List.mem_range.1 hj;omega)]
  ·refine List.filter_congr fun j hj =>?_
   obtain ⟨k,_,rfl⟩:=List.mem_map.1 hj
   rw[same _ (by omega)]
 ·intro j hj
  simp only[List.mem_filter,List.mem_range,Bool.not_eq_true'] at hj
  exact hj
theorem MG{n:Nat} : jf (Array.replicate n false) n=List.range n:=by
 simp only[jf]
 refine List.filter_eq_self.2 fun i hi =>?_
 have:=List.mem_range.1 hi
 simp[this]
theorem aiN(gs:List aB):((List.range gs.length).map fun i=>gs.getD i default)=gs:=by
 apply List.ext_getElem
 ·simp
 ·intro i h1 h2
  simp[List.getD_eq_getElem?_getD,h2]
section
variable {c:cM}
theorem ka{P:Program}{n:Nat}{bC:Array Oper} : ∀ {l:List Oper} {gs:List aB},j9 P n bC l=some gs→gs.length=l.length∧∀ (i:Nat) (o:Oper),l[i]?=some o→∃ g,gs[i]?=some g∧pk P n bC o=some g
 | [],gs,h=>by simp only[j9,Option.some.injEq] at h;subst h;exact ⟨rfl,fun i o ho=>by simp at ho⟩
 |o::l,gs,h=>by
  simp only[j9] at h
  split at h
  case h_2=>cases h
  rename_i g gs' hg hgs
  simp only[Option.some.injEq] at h
  subst h
  obtain ⟨h1,h2⟩:=ka (l:=l) hgs
  refine ⟨by simp[h1],fun i o' ho =>?_⟩
  cases i with
  |zero=>simp only[List.getElem?_cons_zero,Option.some.injEq] at ho;subst ho;exact ⟨g,rfl,hg⟩
  |succ i=>simpa using h2 i o' (by simpa using ho)
theorem ag6{K:ae→Prop}{bC:Array Oper}{Q:Exit→Act→World→Prop}{o:Oper}{g:aB}{rest:List aB}{A:ae}{a:Act}{w:World}{Kw:Act→World→Prop}(hg:pk c.P c.n bC o=some g)(hwp:bj c.P c.Y true K (ay (g::rest) A))(hs:cj c A a w)
  (hK:∀ B a' w',bj c.P c.Y true K (ay rest B)→cj c B a' w'→Kw a' w'):if Region.wanted o (yielded bC a.tmps) then o.wpIn c.bh 9 c.P a w Kw Q else (∀ f,o.about c.P w a.eval=some f→c.bh.fn f)∧Kw (a.put o.dst undef) w:=by
 obtain ⟨h1,h2,h3,h4⟩:=vl hg
 have step:bj c.P c.Y true K (bn A g.dst g.op rest (ay rest))→o.wpIn c.bh 9 c.P a w Kw Q:=fun h =>
  xm h1 h2.symm (by rw[h2];exact h3) h hs (fun B a' w' hw hs'=>hK B a' w' hw hs')
 simp only[ay] at hwp
 rcases h4 with ⟨h5,h6⟩ | ⟨j,b,t,h5,h6,h7⟩
 ·rw[h6] at hwp
  have hw:Region.wanted o (yielded bC a.tmps)=true:=by simp[Region.wanted,h5]
  rw[hw,if_pos rfl]
  exact step hwp
 ·rw[h7] at hwp
  simp only at hwp
  split at hwp
  ·rename_i b' hb'
   rw[xy hs h5 h6 hb']
   split at hwp
   ·rename_i hbb
    subst hbb
    simp only[BEq.rfl,if_true]
    exact step hwp
   ·rename_i hbb
    have:(b'==b)=false:=by simpa using hbb
    rw[this]
    simp only[Bool.false_eq_true,if_false]
    exact ⟨fun f _=>oi c f,hK _ _ _ hwp (by rw[h2];exact hs.p7 h3)⟩
  ·rename_i hb'
   rw[xz hs h5 h6 hb']
   simp only[Bool.false_eq_true,if_false]
   exact ⟨fun f _=>oi c f,hK _ _ _ hwp (by rw[h2];exact hs.p7 h3)⟩
  ·cases hwp
theorem PT{K:ae→Prop}{bC:Array Oper}{gs:List aB}{Q:Exit→Act→World→Prop}(hQ:∀ B a w,K B→cj c B a w→Q .normal a w)(hgs:j9 c.P c.n bC bC.toList=some gs)(hd:uH bC.toList gs) :
  ∀ (fuel:Nat) (listed:Array Bool) (A:ae) (a:Act) (w:World),listed.size=bC.size→(∀ i o,bC.toList[i]?=some o→listed.getD i false=true→∀ k∈cZ o,listed.getD k false=true)→(jf listed bC.size).length≤fuel →
   bj c.P c.Y true K (ay (oK gs listed bC.size) A)→cj c A a w→wpAnyIn c.bh 9 c.P .any bC Q fuel listed a w:=by
 obtain ⟨hlen,hat⟩:=ka hgs
 have onOf_mem:∀ (o:Oper) (e:Edge),e∈o.after→Region.binds .any e=true→e.on∈cZ o:=fun o e he hb=>by
  simp only[cZ,List.mem_map,List.mem_filter]
  exact ⟨e,⟨by simpa using he,hb⟩,rfl⟩
 have of_onOf:∀ (o:Oper) (k:Nat),k∈cZ o→∃ e∈o.after,Region.binds .any e=true∧e.on=k:=fun o k hk=>by
  simp only[cZ,List.mem_map,List.mem_filter] at hk
  obtain ⟨e,⟨h1,h2⟩,h3⟩:=hk
  exact ⟨e,by simpa using h1,h2,h3⟩
 have last:∀ (listed:Array Bool) (A:ae) (a:Act) (w:World),listed.size=bC.size→Region.ready .any bC listed=[]→bj c.P c.Y true K (ay (oK gs listed bC.size) A)→cj c A a w→Q .normal a w:=by
  intro listed A a w hsz hr hwp hs
  have hnone:jf listed bC.size=[]:=by
   have all:∀ n,∀ i,i<n→i<bC.size→listed.getD i true=true:=by
    intro n
    induction n with
    |zero=>intro i hi;omega
    |succ n ih =>
     intro i hi his
     cases hb:listed.getD i true with
     |true=>rfl
     |false =>
      exfalso
      have ho:bC[i]?=some bC[i]:=Array.getElem?_eq_getElem his
      have:i∈Region.ready .any bC listed:=mem_ready.2 ⟨hb,bC[i],ho,fun e he hbd=>by
       have hlt:=hd.m5 i bC[i] (by simp) e.on (onOf_mem _ e he hbd)
       have h1:=ih e.on (by omega) (by omega)
       have h2:e.on<listed.size:=by omega
       simpa[Array.getD_eq_getD_getElem?,h2] using h1⟩
      rw[hr] at this
      cases this
   simp only[jf]
   refine List.filter_eq_nil_iff.2 fun i hi =>?_
   have:=all (i+1) i (by omega) (List.mem_range.1 hi)
   simp only[this,Bool.not_true,Bool.false_eq_true,not_false_eq_true]
  simp only[oK,hnone,List.map_nil,ay] at hwp
  cases hwp with
  |done hk=>exact hQ A a w hk hs
 intro fuel
 induction fuel with
 |zero =>
  intro listed A a w hsz hcl hcnt hwp hs
  have hnone:jf listed bC.size=[]:=List.length_eq_zero_iff.1 (by omega)
  have hr:Region.ready .any bC listed=[]:=by
   refine List.eq_nil_iff_forall_not_mem.2 fun i hi =>?_
   obtain ⟨h1,o,ho,_⟩:=mem_ready.1 hi
   have:i∈jf listed bC.size:=by
    simp only[jf,List.mem_filter,List.mem_range,h1,Bool.not_false,and_true]
    exact (Array.getElem?_eq_some_iff.1 ho).1
   rw[hnone] at this
   cases this
  exact ⟨hr,last listed A a w hsz hr hwp hs⟩
 |succ fuel ih =>
  intro listed A a w hsz hcl hcnt hwp hs
  refine ⟨fun hr=>last listed A a w hsz hr hwp hs,fun i hi =>?_⟩
  obtain ⟨hun,o,ho,hall⟩:=mem_ready.1 hi
  have hin:i<bC.size:=(Array.getElem?_eq_some_iff.1 ho).1
  obtain ⟨l1,l2,e1,e2,hl1⟩:=ak1 hin hsz hun
  have hol:bC.toList[i]?=some o:=by simpa using ho
  obtain ⟨g,hgi,hcg⟩:=hat i o hol
  have hon:∀ k∈cZ o,listed.getD k false=true:=fun k hk=>by
   obtain ⟨e,h1,h2,h3⟩:=of_onOf o k hk
   exact h3▸hall e h1 h2
  have hgd:gs.getD i default=g:=by simp[List.getD_eq_getElem?_getD,hgi]
  have hwp':bj c.P c.Y true K (ay (g::oK gs (listed.setIfInBounds i true) bC.size) A):=by
   simp only[oK,e1,List.map_append,List.map_cons,hgd] at hwp
   simp only[oK,e2,List.map_append]
   refine bj.ph (fun j hj =>?_) hwp
   obtain ⟨k,hk,rfl⟩:=List.mem_map.1 hj
   obtain ⟨hk1,hk2⟩:=hl1 k hk
   refine hd.qL (fun k=>listed.getD k false=true) hcl i o g k hol hgi hon hk1 ?_
   have hks:k<listed.size:=by omega
   simp[Array.getD_eq_getD_getElem?,hks] at hk2 ⊢
   exact hk2
  unfold wpOpIn
  rw[ho]
  refine ag6 hcg hwp' hs fun B a' w' hw hs'=>ih _ B a' w' (by simpa using hsz) ?_ ?_ hw hs'
  ·intro m om hom hm k hk
   by_cases hmi:m=i
   ·subst hmi
    rw[hol,Option.some.injEq] at hom
    subst hom
    exact getD_set_true (hon k hk)
   ·rw[getD_set_ne false (Ne.symm hmi)] at hm
    exact getD_set_true (hcl m om hom hm k hk)
  ·have:(jf listed bC.size).length=(jf (listed.setIfInBounds i true) bC.size).length+1:=by
    rw[e1,e2];simp;omega
   omega
theorem ak0{K:ae→Prop}{bC:Array Oper}{gs:List aB}{Q:Exit→Act→World→Prop}{id:Nat}{A:ae}{a:Act}{w:World}(hm:c.P.follows .mixedOrders=true)(hQ:∀ B a w,K B→cj c B a w→Q .normal a w)(hgs:j9 c.P c.n bC bC.toList=some gs)(hd:uH bC.toList gs)
  (hwp:bj c.P c.Y true K (ay gs A)) (hs:cj c A a w):(Code.region id bC true).wpIn c.bh 9 c.P Q a w:=by
 refine wpIn_region_any hm (PT hQ hgs hd bC.size (Array.replicate bC.size false) A a _ (by simp) ?_ ?_ ?_ ?_)
 ·intro i o _ h
  exfalso
  simp only[Array.getD_eq_getD_getElem?,Array.getElem?_replicate] at h
  split at h <;>simp at h
 ·rw[MG];simp
 ·have hl:=(ka hgs).1
  simp only[Array.length_toList] at hl
  simp only[oK,MG]
  rw[←hl,aiN]
  exact hwp
 ·obtain ⟨D,E,hs⟩:=hs
  exact ⟨D,E,hs.grow (w' := { w with drawn:=w.drawn+1 }) ⟨rfl,rfl,rfl,Nat.le_refl _,fun _ _=>rfl⟩ (fun _ _ h=>h) (fun _ _ h _=>h) (fun b o h=>hs.de b o h)⟩
end
inductive aN where
 |bT (on:Option (List (List Nat))) (gs:List aB)
 |seq (x y:aN)
 |cond (b:aK) (x y:aN)
 |block (id:Nat) (x:aN)
 |loop (x:aN)
 |exit (id:Nat)
 |ret
 |skip
 |scope (x:aN)
 |label
 |kU (f:aK) (ps:List Nat) (x y:aN)
 deriving Inhabited
def eX(P:Program)(n:Nat):Code→Option aN
 | .region _ bC draw=>match j9 P n bC bC.toList with
  |some gs=>if (!draw||P.follows .mixedOrders)=true then some (.bT (bif draw then some (bC.toList.map cZ) else none) gs) else none
  |none=>none
 | .seq x y=>match eX P n x,eX P n y with
  |some x,some y=>some (.seq x y)
  |_,_=>none
 | .cond b x y=>match bH P 0 b,eX P n x,eX P n y with
  |some b,some x,some y=>some (.cond b x y)
  |_,_,_=>none
 | .block id x=>match eX P n x with
  |some x=>some (.block id x)
  |none=>none
 | .loop x=>match eX P n x with
  |some x=>some (.loop x)
  |none=>none
 | .exit id=>some (.exit id)
 | .ret=>some .ret
 | .skip=>some .skip
 | .scope x=>match eX P n x with
  |some x=>some (.scope x)
  |none=>none
 | .label _=>some .label
 | .rangeFunc f ps x y=>match bH P 0 f,eX P n x,eX P n y with
  |some f,some x,some y=>if (ps.toList.all fun p=>p<n)=true then some (.kU f ps.toList x y) else none
  |_,_,_=>none
 |_=>none
def JN(c:cM)(Q:Exit→ae→Prop):Exit→Act→World→Prop:=fun e a w=>∃ A,Q e A∧cj c A a w
def J(c:cM)(x:aN)(Q:Exit→ae→Prop)(A:ae):Prop :=
 ∀ code,eX c.P c.n code=some x→∀ a w,cj c A a w→code.wpIn c.bh 9 c.P (JN c Q) a w
def al(k:ae→Prop)(Q:Exit→ae→Prop):Exit→ae→Prop
 | .normal,A=>k A
 |e,A=>Q e A
def bP(id:Nat)(Q:Exit→ae→Prop):Exit→ae→Prop
 | .exit id',A=>if id'=id then Q .normal A else Q (.exit id') A
 |e,A=>Q e A
section
variable {c:cM} {A:ae} {Q:Exit→ae→Prop}
def XK(d:Option (List (List Nat)))(gs:List aB)(cl:List Nat):Bool:=match d with
 |none=>true
 |some on=>sw on gs cl
theorem J.bT{d:Option (List (List Nat))}{gs:List aB}{cl:List Nat}(hd:XK d gs cl=true)(h:∀ K:ae→Prop,(∀ B,Q .normal B→K B)→bj c.P c.Y d.isSome K (ay gs A)):J c (.bT d gs) Q A:=by
 intro code hc a w hs
 cases code <;>simp only[eX] at hc <;>try (first | (cases hc;done) | ((repeat' split at hc) <;>cases hc;done))
 rename_i id bC draw
 split at hc
 ·rename_i gs' hgs
  split at hc
  case isFalse=>cases hc
  rename_i hok
  simp only[Option.some.injEq,aN.bT.injEq] at hc
  obtain ⟨rfl,rfl⟩:=hc
  cases draw with
  |false=>exact wpIn_region_list (s8 (K:=Q .normal) (fun B a w hk hs=>⟨B,hk,hs⟩) bC.toList gs' A a w hgs (h _ fun _ hb=>hb) hs)
  |true =>
   simp only[Bool.not_true,Bool.false_or] at hok
   exact ak0 (K:=Q .normal) hok (fun B a w hk hs=>⟨B,hk,hs⟩) hgs (X1 (ka hgs).1 hd) (h _ fun _ hb=>hb) hs
 ·cases hc
theorem J.seq{x y:aN}(h:J c x (al (fun B=>J c y Q B) Q) A):J c (.seq x y) Q A:=by
 intro code hc a w hs
 cases code <;>simp only[eX] at hc <;>try (first | (cases hc;done) | ((repeat' split at hc) <;>cases hc;done))
 rename_i cx cy
 split at hc
 ·rename_i x' y' hx hy
  simp only[Option.some.injEq,aN.seq.injEq] at hc
  obtain ⟨rfl,rfl⟩:=hc
  refine wpIn_seq (wpIn_mono (h cx hx a w hs) ?_)
  rintro e a' w' ⟨B,hq,hs'⟩
  cases e <;>simp only[al,Exit.then] at * <;>first | exact hq cy hy a' w' hs' | exact ⟨B,hq,hs'⟩
 ·cases hc
theorem J.cond{b:aK}{x y:aN}{t:Bool}(hb:ab A b=.bool t)(h1:t=true→J c x Q A)(h2:t=false→J c y Q A):J c (.cond b x y) Q A:=by
 intro code hc a w hs
 cases code <;>simp only[eX] at hc <;>try (first | (cases hc;done) | ((repeat' split at hc) <;>cases hc;done))
 rename_i cb cx cy
 split at hc
 ·rename_i b' x' y' hb' hx hy
  simp only[Option.some.injEq,aN.cond.injEq] at hc
  obtain ⟨rfl,rfl,rfl⟩:=hc
  obtain ⟨D,E,hs'⟩:=hs
  have hv:=b8 hs' hb'
  rw[hb] at hv
  exact wpIn_cond_split (lZ hv) (fun ht=>h1 ht cx hx a w ⟨D,E,hs'⟩) (fun ht=>h2 ht cy hy a w ⟨D,E,hs'⟩)
 ·cases hc
theorem J.block{id:Nat}{x:aN}(h:J c x (bP id Q) A):J c (.block id x) Q A:=by
 intro code hc a w hs
 cases code <;>simp only[eX] at hc <;>try (first | (cases hc;done) | ((repeat' split at hc) <;>cases hc;done))
 rename_i id' cx
 split at hc
 ·rename_i x' hx
  simp only[Option.some.injEq,aN.block.injEq] at hc
  obtain ⟨rfl,rfl⟩:=hc
  refine wpIn_block (wpIn_mono (h cx hx a w hs) ?_)
  rintro e a' w' ⟨B,hq,hs'⟩
  cases e <;>simp only[bP,Exit.inBlock] at * <;>first
   |exact ⟨B,hq,hs'⟩
   |(split at hq
     ·rename_i he;rw[if_pos he];exact ⟨B,hq,hs'⟩
     ·rename_i he;rw[if_neg he];exact ⟨B,hq,hs'⟩)
 ·cases hc
theorem J.exit{id:Nat}(h:Q (.exit id) A):J c (.exit id) Q A:=by
 intro code hc a w hs
 cases code <;>simp only[eX] at hc <;>try (first | (cases hc;done) | ((repeat' split at hc) <;>cases hc;done))
 simp only[Option.some.injEq,aN.exit.injEq] at hc
 subst hc
 exact wpIn_exit ⟨A,h,hs⟩
theorem J.ret(h:Q .ret A):J c .ret Q A:=by
 intro code hc a w hs
 cases code <;>simp only[eX] at hc <;>try (first | (cases hc;done) | ((repeat' split at hc) <;>cases hc;done))
 exact wpIn_ret ⟨A,h,hs⟩
theorem J.skip(h:Q .normal A):J c .skip Q A:=by
 intro code hc a w hs
 cases code <;>simp only[eX] at hc <;>try (first | (cases hc;done) | ((repeat' split at hc) <;>cases hc;done))
 exact wpIn_skip ⟨A,h,hs⟩
theorem Dd{p:Nat→Prop}(h:∃ n,p n):∃ n,p n∧∀ m,p m→n≤m:=by
 obtain ⟨n,hn⟩:=h
 induction n using Nat.strongRecOn with
 |_ n ih =>
  by_cases hm:∃ m,m<n∧p m
  ·obtain ⟨m,h1,h2⟩:=hm
   exact ih m h1 h2
  ·exact ⟨n,hn,fun m hp=>Nat.le_of_not_lt fun hlt=>hm ⟨m,hlt,hp⟩⟩
open Classical in
noncomputable def least(p:Nat→Prop):Nat:=if h:∃ n,p n then (Dd h).choose else 0
theorem JI{p:Nat→Prop}(h:∃ n,p n):p (least p)∧∀ m,p m→least p≤m:=by
 simp only[least,dif_pos h]
 exact (Dd h).choose_spec
theorem amf{bh:Fence}{N:Nat}{P:Program}{code:Code}{QQ:Exit→Act→World→Prop}(ai:Nat→Act→World→Prop)(round:∀ n a w,ai n a w→code.wpIn bh N P (Exit.then (fun a' w'=>∃ m,m<n∧ai m a' w') QQ) a w) :
  ∀ n a w,ai n a w→(Code.loop code).wpIn bh N P QQ a w:=by
 intro n a w h
 refine wpIn_loop (fun a w=>∃ n,ai n a w) (fun a w=>least fun n=>ai n a w) ⟨n,h⟩ ?_
 intro a w hI
 have hm:=(JI hI).1
 refine wpIn_mono (round _ a w hm) ?_
 intro e a' w' hq
 cases e <;>simp only[Exit.then] at hq ⊢ <;>try exact hq
 obtain ⟨m,h1,h2⟩:=hq
 exact ⟨⟨m,h2⟩,Nat.lt_of_le_of_lt ((JI ⟨m,h2⟩).2 m h2) h1⟩
def az(A B:ae):Prop:=∀ (c:cM) (a:Act) (w:World),cj c A a w→cj c B a w
theorem az.refl(A:ae):az A A:=fun _ _ _ h=>h
theorem az.trans{A B C:ae}(h:az A B)(k:az B C):az A C:=fun c a w hs=>k c a w (h c a w hs)
theorem J.sub{x:aN}{B:ae}(hsub:az A B)(h:J c x Q B):J c x Q A:=fun code hc a w hs=>h code hc a w (hsub c a w hs)
theorem J.mono{x:aN}{Q':Exit→ae→Prop}(h:J c x Q A)(hq:∀ e B,Q e B→Q' e B):J c x Q' A :=
 fun code hc a w hs=>wpIn_mono (h code hc a w hs) fun e a' w' ⟨B,h1,h2⟩=>⟨B,hq e B h1,h2⟩
theorem J.loop{σ:Type}(S:σ→ae)(C:σ→Prop)(m:σ→Nat)(s0:σ){x:aN}(h0:C s0)(hsub:az A (S s0))
  (round:∀ s,C s→J c x (al (fun B=>∃ s',C s'∧m s'<m s∧az B (S s')) Q) (S s)):J c (.loop x) Q A:=by
 intro code hc a w hs
 cases code <;>simp only[eX] at hc <;>try (first | (cases hc;done) | ((repeat' split at hc) <;>cases hc;done))
 rename_i cx
 split at hc
 ·rename_i x' hx
  simp only[Option.some.injEq,aN.loop.injEq] at hc
  subst hc
  refine amf (fun n a w=>∃ s,C s∧m s=n∧cj c (S s) a w) ?_ (m s0) a w ⟨s0,h0,rfl,hsub c a w hs⟩
  rintro n a w ⟨s,hC,rfl,hs⟩
  refine wpIn_mono (round s hC cx hx a w hs) ?_
  rintro e a' w' ⟨B,hq,hs'⟩
  cases e <;>simp only[al,Exit.then] at * <;>first
   |exact ⟨B,hq,hs'⟩
   |(obtain ⟨s',h1,h2,h3⟩:=hq;exact ⟨m s',h2,s',h1,rfl,h3 c a' w' hs'⟩)
 ·cases hc
end
inductive aY where
 |tmp (t:Nat)
 |cell (a:Nat) (s:Option Nat)
def iP(P:Program):List ResultVar→Option (List aY)
 | []=>some []
 | .tmp t::l=>(iP P l).map (.tmp t :: ·)
 | .cell a t::l=>match fN P t,iP P l with
  |some s,some l=>some (.cell a s::l)
  |_,_=>none
def uj(A:ae):aY→Option I
 | .tmp t=>bd true A (A.t t)
 | .cell a s=>match cv A (A.t a) with
  |some x=>if b5 s x then bd true A x else none
  |none=>none
def fb(A:ae):List aY→Option (List I)
 | []=>some []
 |r::rs=>match uj A r,fb A rs with
  |some x,some xs=>some (x::xs)
  |_,_=>none
def kS:List I→I
 | [x]=>x
 |xs=>.tuple xs
def oV(args:List I):ae:=⟨fun t=>args.getD t .undef,fun _=>none⟩
def jA(rs:List aY)(r:I):Exit→ae→Prop
 | .ret,A=>∃ xs,fb A rs=some xs∧kS xs=r
 | .normal,A=>∃ xs,fb A rs=some xs∧kS xs=r
 |_,_=>False
def qg(args:List I)(os:List (Nat×ah)):ae:=⟨fun t=>args.getD t .undef,ak os⟩
theorem alT{P:Program}{n:Nat}{w:World}{D:aP}{E:aX}{Y:Value→List I→List (Nat×ah)→cV→Prop}{args:List I}{os:List (Nat×ah)}{vs:List Value}(hD:∀ b o,D b o→b<w.heap.size)(ho:lg (fun _=>True) w D E (ak os))
  (hv:aF w D E args vs) (hn:vs.length≤n) (hos:∀ m,aq os m=true→n≤m∧1000000≤m) (hy:o7 ⟨P,w,D,n,dy E,E,Y,none⟩) :
  aS ⟨P,w,D,n,dy E,E,Y,none⟩ (qg args os) { tmps:=vs.toArray++Array.replicate (n-vs.toArray.size) undef,defers:=[] } w D E:=by
 refine ⟨by simp;omega,⟨[],rfl,.nil,fun _ h=>by simp at h⟩,fun t =>?_,fK.refl _ _,fun _ _ h _=>h,hD,fun m =>?_,ho.cQ,fun m e h=>.inr ⟨e,h,.refl e⟩,fun m hm =>?_,fun _ _ h=>h,hy,.refl _ _⟩
 ·have key:∀ (args:List I) (vs:List Value) (t:Nat),aF w D E args vs→aW w D E (args.getD t .undef) (vs.getD t undef):=by
   intro args
   induction args with
   |nil=>intro vs t h;simp only[aF] at h;subst h;simp[aW]
   |cons x xs ih =>
    intro vs t h
    simp only[aF] at h
    obtain ⟨v,rest,cs,rfl,h1,h2,h3⟩:=h
    cases t with
    |zero=>simpa using mD h1 h2
    |succ t=>simpa using ih rest t h3
  have:=key args vs t hv
  have e:(vs.toArray++Array.replicate (n-vs.toArray.size) undef).getD t undef=vs.getD t undef:=by
   simp only[Array.getD_eq_getD_getElem?,List.getD_eq_getElem?_getD]
   rcases Nat.lt_or_ge t vs.length with h | h
   ·rw[Array.getElem?_append_left (by simpa using h)]
    simp
   ·rw[Array.getElem?_append_right (by simpa using h),List.getElem?_eq_none h]
    simp only[Array.getElem?_replicate]
    split <;>rfl
  simp only[qg]
  rw[e]
  exact this
 ·have h:=ho.bX m
  simp only[qg]
  cases hx:ak os m with
  |none=>rw[hx] at h;exact h
  |some x =>
   rw[hx] at h
   cases x with
   |box x =>
    obtain ⟨b,cs,T,k1,_,k3⟩:=h
    exact ⟨b,cs,T,k1,.inr ⟨m,_,k1,rfl⟩,k3⟩
   |bW T sz es =>
    obtain ⟨aE,k1,k2,k3⟩:=h
    refine ⟨aE,k1,k2,?_⟩
    cases aE with
    |none=>exact k3
    |some bc =>
     obtain ⟨b,cap⟩:=bc
     obtain ⟨cs,pre,rest,_,k4⟩:=k3
     exact ⟨cs,pre,rest,.inr ⟨m,_,k1,rfl⟩,k4⟩
   |cU T xs =>
    obtain ⟨aE,k1,k2,k3⟩:=h
    refine ⟨aE,k1,k2,?_⟩
    cases aE with
    |none=>exact k3
    |some bc =>
     obtain ⟨b,cap⟩:=bc
     obtain ⟨cs,rest,_,k4⟩:=k3
     exact ⟨cs,rest,.inr ⟨m,_,k1,rfl⟩,k4⟩
   |dK x =>
    obtain ⟨b,k1,_,k3⟩:=h
    exact ⟨b,k1,.inr ⟨m,_,k1,rfl⟩,k3⟩
   |cu ks vs =>
    obtain ⟨b,es,ck,k1,_,k3⟩:=h
    exact ⟨b,es,ck,k1,.inr ⟨m,_,k1,rfl⟩,k3⟩
   |it ks vs left cur =>
    obtain ⟨r,b,es,ck,si,se,la,k1,_,k3⟩:=h
    exact ⟨r,b,es,ck,si,se,la,k1,.inr ⟨m,_,k1,rfl⟩,k3⟩
 ·have h:=ho.bX m
  refine hos m ?_
  cases hx:ak os m with
  |none=>rw[hx] at h;exact absurd h hm
  |some x=>simp[aq,hx]
def rz(tmps:Array Value):ResultVar→Sem Value
 | .tmp t=>pure (tmps.getD t undef)
 | .cell a t=>do loadVar t (←asAddr (tmps.getD a undef))
theorem ak9(fn:Func)(tmps:Array Value):results fn tmps=(do
  let vs ←fn.results.mapM (rz tmps)
  pure (if h:vs.size=1 then vs[0] else .tuple vs)):=by
 unfold results
 rfl
def ub(A:ae):aY→Option I
 | .tmp t=>some (A.t t)
 | .cell a s=>match cv A (A.t a) with
  |some x=>if b5 s x then some x else none
  |none=>none
def mO(A A0:ae)(os:List (Nat×ah)):List aY→List I→Prop
 | [],[]=>True
 |r::rs,y::ys=>(∃ x,ub A r=some x∧((y=x∧x.cq=true∧x.only (aq os)=true)∨bd true A0 x=some y))∧mO A A0 os rs ys
 |_,_=>False
def ae.kX(A:ae)(os:List (Nat×ah)):ae:=⟨A.t,fun n=>if aq os n then none else A.o n⟩
def lh(rs:List aY)(post:cV)(A:ae):Prop :=
 ∃ (os:List (Nat×ah)) (xs:List I),(∀ n x,ak os n=some x→A.o n=some x∧x.only (aq os)=true∧x.eR=true)∧mO A (A.kX os) os rs xs∧post (kS xs) os
def nP(rs:List aY)(post:cV):Exit→ae→Prop
 | .ret,A=>lh rs post A
 | .normal,A=>lh rs post A
 |_,_=>False
theorem yI{c:cM}{A:ae}{a:Act}{w:World}{D:aP}{E:aX}(hs:aS c A a w D E){A0:ae}(hu:ee A0 A){os:List (Nat×ah)}{D':aP}{E':aX}(hw:iq true A0 D E D')(av:∀ n,aq os n=true→E' n=E n)(hE':∀ n,aq os n=false→E' n=none) :
  ∀ (rs:List ResultVar) (ls:List aY) (xs:List I),iP c.P rs=some ls→mO A A0 os ls xs→∃ vs:List Value,(rs.mapM (rz a.tmps)).run c.P w=.ok vs w∧aF w D' E' xs vs
 | [],ls,xs,hc,hr=>by
  simp only[iP,Option.some.injEq] at hc
  subst hc
  cases xs with
  |nil=>exact ⟨[],by simp,by simp[aF]⟩
  |cons x xs=>simp[mO] at hr
 |r::rs,ls,xs,hc,hr=>by
  have hl:dM w D E' w D' E':=⟨hw.c6,fun _ _ _ _ h=>h,fun _ _ _ h=>h,fun _ aE l h=>⟨aE,l,h,Nat.le_refl _,fun _=>rfl⟩,fun _ _ h=>h,fun _ _ h=>h,fun _ _ _ _ h=>h⟩
  have fin1:∀ {x y:I} {v:Value},aW w D E x v→((y=x∧x.cq=true∧x.only (aq os)=true)∨bd true A0 x=some y)→∃ cs,bK y v cs∧af w D' E' y cs:=by
   intro x y v hv hf
   rcases hf with ⟨rfl,h1,h2⟩ | hf
   ·have h3:=aW.bL hl (aW.dB av h2 hv)
    cases y <;>simp only[aW] at h3 <;>first | (simp[I.cq] at h1;done) | exact h3
   ·have h1:aF w D E [x] [v]:=mR [x] [v] (.cons hv .nil) (by
     intro z hz
     simp only[List.mem_singleton] at hz
     subst hz
     cases z <;>simp_all[bd,I.cq])
    have h2:=mu (E':=E') hs hu hw [x] [y] [v] h1 (by simp[bZ,hf])
    simp only[aF] at h2
    obtain ⟨v',rest,cs,e,k1,k2,_⟩:=h2
    simp only[List.cons.injEq] at e
    obtain ⟨rfl,_⟩:=e
    exact ⟨cs,k1,k2⟩
  cases r with
  |tmp t =>
   simp only[iP,Option.map_eq_some_iff] at hc
   obtain ⟨ls',hl',rfl⟩:=hc
   cases xs with
   |nil=>simp[mO] at hr
   |cons y ys =>
    simp only[mO] at hr
    obtain ⟨⟨x,h1,h2⟩,h3⟩:=hr
    simp only[ub,Option.some.injEq] at h1
    subst h1
    obtain ⟨vs,k1,k2⟩:=yI hs hu hw av hE' rs ls' ys hl' h3
    obtain ⟨cs,k3,k4⟩:=fin1 (hs.dY t) h2
    refine ⟨a.tmps.getD t undef::vs,?_,?_⟩
    ·simp only[List.mapM_cons,Sem.run_bind,rz,Sem.run_pure,Result.andThen_ok,k1]
    ·simp only[aF];exact ⟨_,vs,cs,rfl,k3,k4,k2⟩
  |cell ad t =>
   simp only[iP] at hc
   split at hc
   ·rename_i s ls' hk hl'
    simp only[Option.some.injEq] at hc
    subst hc
    cases xs with
    |nil=>simp[mO] at hr
    |cons y ys =>
     simp only[mO] at hr
     obtain ⟨⟨x,h1,h2⟩,h3⟩:=hr
     obtain ⟨vs,k1,k2⟩:=yI hs hu hw av hE' rs ls' ys hl' h3
     simp only[ub] at h1
     split at h1
     ·rename_i z hz
      split at h1
      ·rename_i hok
       simp only[Option.some.injEq] at h1
       subst h1
       obtain ⟨b,off,cs,q1,q2,q3⟩:=hs.Ai (hs.dY ad) hz
       obtain ⟨v,q4,q5⟩:=M2 hk hok q2 q3
       obtain ⟨cs',k3,k4⟩:=fin1 q5 h2
       refine ⟨v::vs,?_,?_⟩
       ·have e:(rz a.tmps (.cell ad t)).run c.P w=.ok v w:=by
         simp only[rz,Sem.run_bind,q1,asAddr,Sem.run_pure,Result.andThen_ok,q4]
        simp only[List.mapM_cons,Sem.run_bind,Sem.run_pure,Result.andThen_ok,k1,e]
       ·simp only[aF];exact ⟨_,vs,cs',rfl,k3,k4,k2⟩
      ·cases h1
     ·cases h1
   ·cases hc
theorem aS.UF{c:cM}{A:ae}{a:Act}{w:World}{D:aP}{E:aX}(h:aS c A a w D E){B:Nat}{ds:List Deferred}(hd:a.defers = { target:=.collected B,args := #[] } :: ds) :
  w.heap[B]?=some (.deferred (some []))∧aS c A { a with defers:=ds } (w.putObj B (.deferred none)) D E:=by
 obtain ⟨Bs,h1,h2,h3⟩:=h.eM
 rw[hd] at h1
 cases Bs with
 |nil=>cases h1
 |cons B' Bs =>
  simp only[List.map_cons,List.cons.injEq,Deferred.mk.injEq,Target.collected.injEq,and_true] at h1
  obtain ⟨rfl,rfl⟩:=h1
  have hB:=h3 B (by simp)
  have hlt:B<w.heap.size:=(Array.getElem?_eq_some_iff.1 hB.2).1
  have hl:dM w D E (w.putObj B (.deferred none)) D E :=
   ⟨fun _ _ h=>h,fun b o v _ hv=>vu hB.2 rfl hv,fun _ _ _ h=>h,fun _ aE l h=>⟨aE,l,h,Nat.le_refl _,fun _=>rfl⟩,fun _ _ h=>h,fun _ _ h=>h,fun b es ck _ hm=>(World.putObj_heap_other (fun e=>by rw[e,hB.2] at hm;cases hm)).trans hm⟩
  have hne:∀ {b:Nat} {cs:Array Value} {T:TypeId},w.heap[b]?=some (.cells cs T (0,0))→(w.putObj B (.deferred none)).heap[b]?=w.heap[b]?:=fun {b cs T} hb =>
   World.putObj_heap_other (fun e=>by rw[e,hB.2] at hb;cases hb)
  refine ⟨hB.2,h.sz,⟨Bs,rfl,(List.nodup_cons.1 h2).2,fun B2 hB2=>⟨(h3 B2 (by simp[hB2])).1,?_⟩⟩,fun t=>aW.bL hl (h.dY t),h.dO.trans ⟨rfl,rfl,rfl,by simp,fun k hk =>?_⟩,h.c6,fun b o hd=>by have:=h.de b o hd;simpa using this,fun n =>?_,h.cQ,h.dQ,h.eU,h.cK,h.eW,h.kY hl⟩
  ·rw[World.putObj_heap_other (fun e=>(List.nodup_cons.1 h2).1 (by rw[←e];exact hB2))]
   exact (h3 B2 (by simp[hB2])).2
  ·exact World.putObj_heap_other (fun e=>hk (e▸.inl hB.1))
  ·refine (h.bX n).bL hl rfl fun e b he hb=>⟨?_,fun _ h=>h⟩
   have hob:=h.bX n
   unfold dc at hob
   split at hob
   ·rw[hob] at he;cases he
   ·obtain ⟨b',cs,T,k1,_,k3,_⟩:=hob
    rw[k1,Option.some.injEq] at he
    subst he
    simp only[bU.aE,Option.some.injEq] at hb
    subst hb
    exact hne k3
   ·obtain ⟨aE,k1,_,k3⟩:=hob
    rw[k1,Option.some.injEq] at he
    subst he
    split at k3
    ·simp[bU.aE] at hb
    ·obtain ⟨cs,pre,rest,_,k5,_⟩:=k3
     simp only[bU.aE,Option.some.injEq] at hb
     subst hb
     exact hne k5
   ·obtain ⟨b',k1,_,k3,k4,_⟩:=hob
    rw[k1,Option.some.injEq] at he
    subst he
    simp only[bU.aE,Option.some.injEq] at hb
    subst hb
    exact World.putObj_heap_other (fun e=>by rw[e,hB.2] at k3;cases k3;cases k4)
   ·obtain ⟨b',es,ck,k1,_,k3,_⟩:=hob
    rw[k1,Option.some.injEq] at he
    subst he
    cases hb
    exact World.putObj_heap_other (fun e=>by rw[e,hB.2] at k3;cases k3)
   ·obtain ⟨r,b',es,ck,si,se,la,k1,_,k3,_⟩:=hob
    rw[k1,Option.some.injEq] at he
    subst he
    cases hb
    exact World.putObj_heap_other (fun e=>by rw[e,hB.2] at k3;cases k3)
   ·obtain ⟨aE,k1,_,k3⟩:=hob
    rw[k1,Option.some.injEq] at he
    subst he
    split at k3
    ·simp[bU.aE] at hb
    ·obtain ⟨cs,m,_,k5,_⟩:=k3
     simp only[bU.aE,Option.some.injEq] at hb
     subst hb
     exact hne k5
def uU(w:World)(D:aP)(E:aX)(post:cV)(v:Value)(w':World):Prop :=
 ∃ D' E' r os',post r os'∧aW w' D' E' r v∧lg (fun b=>w.heap.size≤b∨dy E b) w' D' E' (ak os') ∧
  fK (fun b=>w.heap.size≤b∨dy E b) w w'∧(∀ b o,D b o→D' b o)∧(∀ b o,D' b o→b<w'.heap.size)∧(∀ b o,D' b o→b<w.heap.size→¬ dy E b→D b o) ∧
  (∀ n e,E n=some e→aq os' n=true→∃ e',E' n=some e'∧e.le e')∧im w D w'
theorem aS.JJ{P:Program}{n:Nat}{w:World}{D:aP}{E:aX}{Y:Value→List I→List (Nat×ah)→cV→Prop}{mP:Option Nat}{A:ae}{a:Act}{w':World}{D':aP}{E':aX}
  (hs:aS ⟨P,w,D,n,dy E,E,Y,mP⟩ A a w' D' E') {os:List (Nat×ah)} (h1:∀ n x,ak os n=some x→A.o n=some x∧x.only (aq os)=true∧x.eR=true) :
  ∃ D2 E2,iq true (A.kX os) D' E' D2∧(∀ n,aq os n=true→E2 n=E' n)∧(∀ n,aq os n=false→E2 n=none)∧lg (fun b=>w.heap.size≤b∨dy E b) w' D2 E2 (ak os) ∧
   fK (fun b=>w.heap.size≤b∨dy E b) w w'∧(∀ b o,D b o→D2 b o)∧(∀ b o,D2 b o→b<w'.heap.size)∧(∀ b o,D2 b o→b<w.heap.size→¬ dy E b→D b o) ∧
   (∀ n e,E n=some e→aq os n=true→∃ e',E2 n=some e'∧e.le e')∧im w D w':=by
 obtain ⟨c,hc⟩:∃ c:cM,c=⟨P,w,D,n,dy E,E,Y,mP⟩:=⟨_,rfl⟩
 rw[←hc] at hs
 have hM:c.fe=fun b=>w.heap.size≤b∨dy E b:=by rw[hc];rfl
 obtain ⟨E2,hE2⟩:∃ E2:aX,E2=fun n=>if aq os n then E' n else none:=⟨_,rfl⟩
 obtain ⟨D2,hD2⟩:∃ D2:aP,D2=fun b o=>b<w'.heap.size∧(D' b o∨(¬ dy E2 b∧c.fe b)):=⟨_,rfl⟩
 have e2:∀ n,aq os n=true→E2 n=E' n:=fun n hn=>by rw[hE2];simp only[hn,if_true]
 have cut:∀ n e,E2 n=some e→aq os n=true∧E' n=some e:=fun n e he=>by
  rw[hE2] at he
  simp only at he
  split at he
  ·exact ⟨by assumption,he⟩
  ·cases he
 have up2:∀ b o,D' b o→D2 b o:=fun b o hd=>by
  rw[hD2]
  exact ⟨hs.de b o hd,.inl hd⟩
 have down:∀ b o,D2 b o→dy E2 b→D' b o:=fun b o hd hb=>by
  rw[hD2] at hd
  rcases hd.2 with h | h
  ·exact h
  ·exact absurd hb h.1
 have hu:ee (A.kX os) A:=fun n x hx=>by
  simp only[ae.kX] at hx
  split at hx
  ·cases hx
  ·exact hx
 have notOwn:∀ n e b,(A.kX os).o n≠none→E' n=some e→e.aE=some b→¬ dy E2 b:=fun n e b hn he hb ho=>by
  obtain ⟨m,e',k1,k3⟩:=ho
  obtain ⟨k1,k2⟩:=cut m e' k1
  have:=hs.cQ n m e _ b he k2 hb k3
  subst this
  simp[ae.kX,k1] at hn
 have hw:iq true (A.kX os) D' E' D2:=by
  refine ⟨up2,fun n T sz es b cap hn av o _ =>?_,fun _ n x b aQ hn av o _ =>?_,fun _ n ks vs b hn av =>?_⟩
  ·rw[hD2]
   refine ⟨hs.fR av rfl,.inr ⟨notOwn n _ b (by rw[hn];simp) av rfl,?_⟩⟩
   obtain ⟨aE,k1,k2,k3⟩:=hs.bW (hu n _ hn)
   rw[av] at k1
   simp only[Option.some.injEq,bU.rw.injEq,and_true] at k1
   subst k1
   obtain ⟨_,_,_,k4,_⟩:=k3
   exact k4
  ·rw[hD2]
   refine ⟨hs.fR av rfl,.inr ⟨notOwn n _ b (by rw[hn];simp) av rfl,?_⟩⟩
   obtain ⟨b',cs,T,k1,k2,_⟩:=hs.box (hu n _ hn)
   rw[k1] at av
   simp only[Option.some.injEq,bU.aC.injEq] at av
   obtain ⟨rfl,_⟩:=av
   exact k2
  ·rw[hD2]
   refine ⟨hs.fR av rfl,.inr ⟨notOwn n _ b (by rw[hn];simp) av rfl,?_⟩⟩
   obtain ⟨b',es,ck,k1,k2,_⟩:=hs.map (hu n _ hn)
   rw[k1] at av
   cases av
   exact k2
 have hst:im w D w':=by
  have:=hs.fE
  rw[hc] at this
  exact this
 refine ⟨D2,E2,hw,e2,fun n hn=>by rw[hE2];simp[hn],⟨fun m =>?_,fun m m' e e' b g1 g2 g3 g4 =>?_⟩,?_,fun b o hd=>up2 b o (hs.cK b o (by rw[hc];exact hd)),fun b o hd=>by rw[hD2] at hd;exact hd.1,fun b o hd hlt hno =>?_,fun m e hm hin =>?_,hst⟩
 ·cases hx:ak os m with
  |none=>simp only[dc];rw[hE2];simp[aq,hx]
  |some x =>
   have hm:aq os m=true:=by simp[aq,hx]
   obtain ⟨k1,k2,k3⟩:=h1 m x hx
   have ho:=hs.bX m
   rw[k1] at ho
   have hl2:dM w' D' E2 w' D2 E2:=⟨up2,fun _ _ _ _ h=>h,fun _ _ _ h=>h,fun _ aE l h=>⟨aE,l,h,Nat.le_refl _,fun _=>rfl⟩,fun _ _ h=>h,fun _ _ h=>h,fun _ _ _ _ h=>h⟩
   have nD:∀ e b,E' m=some e→e.aE=some b→∀ o,D2 b o→D' b o:=fun e b he hb o hd=>down b o hd ⟨m,e,(e2 m hm).trans he,hb⟩
   cases x with
   |bW T sz es =>
    obtain ⟨aE,q1,q2,q3⟩:=ho
    refine ⟨aE,(e2 m hm).trans q1,q2,?_⟩
    cases aE with
    |none=>exact q3
    |some bc =>
     obtain ⟨b,cap⟩:=bc
     obtain ⟨cs,pre,rest,g1,g2,g3,g4,g5,g6,g7,g8⟩:=q3
     exact ⟨cs,pre,rest,by rw[←hM];exact g1,g2,g3,aG.bL hl2 _ _ (aG.dB e2 _ _ (by simpa[ah.only] using k2) g4),g5,g6,g7,fun o hd=>g8 o (nD _ b q1 rfl o hd)⟩
   |box y =>
    obtain ⟨b',cs,T,q1,q2,q3,q4,q5⟩:=ho
    exact ⟨b',cs,T,(e2 m hm).trans q1,by rw[←hM];exact q2,q3,af.bL hl2 _ _ (af.dB e2 _ _ (by simpa[ah.only] using k2) q4),fun o hd=>q5 o (nD _ b' q1 rfl o hd)⟩
   |dK o =>
    obtain ⟨b',q1,q2,q3,q4,q5⟩:=ho
    exact ⟨b',(e2 m hm).trans q1,by rw[←hM];exact q2,q3,q4,fun o hd=>q5 o (nD _ b' q1 rfl o hd)⟩
   |cu ks vs =>
    obtain ⟨b',es,ck,q1,q2,q3,q4,q5,q6,q7⟩:=ho
    simp only[ah.only,Bool.and_eq_true] at k2
    exact ⟨b',es,ck,(e2 m hm).trans q1,by rw[←hM];exact q2,q3,q4,aF.bL hl2 _ _ (aF.dB e2 _ _ k2.1 q5),aF.bL hl2 _ _ (aF.dB e2 _ _ k2.2 q6),fun o hd=>q7 o (nD _ b' q1 rfl o hd)⟩
   |it ks vs left cur=>cases k3
   |cU T xs =>
    obtain ⟨aE,q1,q2,q3⟩:=ho
    refine ⟨aE,(e2 m hm).trans q1,q2,?_⟩
    cases aE with
    |none=>exact q3
    |some bc =>
     obtain ⟨b,cap⟩:=bc
     obtain ⟨cs,r,g1,g2,g3,g4,g5,g6,g7⟩:=q3
     exact ⟨cs,r,by rw[←hM];exact g1,g2,g3,g4,g5,g6,fun o hd=>g7 o (nD _ b q1 rfl o hd)⟩
 ·exact hs.cQ m m' e e' b (cut m e g1).2 (cut m' e' g2).2 g3 g4
 ·rw[←hM]
  have:=hs.dO
  rw[hc] at this ⊢
  exact this
 ·rw[hD2] at hd
  have hnm:¬ c.fe b:=by
   rw[hM]
   rintro (h | h)
   ·omega
   ·exact hno h
  rcases hd.2 with h | h
  ·have:=hs.c6 b o h hnm
   rw[hc] at this;exact this
  ·exact absurd h.2 hnm
 ·rw[e2 m hin]
  have ho:A.o m≠none:=by
   cases hx:ak os m with
   |none=>simp[aq,hx] at hin
   |some x=>rw[(h1 m x hx).1];simp
  rcases hs.dQ m e (by rw[hc];exact hm) with h | h
  ·have hob:=hs.bX m
   cases hx:A.o m with
   |none=>exact absurd hx ho
   |some x=>rw[hx] at hob;exact absurd h (tM hob)
  ·exact h
theorem aS.aiy{P:Program}{n:Nat}{w:World}{D:aP}{E:aX}{Y:Value→List I→List (Nat×ah)→cV→Prop}{rs:List aY}{post:cV}{fn:Func}{A:ae}{a:Act}{w':World}{D':aP}{E':aX}
  (hs:aS ⟨P,w,D,n,dy E,E,Y,none⟩ A a w' D' E') (hrs:iP P fn.results.toList=some rs) (h:lh rs post A):∃ v,(results fn a.tmps).run P w'=.ok v w'∧uU w D E post v w':=by
 obtain ⟨os,xs,h1,h2,h3⟩:=h
 obtain ⟨D2,E2,hw,e2,e2n,q1,q2,q3,q4,q5,q6⟩:=hs.JJ h1
 have hu:ee (A.kX os) A:=fun n x hx=>by
  simp only[ae.kX] at hx
  split at hx
  ·cases hx
  ·exact hx
 obtain ⟨vs,k1,k2⟩:=yI hs hu (os:=os) (E':=E2) hw e2 e2n fn.results.toList rs xs hrs h2
 have hres:(results fn a.tmps).run P w'=.ok (if h:vs.toArray.size=1 then vs.toArray[0] else .tuple vs.toArray) w':=by
  rw[ak9,Sem.run_bind,Array.mapM_eq_mapM_toList,Sem.run_map,k1]
  rfl
 refine ⟨_,hres,D2,E2,kS xs,os,h3,?_,q1,q2,q3,q4,q5,q6⟩
 match xs,vs,k2 with
 | [x],vs,k2 =>
  simp only[aF] at k2
  obtain ⟨v,rest,cs,rfl,q1,q2,rfl⟩:=k2
  simpa[kS] using mD q1 q2
 | [],vs,k2 =>
  simp only[aF] at k2
  subst k2
  simp[kS,aW,aF]
 |x::y::xs,vs,k2 =>
  have hl:vs.length≠1:=by
   simp only[aF] at k2
   obtain ⟨v,rest,cs,rfl,_,_,v2,rest2,cs2,rfl,_⟩:=k2
   simp
  simp only[kS,aW]
  exact ⟨vs,by simp[hl],k2⟩
theorem JK{P:Program}{n:Nat}{w:World}{D:aP}{E:aX}{Y:Value→List I→List (Nat×ah)→cV→Prop}{rs:List aY}{post:cV}{fn:Func}{A:ae}{D':aP}{E':aX}(hrs:iP P fn.results.toList=some rs)(h:lh rs post A) :
  ∀ (ds:List Deferred) (a:Act) (w':World),a.defers=ds→aS ⟨P,w,D,n,dy E,E,Y,none⟩ A a w' D' E'→LeavesInM Fence.wide 9 P fn a.tmps (fun e w'=>∃ v,e=.returned v∧uU w D E post v w') ds .returning w'
 | [],a,w',_,hs=>by
  obtain ⟨v,h1,h2⟩:=hs.aiy hrs h
  exact ⟨v,h1,v,rfl,h2⟩
 |d::ds,a,w',hd,hs=>by
  obtain ⟨Bs,h1,_⟩:=hs.eM
  rw[hd] at h1
  cases Bs with
  |nil=>cases h1
  |cons B Bs =>
   simp only[List.map_cons,List.cons.injEq] at h1
   obtain ⟨rfl,rfl⟩:=h1
   obtain ⟨k1,k2⟩:=hs.UF hd
   exact ⟨by simp,.inl ⟨B,_,rfl,run_takeDeferred k1,JK hrs h _ { a with defers:=Bs.map _ } _ rfl k2⟩⟩
theorem yU{w:World}{D:aP}{E:aX} : ∀ {args:List I} {vs:List Value},aF w D E args vs→vs.length=args.length
 | [],vs,h=>by simp only[aF] at h;subst h;rfl
 |x::xs,vs,h=>by
  simp only[aF] at h
  obtain ⟨v,rest,cs,rfl,_,_,h3⟩:=h
  simp[yU h3]
def kA(P:Program)(f:FuncId)(Y:Value→List I→List (Nat×ah)→cV→Prop)(args:List I)(os:List (Nat×ah))(post:cV):Prop :=
 gS P f=true∧∀ (w:World) (D:aP) (E:aX) (vs:List Value),(∀ n,o7 ⟨P,w,D,n,dy E,E,Y,none⟩)→(∀ b o,D b o→b<w.heap.size)→lg (fun _=>True) w D E (ak os)→aF w D E args vs →
  Calls P f vs.toArray w fun e w'=>∃ v,e=.returned v∧uU w D E post v w'
theorem kA.tN{P:Program}{f:FuncId}{fn:Func}{body:Code}{x:aN}{rs:List aY}{Y:Value→List I→List (Nat×ah)→cV→Prop}{args:List I}{os:List (Nat×ah)}{post:cV}(hf:P.funcs[f]?=some fn)(hb:fn.body=some body)(hcall:gS P f=true)(hc:eX P fn.ntmps body=some x)
  (hrs:iP P fn.results.toList=some rs) (hn:args.length≤fn.ntmps) (hos:∀ m,aq os m=true→fn.ntmps≤m∧1000000≤m) (h:∀ (w:World) (D:aP) (E:aX),J ⟨P,w,D,fn.ntmps,dy E,E,Y,none⟩ x (nP rs post) (qg args os)):kA P f Y args os post:=by
 refine ⟨hcall,fun w D E vs hy hD ho hv =>?_⟩
 have hlen:=yU hv
 have hsim:=alT (P:=P) (n:=fn.ntmps) (Y:=Y) hD ho hv (by omega) hos (hy fn.ntmps)
 refine (callsIn_wide (n:=9)).1 (callsIn_of_wp_marks hf hb trivial ?_)
 refine wpIn_mono (h w D E body hc _ w ⟨D,E,hsim⟩) ?_
 rintro e a w' ⟨A,hq,D',E',hs⟩
 cases e <;>simp only[nP] at hq <;>first
  |exact JK hrs hq a.defers a w' rfl hs
  |cases hq
theorem amm{P:Program}{w:World}{D:aP}{E:aX}{n:Nat} : o7 ⟨P,w,D,n,dy E,E,iA,none⟩:=fun _ _ _ _ h=>h.elim
theorem cH.J6{P:Program}{f:FuncId}{args:List I}{os:List (Nat×ah)}{post:cV}(h:kA P f iA args os post):cH P f args os post :=
 ⟨h.1,fun w D E vs _ hD ho hv=>(h.2 w D E vs (fun _=>amm) hD ho hv).mono fun e w' ⟨v,he,D',E',r,os',k⟩=>⟨v,D',E',r,os',he,k⟩⟩
theorem aw.ajV{P:Program}{f:FuncId}{args:List I}{r:I}(h:cH P f args [] (fun r' os'=>r'=r∧os'=[])):aw P f args r:=by
 refine ⟨h.1,fun w D vs hD hv =>?_⟩
 have hh:lg (fun _=>True) w D du (ak []):=⟨fun n=>rfl,fun n m e e' b h=>by simp[du] at h⟩
 refine (h.2 w D du vs trivial hD hh hv).mono fun e w' hq =>?_
 obtain ⟨v,D',E',r',os',he,⟨h1,h2⟩,k1,k2,k3,k4,k5,k6,_⟩:=hq
 subst h1 h2
 refine ⟨v,D',he,?_,?_,k5,fun b o hd hlt=>k6 b o hd hlt fun ⟨n,e,h,_⟩=>by simp[du] at h⟩
 ·have:E'=du:=by funext n;exact k2.bX n
  rw[←this];exact k1
 ·exact k3.Qf fun k hk hm=>by
   rcases hm with hm | ⟨n,e,h,_⟩
   ·omega
   ·simp[du] at h
theorem alq(A:ae):A.kX []=A:=rfl
theorem MP{A:ae} : ∀ {rs:List aY} {xs:List I},fb A rs=some xs→mO A (A.kX []) [] rs xs
 | [],xs,h=>by simp only[fb,Option.some.injEq] at h;subst h;trivial
 |r::rs,xs,h=>by
  simp only[fb] at h
  split at h
  ·rename_i x xs' h1 h2
   simp only[Option.some.injEq] at h
   subst h
   refine ⟨?_,MP h2⟩
   rw[alq]
   cases r with
   |tmp t=>exact ⟨_,rfl,.inr h1⟩
   |cell a s =>
    simp only[uj,ub] at h1 ⊢
    split at h1
    ·rename_i y hy
     split at h1
     ·rename_i hok
      exact ⟨y,by simp[hok],.inr h1⟩
     ·cases h1
    ·cases h1
  ·cases h
theorem ala{rs:List aY}{r:I}{e:Exit}{A:ae}(h:jA rs r e A):nP rs (fun r' os'=>r'=r∧os'=[]) e A:=by
 cases e <;>simp only[jA] at h <;>first
  |exact h.elim
  |(obtain ⟨xs,h1,h2⟩:=h
    exact ⟨[],xs,fun n x hx=>by simp[ak] at hx,MP h1,h2,rfl⟩)
theorem aw.tN{P:Program}{f:FuncId}{fn:Func}{body:Code}{x:aN}{rs:List aY}{args:List I}{r:I}(hf:P.funcs[f]?=some fn)(hb:fn.body=some body)(hcall:gS P f=true)(hc:eX P fn.ntmps body=some x)
  (hrs:iP P fn.results.toList=some rs) (hn:args.length≤fn.ntmps) (h:∀ (w:World) (D:aP) (E:aX),J ⟨P,w,D,fn.ntmps,dy E,E,iA,none⟩ x (jA rs r) (oV args)):aw P f args r:=by
 refine aw.ajV (cH.J6 (kA.tN hf hb hcall hc hrs hn (fun m hm=>by simp[aq,ak] at hm) fun w D E =>?_))
 exact (h w D E).mono fun e B hq=>ala hq
end Go.Abs
namespace Go.Abs
open Go Go.RowKit
def aT(ts:List (Nat×I)):List (Nat×I)→Prop
 | []=>True
 |(k,v)::r=>bO ts k=v∧aT ts r
def bN(os:List (Nat×ah)):List (Nat×ah)→Prop
 | []=>True
 |(k,v)::r=>ak os k=some v∧bN os r
def bM(p:Nat→Bool):List (Nat×I)→Prop
 | []=>True
 |(_,v)::r=>v.only p=true∧bM p r
theorem zc{ts:List (Nat×I)} : ∀ {ts':List (Nat×I)},aT ts ts'→∀ k,bO ts' k=.c9∨bO ts' k=bO ts k
 | [],_,k=>.inl rfl
 |(j,v)::r,h,k=>by
  simp only[aT] at h
  simp only[bO]
  split
  ·rename_i hk;subst hk;exact .inr h.1.symm
  ·exact zc h.2 k
theorem NB{os:List (Nat×ah)} : ∀ {os':List (Nat×ah)},bN os os'→∀ k,ak os' k=none∨ak os' k=ak os k
 | [],_,k=>.inl rfl
 |(j,v)::r,h,k=>by
  simp only[bN] at h
  simp only[ak]
  split
  ·rename_i hk;subst hk;exact .inr h.1.symm
  ·exact NB h.2 k
theorem Km{p:Nat→Bool} : ∀ {ts:List (Nat×I)},bM p ts→∀ k,(bO ts k).only p=true
 | [],_,k=>by simp[bO,I.only]
 |(j,v)::r,h,k=>by
  simp only[bM] at h
  simp only[bO]
  split
  ·exact h.1
  ·exact Km h.2 k
theorem Kl{p:Nat→Bool} : ∀ {os:List (Nat×ah)},bg p os→∀ k x,ak os k=some x→x.only p=true
 | [],_,k,x,hx=>by simp[ak] at hx
 |(j,v)::r,h,k,x,hx=>by
  simp only[bg] at h
  simp only[ak] at hx
  split at hx
  ·simp only[Option.some.injEq] at hx;subst hx;exact h.1
  ·exact Kl h.2 k x hx
theorem az.bR{ts ts':List (Nat×I)}{os os':List (Nat×ah)}(h1:aT ts ts')(h2:bN os os')(h3:bM (aq os') ts')(h4:bg (aq os') os'):az (ar ts os) (ar ts' os'):=by
 rintro c a w ⟨D,E,hs⟩
 have hp:∀ n,aq os' n=true→(if aq os' n then E n else none)=E n:=fun n hn=>by simp[hn]
 refine ⟨D,fun n=>if aq os' n then E n else none,hs.sz,hs.eM,fun t =>?_,hs.dO,hs.c6,hs.de,fun n =>?_,fun n m e e' b h1 h2 h3 h4 =>?_,fun n e hn =>?_,hs.eU,hs.cK,hs.eW,hs.fE⟩
 ·have:=zc h1 t
  rcases this with h | h
  ·simp only[ar];rw[h];simp[aW]
  ·refine aW.dB (p:=aq os') hp (Km h3 t) ?_
   have:=hs.dY t
   simp only[ar] at *
   rw[h];exact this
 ·have ho:=hs.bX n
  simp only[ar] at *
  rcases NB h2 n with h | h
  ·rw[h];simp[dc,aq,h]
  ·rw[h]
   by_cases hin:ak os n=none
   ·rw[hin];simp[dc,aq,h,hin]
   ·have av:(if aq os' n then E n else none)=E n:=hp n (by simp[aq,h];cases hh:ak os n <;>simp_all)
    cases hx:ak os n with
    |none=>exact absurd hx hin
    |some x =>
     have hon:=Kl h4 n x (h.trans hx)
     rw[hx] at ho
     cases x with
     |box x =>
      obtain ⟨b,cs,T,k1,k2,k3,k4,k5⟩:=ho
      exact ⟨b,cs,T,av.trans k1,k2,k3,af.dB hp _ _ (by simpa[ah.only] using hon) k4,k5⟩
     |bW T sz es =>
      obtain ⟨aE,k1,k2,k3⟩:=ho
      refine ⟨aE,av.trans k1,k2,?_⟩
      cases aE with
      |none=>exact k3
      |some bc =>
       obtain ⟨b,cap⟩:=bc
       obtain ⟨cs,pre,rest,q1,q2,q3,q4,q5⟩:=k3
       exact ⟨cs,pre,rest,q1,q2,q3,aG.dB hp _ _ (by simpa[ah.only] using hon) q4,q5⟩
     |cU T xs =>
      obtain ⟨aE,k1,k2,k3⟩:=ho
      exact ⟨aE,av.trans k1,k2,k3⟩
     |dK x =>
      obtain ⟨b,k1,k2⟩:=ho
      exact ⟨b,av.trans k1,k2⟩
     |cu ks vs =>
      obtain ⟨b,es,ck,k1,k2,k3,k4,k5,k6,k7⟩:=ho
      simp only[ah.only,Bool.and_eq_true] at hon
      exact ⟨b,es,ck,av.trans k1,k2,k3,k4,aF.dB hp _ _ hon.1 k5,aF.dB hp _ _ hon.2 k6,k7⟩
     |it ks vs left cur =>
      obtain ⟨r,b,es,ck,si,se,la,k1,k2,k3,k4,k5,k6,k7⟩:=ho
      simp only[ah.only,Bool.and_eq_true] at hon
      exact ⟨r,b,es,ck,si,se,la,av.trans k1,k2,k3,k4,aF.dB hp _ _ hon.1 k5,aF.dB hp _ _ hon.2 k6,k7⟩
 ·refine hs.cQ n m e e' b ?_ ?_ h3 h4
  ·split at h1
   ·exact h1
   ·cases h1
  ·split at h2
   ·exact h2
   ·cases h2
 ·by_cases hi:aq os' n=true
  ·simp only[hi,if_true];exact hs.dQ n e hn
  ·simp only[hi];exact .inl rfl
def a6:Nat→List I→List (Nat×I)
 |_,[]=>[]
 |k,a::as=>(k,a)::a6 (k+1) as
theorem JS:∀ (as:List I) (k t:Nat),bO (a6 k as) t=if t<k then .c9 else (as[t-k]?).getD .c9
 | [],k,t=>by simp[a6,bO]
 |a::as,k,t=>by
  simp only[a6,bO,JS as (k+1) t]
  by_cases h:t=k
  ·subst h;simp
  ·rw[if_neg h]
   by_cases h2:t<k
   ·rw[if_pos (by omega),if_pos h2]
   ·rw[if_neg (by omega),if_neg h2,show t-k=(t-(k+1))+1 from by omega]
    simp
theorem NA(args:List I)(os:List (Nat×ah)):az (qg args os) (ar (a6 0 args) os):=by
 rintro c a w ⟨D,E,hs⟩
 refine ⟨D,E,hs.sz,hs.eM,fun t =>?_,hs.dO,hs.c6,hs.de,hs.bX,hs.cQ,hs.dQ,hs.eU,hs.cK,hs.eW,hs.fE⟩
 have:=hs.dY t
 simp only[ar,JS,qg,Nat.not_lt_zero,if_false,Nat.sub_zero] at *
 cases h:args[t]? with
 |none=>simp[aW]
 |some x=>simpa[List.getD_eq_getElem?_getD,h] using this
theorem alS(args:List I):az (oV args) (ar (a6 0 args) []):=NA args []
theorem tB(ts:List (Nat×I))(os:List (Nat×ah))(d:Nat)(v:I):(ar ts os).put d v=ar ((d,v)::ts) os:=rfl
theorem tC(ts:List (Nat×I))(os:List (Nat×ah))(d:Nat)(v:I):(ar ts os).aO (some d) v=ar ((d,v)::ts) os:=rfl
theorem aiS(A:ae)(v:I):A.aO none v=A:=rfl
theorem lQ(ts:List (Nat×I))(os:List (Nat×ah))(d:Nat)(x:ah):(ar ts os).aM d x=ar ts ((d,x)::os):=rfl
theorem aiT(ts:List (Nat×I))(os:List (Nat×ah))(k:Nat):(ar ts os).t k=bO ts k:=rfl
theorem aiR(ts:List (Nat×I))(os:List (Nat×ah))(k:Nat):(ar ts os).o k=ak os k:=rfl
theorem aU(j:Nat)(v:I)(r:List (Nat×I))(k:Nat):bO ((j,v)::r) k=if k=j then v else bO r k:=rfl
theorem cw(j:Nat)(v:ah)(r:List (Nat×ah))(k:Nat):ak ((j,v)::r) k=if k=j then some v else ak r k:=rfl
theorem tr(k:Nat):ak [] k=none:=rfl
theorem Ym(A:ae)(k:Nat):ab A (.t k)=A.t k:=rfl
theorem Yk(A:ae)(x:I):ab A (.c x)=x:=rfl
noncomputable def dh(d:Option Nat)(rest:List aB)(A:ae)(v:I):cL:=ay rest (A.aO d v)
theorem aij(d:Option Nat)(rest:List aB)(A:ae)(v:I):dh d rest A v=ay rest (A.aO d v):=rfl
theorem Qz(v:I)(k:I→cL):cP (some v) k=k v:=rfl
theorem PW(A:ae):ay [] A=.done A:=rfl
noncomputable def bS(A:ae)(d:Option Nat)(op:b6)(rest:List aB):cL:=bn A d op rest (ay rest)
noncomputable def gW(x:I)(b:Bool)(d:Option Nat)(op:b6)(rest:List aB)(A:ae):cL :=
 match x with
 | .bool b'=>if b'=b then bS A d op rest else ay rest (A.aO d .undef)
 | .undef=>ay rest (A.aO d .undef)
 |_=>.fail
theorem bj.guard{P:Program}{Y:Value→List I→List (Nat×ah)→cV→Prop}{dr:Bool}{K:ae→Prop}{x b:Bool}{d:Option Nat}{op:b6}{rest:List aB}{A:ae}(h1:x=b→bj P Y dr K (bS A d op rest))(h2:x = !b→bj P Y dr K (ay rest (A.aO d .undef))):bj P Y dr K (gW (.bool x) b d op rest A):=by
 unfold gW
 by_cases h:x=b
 ·simp only[if_pos h];exact h1 h
 ·simp only[if_neg h];exact h2 (by cases x <;>cases b <;>simp_all)
def I.di:I→Option (List I)
 | .agg fs=>some fs
 |_=>none
def oc(p:List Nat):Option I→Option I
 |some f=>f.at p
 |none=>none
def jr(i:Nat)(p:List Nat):Option (List I)→Option I
 |some fs=>oc p fs[i]?
 |none=>none
theorem m4(c:I):c.at []=some c:=by cases c <;>rfl
theorem Qc(c:I)(i:Nat)(p:List Nat):c.at (i::p)=jr i p c.di:=by
 cases c <;>first | rfl | (rename_i fs;simp only[I.at,jr,I.di,oc])
def yW(fs:List I)(i:Nat)(p:List Nat)(v:I):Option I→I
 |some f=>.agg (fs.set i (f.dF p v))
 |none=>.agg fs
def uq(c:I)(i:Nat)(p:List Nat)(v:I):Option (List I)→I
 |some fs=>yW fs i p v fs[i]?
 |none=>c
theorem gZ(c v:I):c.dF [] v=v:=by cases c <;>rfl
theorem alr(c:I)(i:Nat)(p:List Nat)(v:I):c.dF (i::p) v=uq c i p v c.di:=by
 cases c <;>first | rfl | (rename_i fs;simp only[I.dF,uq,I.di];cases fs[i]? <;>rfl)
def fh(p:List Nat):Option ah→Option I
 |some (.box c)=>c.at p
 |_=>none
def gT(A:ae):I→Option I
 | .ref x=>some x
 | .ptr n p=>fh p (A.o n)
 |_=>none
theorem mh(A:ae)(x:I):cv A x=gT A x:=by
 cases x <;>first | rfl | (rename_i n p;simp only[cv,gT];cases A.o n with | none=>rfl | some y=>cases y <;>rfl)
def dJ(s:Option Nat)(x:I):Option I:=if b5 s x=true then some x else none
def gM(s:Option Nat):Option I→Option I
 |some x=>dJ s x
 |none=>none
open Classical in
noncomputable def dI(fs:List I)(f off:Nat)(y:I):Option I:=if f<fs.length∧I.sizes (fs.take f)=off then some y else none
noncomputable def qB(n:Nat)(p:List Nat)(f off:Nat):Option (List I)→Option I
 |some fs=>dI fs f off (.ptr n (p++[f]))
 |none=>none
noncomputable def pB(fs:List I)(f off:Nat):Option I→Option I
 |some v=>dI fs f off (.ref v)
 |none=>none
noncomputable def qC(f off:Nat):Option (List I)→Option I
 |some fs=>pB fs f off fs[f]?
 |none=>none
def fD:Option I→Option (List I)
 |some x=>x.di
 |none=>none
noncomputable def lH(A:ae)(f off:Nat):I→Option I
 | .ref c=>qC f off c.di
 | .ptr n p=>qB n p f off (fD (fh p (A.o n)))
 |_=>none
theorem akK(A:ae)(f off:Nat)(x:aK):bB A (.fa f off x)=lH A f off (ab A x):=by
 simp only[bB]
 generalize ab A x=y
 cases y with
 |ref c =>
  cases c <;>simp only[lH,I.di,qC]
  rename_i fs
  cases h:fs[f]? with
  |none=>simp[pB]
  |some v =>
   have hl:f<fs.length:=(List.getElem?_eq_some_iff.1 h).1
   simp only[pB,dI,hl,true_and]

 |ptr n p =>
  simp only[lH,mh,gT]
  cases fh p (A.o n) with
  |none=>simp[fD,qB]
  |some c =>
   cases c <;>simp only[fD,I.di,qB]
   simp only[dI]

 |_=>simp only[lH]
noncomputable def sM(f off:Nat)(s:Option Nat):Option (List I)→Option I
 |some fs=>match fs[f]? with
  |some v=>(dI fs f off v).bind (dJ s)
  |none=>none
 |none=>none
theorem akL(A:ae)(f off:Nat)(s:Option Nat)(x:aK):bB A (.fl f off s x)=sM f off s (ab A x).di:=by
 simp only[bB]
 generalize ab A x=y
 cases y <;>simp only[sM,I.di]
 rename_i fs
 cases h:fs[f]? with
 |none=>rfl
 |some v =>
  have hl:f<fs.length:=(List.getElem?_eq_some_iff.1 h).1
  simp only[dI,hl,true_and]
  by_cases h1:I.sizes (fs.take f)=off <;>by_cases h2:b5 s v=true <;>simp[h1,h2,dJ]
open Classical in
noncomputable def iV(k:Int)(n:Nat)(y:Option I):Option I:=if 0≤k∧k<n then y else none
noncomputable def iU(n esz:Nat)(fs:List I)(y:Option I):Option I:=if iz n esz fs=true then y else none
noncomputable def qK(n esz:Nat)(k:Int):Option (List I)→Option I
 |some fs=>iU n esz fs ((fs[k.toNat]?).map .ref)
 |none=>none
noncomputable def qJ(n esz m:Nat)(p:List Nat)(k:Int):Option (List I)→Option I
 |some fs=>iU n esz fs (some (.ptr m (p++[k.toNat])))
 |none=>none
noncomputable def ot(A:ae)(n esz:Nat)(k:Int):I→Option I
 | .ref c=>iV k n (qK n esz k c.di)
 | .ptr m p=>iV k n (qJ n esz m p k (fD (fh p (A.o m))))
 |_=>none
noncomputable def qI(A:ae)(n esz:Nat)(x:I):I→Option I
 | .int _ k=>ot A n esz k x
 |_=>none
theorem akM(A:ae)(n esz:Nat)(x i:aK):bB A (.ia n esz x i)=qI A n esz (ab A x) (ab A i):=by
 simp only[bB]
 generalize ab A x=y
 generalize ab A i=z
 cases z <;>simp only[qI]
 rename_i kk k
 cases y with
 |ref c =>
  simp only[ot,iV]
  split
  ·cases c <;>simp only[I.di,qK,iU]
  ·rfl
 |ptr m p =>
  simp only[ot,iV,mh,gT]
  split
  ·cases fh p (A.o m) with
   |none=>simp[fD,qJ]
   |some c=>cases c <;>simp only[fD,I.di,qJ,iU]
  ·rfl
 |_=>simp only[ot];split <;>rfl
open Classical in
noncomputable def ju(m:Nat)(p:List Nat)(sz lo l esz:Nat)(k:Int):Option (List I)→Option I
 |some _=>if sz=esz∧0≤k∧k<l then some (.ptr m (p++[lo+k.toNat])) else none
 |none=>none
open Classical in
noncomputable def iW(A:ae)(esz:Nat)(k:Int):I→Option I
 | .slice sz es=>if sz=esz∧0≤k∧k<es.length then (es[k.toNat]?).map .ref else none
 | .own m l=>match A.o m with
  |some (.bW _ sz es)=>if l=es.length∧sz=esz∧0≤k∧k<es.length then (es[k.toNat]?).map .ref else none
  |_=>none
 | .view m p sz lo l=>ju m p sz lo l esz k (fD (fh p (A.o m)))
 |_=>none
noncomputable def lM(A:ae)(esz:Nat)(x:I):I→Option I
 | .int _ k=>iW A esz k x
 |_=>none
theorem akN(A:ae)(esz:Nat)(x i:aK):bB A (.is esz x i)=lM A esz (ab A x) (ab A i):=by
 simp only[bB]
 generalize ab A x=y
 generalize ab A i=z
 cases z <;>simp only[lM]
 cases y <;>simp only[iW]
 ·split <;>simp_all
 ·rename_i m p sz lo l
  simp only[mh,gT]
  cases fh p (A.o m) with
  |none=>rfl
  |some c=>cases c <;>simp only[fD,I.di,ju]
noncomputable def qO(n esz:Nat)(s:Option Nat)(k:Int):Option (List I)→Option I
 |some fs=>iV k n (iU n esz fs (gM s fs[k.toNat]?))
 |none=>none
noncomputable def qP(n esz:Nat)(s:Option Nat)(x:I):I→Option I
 | .int _ k=>qO n esz s k x.di
 |_=>none
theorem akO(A:ae)(n esz:Nat)(s:Option Nat)(x i:aK):bB A (.ix n esz s x i)=qP n esz s (ab A x) (ab A i):=by
 simp only[bB]
 generalize ab A x=y
 generalize ab A i=z
 cases z <;>simp only[qP]
 rename_i kk k
 cases y <;>simp only[I.di,qO]
 case agg fs =>
  simp only[iV,iU]
  split
  ·split
   ·cases fs[k.toNat]? <;>rfl
   ·rfl
  ·rfl
 all_goals (split <;>rfl)
def kN(A:ae):I→Option I
 | .slice _ es=>some (.int .i64 es.length)
 | .nils _=>some (.int .i64 0)
 | .c0 _=>some (.int .i64 0)
 | .own m l=>match A.o m with | some (.bW _ _ es)=>if l=es.length then some (.int .i64 es.length) else none | _=>none
 | .view _ _ _ _ k=>some (.int .i64 k)
 |_=>none
theorem akQ(A:ae)(x:aK):bB A (.len x)=kN A (ab A x):=by
 simp only[bB]
 generalize ab A x=y
 cases y <;>rfl
open Classical in
noncomputable def oX(n esz:Nat)(fs:List I)(y:I):Option I:=if iz n esz fs=true∧n≤maxLen∧n≠0 then some y else none
noncomputable def rL(n esz m:Nat)(p:List Nat):Option (List I)→Option I
 |some fs=>oX n esz fs (.view m p esz 0 n)
 |none=>none
noncomputable def NP(n esz:Nat):Option (List I)→Option I
 |some fs=>oX n esz fs (.slice esz fs)
 |none=>none
noncomputable def oW(A:ae)(n esz:Nat):I→Option I
 | .ptr m p=>rL n esz m p (fD (fh p (A.o m)))
 | .ref c=>NP n esz c.di
 |_=>none
theorem akS(A:ae)(n esz:Nat)(x:aK):bB A (.va n esz x)=oW A n esz (ab A x):=by
 simp only[bB]
 generalize ab A x=y
 cases y with
 |ptr m p =>
  simp only[oW,mh,gT]
  cases fh p (A.o m) with
  |none=>simp[fD,rL]
  |some c=>cases c <;>simp only[fD,I.di,rL,oX] <;>(split <;>simp_all)
 |ref c=>cases c <;>simp only[oW,I.di,NP,oX] <;>(split <;>simp_all)
 |_=>simp only[oW]
theorem akP(A:ae)(s:Option Nat)(x:aK):bB A (.ld s x)=gM s (gT A (ab A x)):=by
 simp only[bB,mh]
 cases gT A (ab A x) <;>simp only[gM,dJ]
noncomputable def ri(A:ae)(d:Option Nat)(a b:aK)(rest:List aB):I→cL
 | .bool t=>ay rest (A.aO d (if t then ab A a else ab A b))
 |_=>.fail
noncomputable def rK(op:UnOp)(x:I):Option I:=match op,x with
  | .not,.bool b=>some (.bool !b)
  | .neg,.int k n=>some (.int k (k.wrap (0-n)))
  | .xor,.int k n=>some (.int k (pw k n))
  |_,_=>none
def vQ(i:Nat):I→Option I
 | .tuple fs=>fs[i]?
 |_=>none
def vA(k:IntKind):I→Option I
 | .int _ n=>some (.int k (k.wrap n))
 |_=>none
noncomputable def uX(A:ae)(d:Nat)(z:I)(rest:List aB):Option ah→cL
 |none=>ay rest ((A.aM d (.box z)).put d (.ptr d []))
 |some _=>.fail
noncomputable def sk(A:ae)(d:Nat)(z:I)(rest:List aB)(v:Bool):cL:=if v=true then ay rest ((A.aM d (.box z)).put d (.ptr d [])) else .fail
noncomputable def sj(A:ae)(d:Nat)(z:I)(rest:List aB):Option ah→cL
 |none=>sk A d z rest z.cq
 |some _=>.fail
open Classical in
noncomputable def dm(A:ae)(s:Option Nat)(n:Nat)(p:List Nat)(b v:I)(rest:List aB):Option I→cL
 |some old=>if yd s v old then ay rest (A.aM n (.box (b.dF p v))) else .fail
 |none=>.fail
noncomputable def uw(A:ae)(s:Option Nat)(n:Nat)(p:List Nat)(v:I)(rest:List aB):Option ah→cL
 |some (.box b)=>dm A s n p b v rest (b.at p)
 |_=>.fail
noncomputable def uv(A:ae)(s:Option Nat)(v:I)(rest:List aB):I→cL
 | .ptr n p=>uw A s n p v rest (A.o n)
 |_=>.fail
noncomputable def sq(A:ae)(d:Option Nat)(args:List I)(rest:List aB):I→cL
 | .func f caps=>.call f (args++caps) (bZ true A (args++caps)) (bZ false A (args++caps)) d rest A
 | .raw v=>.po v args d rest A
 |_=>.fail
section
variable (d:Option Nat) (rest:List aB) (A:ae)
theorem PD(op:b6):ay (⟨d,op,none⟩::rest) A=bS A d op rest:=rfl
theorem PE(op:b6)(t:Nat)(b:Bool):ay (⟨d,op,some (t,b)⟩::rest) A=gW (A.t t) b d op rest A:=rfl
theorem ahq(op:b6):gW (.bool true) true d op rest A=bS A d op rest:=by simp[gW]
theorem ahn(op:b6):gW (.bool false) false d op rest A=bS A d op rest:=by simp[gW]
theorem ahp(op:b6):gW (.bool true) false d op rest A=ay rest (A.aO d .undef):=by simp[gW]
theorem aho(op:b6):gW (.bool false) true d op rest A=ay rest (A.aO d .undef):=by simp[gW]
theorem ahr(op:b6)(b:Bool):gW .undef b d op rest A=ay rest (A.aO d .undef):=rfl
theorem ajI(x:aK):bS A d (.mv x) rest=ay rest (A.aO d (ab A x)):=rfl
theorem ajM(c a b:aK):bS A d (.pick c a b) rest=ri A d a b rest (ab A c):=by
 simp only[bS,bn,bB]
 cases ab A c <;>simp only[cP,ri]
theorem ajk(op:BinOp)(x y:aK):bS A d (.bin op x y) rest=cP (cI op (ab A x) (ab A y)) (dh d rest A):=rfl
theorem ajt(ty:cN)(neg:Bool)(x y:aK):bS A d (.eqv ty neg x y) rest=cP ((ca ty (ab A x) (ab A y)).map fun b=>.bool (if neg then !b else b)) (dh d rest A):=rfl
theorem ajR(op:UnOp)(x:aK):bS A d (.un op x) rest=cP (rK op (ab A x)) (dh d rest A):=rfl
theorem ajr(k:IntKind)(x:aK):bS A d (.conv k x) rest=cP (vA k (ab A x)) (dh d rest A):=by
 simp only[bS,bn,bB];cases ab A x <;>rfl
theorem ajA(s:Option Nat)(x:aK):bS A d (.ld s x) rest=cP (gM s (gT A (ab A x))) (dh d rest A):=by rw[←akP];rfl
theorem ajv(f off:Nat)(x:aK):bS A d (.fa f off x) rest=cP (lH A f off (ab A x)) (dh d rest A):=by rw[←akK];rfl
theorem ajw(f off:Nat)(s:Option Nat)(x:aK):bS A d (.fl f off s x) rest=cP (sM f off s (ab A x).di) (dh d rest A):=by rw[←akL];rfl
theorem ajx(n esz:Nat)(x i:aK):bS A d (.ia n esz x i) rest=cP (qI A n esz (ab A x) (ab A i)) (dh d rest A):=by rw[←akM];rfl
theorem ajy(esz:Nat)(x i:aK):bS A d (.is esz x i) rest=cP (lM A esz (ab A x) (ab A i)) (dh d rest A):=by rw[←akN];rfl
theorem ajz(n esz:Nat)(s:Option Nat)(x i:aK):bS A d (.ix n esz s x i) rest=cP (qP n esz s (ab A x) (ab A i)) (dh d rest A):=by rw[←akO];rfl
theorem ajB(x:aK):bS A d (.len x) rest=cP (kN A (ab A x)) (dh d rest A):=by rw[←akQ];rfl
theorem ajS(n esz:Nat)(x:aK):bS A d (.va n esz x) rest=cP (oW A n esz (ab A x)) (dh d rest A):=by rw[←akS];rfl
theorem ajl(zs:List I)(ps:List (Nat×aK)):bS A d (.bld zs ps) rest=cP ((eB zs (ps.map fun p=>(p.1,ab A p.2))).map .agg) (dh d rest A):=rfl
theorem aju(x:aK)(i:Nat):bS A d (.ext x i) rest=cP (vQ i (ab A x)) (dh d rest A):=by
 simp only[bS,bn,bB];cases ab A x <;>rfl
theorem ajE(f:FuncId)(caps:List aK):bS A d (.mk f caps) rest=cP (if ((caps.map (ab A)).all fun y=>y.cq)=true then some (.func f (caps.map (ab A))) else none) (dh d rest A):=rfl
theorem aji(d:Nat)(z:I):bS A (some d) (.alloc z) rest=uX A d z rest (A.o d):=by
 simp only[bS,bn];cases A.o d <;>rfl
theorem ajm(d:Nat)(x:aK):bS A (some d) (.box x) rest=sj A d (ab A x) rest (A.o d):=by
 simp only[bS,bn];cases A.o d <;>simp only[sj,sk]
theorem ajQ(s:Option Nat)(x v:aK):bS A none (.bl s x v) rest=uv A s (ab A v) rest (ab A x):=by
 simp only[bS,bn]
 cases ab A x <;>simp only[uv]
 rename_i n p
 cases A.o n with
 |none=>rfl
 |some y =>
  cases y <;>simp only[uw]
  rename_i b
  cases b.at p <;>simp only[dm]
theorem ajo(f:FuncId)(args:List aK):bS A d (.call f args) rest=.call f (args.map (ab A)) (bZ true A (args.map (ab A))) (bZ false A (args.map (ab A))) d rest A:=rfl
theorem ajp(x:aK)(args:List aK):bS A d (.eH x args) rest=sq A d (args.map (ab A)) rest (ab A x):=by
 simp only[bS,bn];cases ab A x <;>rfl
end
end Go.Abs
namespace Go.Abs
open Go Go.RowKit
mutual
/-- Closed,and as a result is told: no nil slice but as the empty one. -/
def I.done:I→Bool
 | .agg fs=>I.eQ fs
 | .slice _ es=>I.bY es
 | .ref x=>x.bt
 | .func _ caps=>I.eQ caps
 | .iface _ v=>v.bt
 | .cT ks vs=>I.bY ks&&I.bY vs
 | .bool _ | .int _ _ | .cX _ | .nilp | .dj | .dR | .raw _=>true
 |_=>false
def I.eQ:List I→Bool
 | []=>true
 |x::xs=>x.done&&I.eQ xs
end
mutual
theorem vE:∀ x:I,x.done=true→x.bt=true
 | .agg fs,h=>by simp only[I.done,I.bt] at *;exact kH fs h
 | .slice _ es,h=>by simpa only[I.done,I.bt] using h
 | .ref x,h=>by simpa only[I.done,I.bt] using h
 | .func _ caps,h=>by simp only[I.done,I.bt] at *;exact kH caps h
 | .iface _ v,h=>by simpa only[I.done,I.bt] using h
 | .bool _,_ | .int _ _,_ | .cX _,_ | .nilp,_ | .dj,_ | .dR,_ | .raw _,_=>by simp[I.bt]
 | .cT _ _,h=>by simpa only[I.done,I.bt] using h
 | .nils _,h | .c0 _,h | .ptr _ _,h | .own _ _,h | .view _ _ _ _ _,h | .mref _,h | .dx _,h | .undef,h | .c9,h | .tuple _,h=>by simp[I.done] at h
theorem kH:∀ xs:List I,I.eQ xs=true→I.bY xs=true
 | [],_=>rfl
 |x::xs,h=>by
  simp only[I.eQ,I.bY,Bool.and_eq_true] at *
  exact ⟨vE x h.1,kH xs h.2⟩
end
mutual
theorem Dn(aC:Bool)(A:ae):∀ x:I,x.done=true→bd aC A x=some x
 | .agg fs,h=>by simp only[I.done,bd] at *;rw[kJ aC A fs h];rfl
 | .slice _ es,h=>by simp only[I.done] at h;simp[bd,h]
 | .ref x,h=>by simp only[I.done] at h;simp[bd,h]
 | .func _ caps,h=>by simp only[I.done,bd] at *;rw[kJ aC A caps h];rfl
 | .iface _ v,h=>by simp only[I.done] at h;simp[bd,h]
 | .bool _,_ | .int _ _,_ | .cX _,_ | .nilp,_ | .dj,_ | .dR,_ | .raw _,_=>by simp[bd]
 | .cT _ _,h=>by simp only[I.done] at h;simp[bd,h]
 | .nils _,h | .c0 _,h | .ptr _ _,h | .own _ _,h | .view _ _ _ _ _,h | .mref _,h | .dx _,h | .undef,h | .c9,h | .tuple _,h=>by simp[I.done] at h
theorem kJ(aC:Bool)(A:ae):∀ xs:List I,I.eQ xs=true→bZ aC A xs=some xs
 | [],_=>by simp[bZ]
 |x::xs,h=>by
  simp only[I.eQ,Bool.and_eq_true] at h
  simp only[bZ,Dn aC A x h.1,kJ aC A xs h.2]
end
theorem XZ{x:I}(h:x.done=true):x.cq=true:=by cases x <;>simp_all[I.done,I.cq]
class Enc (α:Type) where
 enc:α→I
 sz:Nat
 aQ:cO
 fV:Bool
 done:∀ x,(enc x).done=true
 size:∀ x,(enc x).size=sz
 jX:∀ x,(enc x).aQ=aQ
 agg:∀ x,(enc x).isAgg=fV
open Enc (enc)
instance:Enc Int where
 enc n:=.int .i64 n
 sz:=1
 aQ:=.one
 fV:=false
 done _:=rfl
 size _:=by simp[I.size]
 jX _:=by simp[I.aQ]
 agg _:=rfl
instance:Enc Bool where
 enc b:=.bool b
 sz:=1
 aQ:=.one
 fV:=false
 done _:=rfl
 size _:=by simp[I.size]
 jX _:=by simp[I.aQ]
 agg _:=rfl
theorem jI{α:Type}[Enc α](l:List α):I.bY (l.map enc)=true:=by
 induction l with
 |nil=>rfl
 |cons x l ih=>simp only[List.map_cons,I.bY,vE _ (Enc.done x),ih,Bool.and_self]
theorem X0{α:Type}[Enc α](l:List α):I.eQ (l.map enc)=true:=by
 induction l with
 |nil=>rfl
 |cons x l ih=>simp only[List.map_cons,I.eQ,Enc.done x,ih,Bool.and_self]
theorem alv{α:Type}[Enc α](l:List α):I.sizes (l.map enc)=l.length*Enc.sz α:=by
 rw[I.iI (sz:=Enc.sz α) _ (by simp only[List.mem_map];rintro x ⟨y,_,rfl⟩;exact Enc.size y)]
 simp
theorem rC{α:Type}[Enc α](l:List α):I.cR (l.map enc)=List.replicate l.length (Enc.aQ α):=by
 induction l with
 |nil=>rfl
 |cons x l ih=>simp only[List.map_cons,I.cR,Enc.jX x,ih,List.length_cons,List.replicate_succ]
instance {α:Type} [Enc α]:Enc (List α) where
 enc l:=.slice (Enc.sz α) (l.map enc)
 sz:=1
 aQ:=.one
 fV:=false
 done l:=by simp only[I.done];exact jI l
 size _:=by simp[I.size]
 jX _:=by simp[I.aQ]
 agg _:=rfl
structure bA (n:Nat) (α:Type) where
 l:List α
 h:l.length=n
instance {n:Nat} {α:Type} [Enc α]:Enc (bA n α) where
 enc x:=.agg (x.l.map enc)
 sz:=n*Enc.sz α
 aQ:=.eg (List.replicate n (Enc.aQ α))
 fV:=true
 done x:=by simp only[I.done];exact X0 x.l
 size x:=by simp only[I.size,alv,x.h]
 jX x:=by simp only[I.aQ,rC,x.h]
 agg _:=rfl
section
variable {α:Type} [Enc α]
theorem ea(aC:Bool)(A:ae)(x:α):bd aC A (enc x)=some (enc x):=Dn aC A _ (Enc.done x)
theorem dV(x:α):(enc x).bt=true:=vE _ (Enc.done x)
theorem br(p:Nat→Bool)(x:α):(enc x).only p=true:=jS p _ (dV x)
theorem dG(x:α):(enc x).cq=true:=XZ (Enc.done x)
theorem kI(x:α):b5 none (enc x) = !(Enc.fV α):=by simp[b5,Enc.agg]
theorem fS(n:Nat)(x:α):b5 (some n) (enc x)=(Enc.fV α&&Enc.sz α==n):=by simp[b5,Enc.agg,Enc.size]
theorem iQ(x:α):(enc x).size=Enc.sz α:=Enc.size x
theorem eD(x:α):(enc x).aQ=Enc.aQ α:=Enc.jX x
theorem iw(n:Int):(enc n:I)=.int .i64 n:=rfl
theorem vH(n:Bool):(enc n:I)=.bool n:=rfl
theorem ga(l:List α):(enc l:I)=.slice (Enc.sz α) (l.map enc):=rfl
theorem mj:Enc.sz Int=1:=rfl
theorem mi(n:Nat):Enc.sz (bA n α)=n*Enc.sz α:=rfl
theorem qy:Enc.sz (List α)=1:=rfl
theorem vJ(n:Nat):Enc.fV (bA n α)=true:=rfl
theorem nj:Enc.fV (List α)=false:=rfl
theorem vL:Enc.aQ Int=.one:=rfl
theorem C3:Enc.aQ (List α)=.one:=rfl
theorem vK(n:Nat):Enc.aQ (bA n α)=.eg (List.replicate n (Enc.aQ α)):=rfl
theorem vP(n esz:Nat)(l:List α)(h:l.length=n)(h2:Enc.sz α=esz):iz n esz (l.map enc)=true:=by
 simp only[iz,List.length_map,h,BEq.rfl,Bool.true_and,List.all_eq_true,List.mem_map]
 rintro x ⟨y,_,rfl⟩
 simp[Enc.size,h2]
theorem PS(l:List α):∀ x∈l.map (enc (α:=α)),x.size=Enc.sz α:=by
 simp only[List.mem_map];rintro x ⟨y,_,rfl⟩;exact Enc.size y
end
theorem cG(n:Int)(h1:-9223372036854775808≤n)(h2:n≤9223372036854775807):IntKind.i64.wrap n=n:=IntWalk.i64_in n ⟨h1,h2⟩
theorem aw.mk{P:Program}{f:FuncId}{fn:Func}{x:aN}{rs:List aY}{args:List I}{r:I}(hf:P.funcs[f]?=some fn)(hcall:gS P f=true)(hc:(fn.body.bind (eX P fn.ntmps))=some x)
  (hrs:iP P fn.results.toList=some rs) (hn:args.length≤fn.ntmps) (h:∀ (w:World) (D:aP) (E:aX),J ⟨P,w,D,fn.ntmps,dy E,E,iA,none⟩ x (jA rs r) (ar (a6 0 args) [])):aw P f args r:=by
 obtain ⟨body,hb,hc'⟩:=Option.bind_eq_some_iff.1 hc
 exact aw.tN hf hb hcall hc' hrs hn (fun w D E=>(h w D E).sub (alS args))
end Go.Abs
namespace Go.Abs
open Go Go.RowKit
open Enc (enc)
def aj(x:I)(p q:Prop):Prop:=match x with
 | .bool t=>(t=true→p)∧(t=false→q)
 |_=>False
theorem J.bI{c:cM}{A:ae}{Q:Exit→ae→Prop}{b:aK}{x y:aN}(h:aj (ab A b) (J c x Q A) (J c y Q A)):J c (.cond b x y) Q A:=by
 generalize hb:ab A b=v at h
 unfold aj at h
 split at h
 ·exact J.cond hb h.1 h.2
 ·exact h.elim
def nQ(r:I):Option (List I)→Prop
 |some xs=>kS xs=r
 |none=>False
theorem alc(rs:List aY)(r:I)(A:ae):jA rs r .ret A=nQ r (fb A rs):=by
 simp only[jA,nQ]
 cases fb A rs <;>simp
theorem alb(rs:List aY)(r:I)(A:ae):jA rs r .normal A=nQ r (fb A rs):=by
 simp only[jA,nQ]
 cases fb A rs <;>simp
def ry(s:Option Nat)(A:ae):Option I→Option I
 |some x=>if b5 s x=true then bd true A x else none
 |none=>none
def lz:Option I→Option (List I)→Option (List I)
 |some x,some xs=>some (x::xs)
 |_,_=>none
theorem ak7(A:ae):fb A []=some []:=rfl
theorem ak8(A:ae)(t:Nat)(rs:List aY):fb A (.tmp t::rs)=lz (bd true A (A.t t)) (fb A rs):=by
 simp only[fb,uj]
 cases bd true A (A.t t) <;>cases fb A rs <;>rfl
theorem ak6(A:ae)(a:Nat)(s:Option Nat)(rs:List aY):fb A (.cell a s::rs)=lz (ry s A (gT A (A.t a))) (fb A rs):=by
 simp only[fb,uj,mh]
 cases gT A (A.t a) with
 |none=>cases fb A rs <;>rfl
 |some x =>
  by_cases h:b5 s x=true
  ·simp only[ry,if_pos h];cases bd true A x <;>cases fb A rs <;>rfl
  ·simp only[ry,if_neg h];cases fb A rs <;>rfl
def sG(aC:Bool)(A:ae):Option I→Option I
 |some x=>if x.bt=true then some (.ref x) else (dv A 9 x).map .ref
 |none=>none
theorem YN(A:ae)(n:Nat)(p:List Nat):bd true A (.ptr n p)=sG true A (fh p (A.o n)):=by
 simp only[bd,mh,gT,if_true,sG]
 cases fh p (A.o n) <;>rfl
open Classical in
noncomputable def kc(sz lo k:Nat):Option (List I)→Option I
 |some fs=>if I.bY ((fs.drop lo).take k)=true then some (.slice sz ((fs.drop lo).take k)) else none
 |none=>none
theorem Ds(A:ae)(n:Nat)(p:List Nat)(sz lo k:Nat):bd true A (.view n p sz lo k)=kc sz lo k (fD (fh p (A.o n))):=by
 simp only[bd,mh,gT,if_true]
 cases fh p (A.o n) with
 |none=>rfl
 |some c=>cases c <;>simp only[fD,I.di,kc] <;>(split <;>simp_all)
open Classical in
noncomputable def np(k:Nat):Option ah→Option I
 |some (.bW _ sz es)=>if k=es.length∧I.bY es=true then some (.slice sz es) else none
 |_=>none
theorem YM(aC:Bool)(A:ae)(n k:Nat):bd aC A (.own n k)=np k (A.o n):=by
 simp only[bd]
 cases A.o n with
 |none=>rfl
 |some y=>cases y <;>simp only[np] <;>(split <;>simp_all)
theorem YF(aC:Bool)(A:ae)(fs:List I):bd aC A (.agg fs)=(bZ aC A fs).map .agg:=by simp only[bd]
theorem YH(aC:Bool)(A:ae)(f:FuncId)(fs:List I):bd aC A (.func f fs)=(bZ aC A fs).map (.func f):=by simp only[bd]
theorem YI(aC:Bool)(A:ae)(k:IntKind)(n:Int):bd aC A (.int k n)=some (.int k n):=by simp only[bd]
theorem YG(aC:Bool)(A:ae)(n:Bool):bd aC A (.bool n)=some (.bool n):=by simp only[bd]
theorem YQ(aC:Bool)(A:ae)(n:ByteArray):bd aC A (.cX n)=some (.cX n):=by simp only[bd]
theorem YL(aC:Bool)(A:ae)(n:Nat):bd aC A (.nils n)=some (.slice n []):=by simp only[bd]
theorem YP(aC:Bool)(A:ae)(n:Nat)(es:List I):bd aC A (.slice n es)=if I.bY es=true then some (.slice n es) else none:=by simp only[bd]
theorem YO(aC:Bool)(A:ae)(x:I):bd aC A (.ref x)=if x.bt=true then some (.ref x) else none:=by simp only[bd]
theorem YT(aC:Bool)(A:ae):bZ aC A []=some []:=by simp only[bZ]
theorem YS(aC:Bool)(A:ae)(x:I)(xs:List I):bZ aC A (x::xs)=lz (bd aC A x) (bZ aC A xs):=by
 simp only[bZ];cases bd aC A x <;>cases bZ aC A xs <;>rfl
theorem UG(fs:List I):(I.agg fs).bt=I.bY fs:=by simp only[I.bt]
theorem UM(n:Nat)(fs:List I):(I.slice n fs).bt=I.bY fs:=by simp only[I.bt]
theorem UL(x:I):(I.ref x).bt=x.bt:=by simp only[I.bt]
theorem UK(k:IntKind)(n:Int):(I.int k n).bt=true:=by simp only[I.bt]
theorem UH(n:Bool):(I.bool n).bt=true:=by simp only[I.bt]
theorem UN(n:ByteArray):(I.cX n).bt=true:=by simp only[I.bt]
theorem UI(f:FuncId)(fs:List I):(I.func f fs).bt=I.bY fs:=by simp only[I.bt]
theorem UQ:I.bY []=true:=by simp only[I.bY]
theorem UO(x:I)(xs:List I):I.bY (x::xs)=(x.bt&&I.bY xs):=by simp only[I.bY]
theorem Qh(k:IntKind)(a b:Int):cI .add (.int k a) (.int k b)=some (.int k (k.wrap (a+b))):=by simp[cI]
theorem Qx(k:IntKind)(a b:Int):cI .sub (.int k a) (.int k b)=some (.int k (k.wrap (a-b))):=by simp[cI]
theorem Qp(k:IntKind)(a b:Int):cI .mul (.int k a) (.int k b)=some (.int k (k.wrap (a*b))):=by simp[cI]
theorem Qt(k:IntKind)(a b:Int):cI .quo (.int k a) (.int k b)=if b=0 then none else some (.int k (k.wrap (a.tdiv b))):=by simp[cI]
theorem Qu(k:IntKind)(a b:Int):cI .rem (.int k a) (.int k b)=if b=0 then none else some (.int k (a.tmod b)):=by simp[cI]
theorem Qi(k:IntKind)(a b:Int):cI .and (.int k a) (.int k b)=some (.int k (k.wrap ((BitVec.ofInt k.bits a &&& BitVec.ofInt k.bits b).toNat:Int))):=by simp[cI]
theorem Qs(k:IntKind)(a b:Int):cI .or (.int k a) (.int k b)=some (.int k (k.wrap ((BitVec.ofInt k.bits a ||| BitVec.ofInt k.bits b).toNat:Int))):=by simp[cI]
theorem Qy(k:IntKind)(a b:Int):cI .xor (.int k a) (.int k b)=some (.int k (k.wrap ((BitVec.ofInt k.bits a ^^^ BitVec.ofInt k.bits b).toNat:Int))):=by simp[cI]
theorem Qj(k:IntKind)(a b:Int):cI .andNot (.int k a) (.int k b)=some (.int k (k.wrap ((BitVec.ofInt k.bits a &&& ~~~ BitVec.ofInt k.bits b).toNat:Int))):=by simp[cI]
theorem Qv(k k':IntKind)(a b:Int):cI .shl (.int k a) (.int k' b)=if 0≤b then some (.int k (k.wrap (a*2^(min b.toNat k.bits)))) else none:=by simp[cI]
theorem Qw(k k':IntKind)(a b:Int):cI .shr (.int k a) (.int k' b)=if 0≤b then some (.int k (a.fdiv (2^(min b.toNat k.bits)))) else none:=by simp[cI]
theorem Qk(k:IntKind)(a b:Int):cI .eql (.int k a) (.int k b)=some (.bool (a==b)):=by simp[cI]
theorem Qq(k:IntKind)(a b:Int):cI .neq (.int k a) (.int k b)=some (.bool (a != b)):=by simp[cI]
theorem Qo(k:IntKind)(a b:Int):cI .lss (.int k a) (.int k b)=some (.bool (decide (a<b))):=by simp[cI]
theorem Qn(k:IntKind)(a b:Int):cI .leq (.int k a) (.int k b)=some (.bool (decide (a≤b))):=by simp[cI]
theorem Qm(k:IntKind)(a b:Int):cI .gtr (.int k a) (.int k b)=some (.bool (decide (b<a))):=by simp[cI]
theorem Ql(k:IntKind)(a b:Int):cI .geq (.int k a) (.int k b)=some (.bool (decide (b≤a))):=by simp[cI]
theorem o8 :
  (∀ ts os d v,(ar ts os).put d v=ar ((d,v)::ts) os)∧(∀ ts os d v,(ar ts os).aO (some d) v=ar ((d,v)::ts) os)∧(∀ (A:ae) v,A.aO none v=A) ∧
  (∀ ts os d x,(ar ts os).aM d x=ar ts ((d,x)::os))∧(∀ ts os k,(ar ts os).t k=bO ts k)∧(∀ ts os k,(ar ts os).o k=ak os k) ∧
  (∀ j v r k,bO ((j,v)::r) k=if k=j then v else bO r k)∧(∀ j v r k,ak ((j,v)::r) k=if k=j then some v else ak r k)∧(∀ k,ak [] k=none) ∧
  (∀ A k,ab A (.t k)=A.t k)∧(∀ A x,ab A (.c x)=x)∧(∀ d rest A v,dh d rest A v=ay rest (A.aO d v))∧(∀ v k,cP (some v) k=k v)∧(∀ A,ay [] A=.done A) :=
 ⟨tB,tC,aiS,lQ,aiT,aiR,aU,cw,tr,Ym,Yk,aij,Qz,PW⟩
theorem Ks :
  (∀ d rest A op,ay (⟨d,op,none⟩::rest) A=bS A d op rest)∧(∀ d rest A op t b,ay (⟨d,op,some (t,b)⟩::rest) A=gW (A.t t) b d op rest A) ∧
  (∀ d rest A op,gW (.bool true) true d op rest A=bS A d op rest)∧(∀ d rest A op,gW (.bool false) false d op rest A=bS A d op rest) ∧
  (∀ d rest A op,gW (.bool true) false d op rest A=ay rest (A.aO d .undef))∧(∀ d rest A op,gW (.bool false) true d op rest A=ay rest (A.aO d .undef))∧(∀ d rest A op b,gW .undef b d op rest A=ay rest (A.aO d .undef)) ∧
  (∀ d rest A x,bS A d (.mv x) rest=ay rest (A.aO d (ab A x)))∧(∀ d rest A c a b,bS A d (.pick c a b) rest=ri A d a b rest (ab A c)) ∧
  (∀ A d a b rest,ri A d a b rest (.bool true)=ay rest (A.aO d (ab A a)))∧(∀ A d a b rest,ri A d a b rest (.bool false)=ay rest (A.aO d (ab A b))) ∧
  (∀ d rest A op x y,bS A d (.bin op x y) rest=cP (cI op (ab A x) (ab A y)) (dh d rest A)) ∧
  (∀ d rest A ty neg x y,bS A d (.eqv ty neg x y) rest=cP ((ca ty (ab A x) (ab A y)).map fun b=>.bool (if neg then !b else b)) (dh d rest A)) ∧
  (∀ d rest A op x,bS A d (.un op x) rest=cP (rK op (ab A x)) (dh d rest A))∧(∀ b,rK .not (.bool b)=some (.bool !b))∧(∀ k n,rK .neg (.int k n)=some (.int k (k.wrap (0-n))))∧(∀ k n,rK .xor (.int k n)=some (.int k (pw k n))) ∧
  (∀ d rest A k x,bS A d (.conv k x) rest=cP (vA k (ab A x)) (dh d rest A))∧(∀ k k' n,vA k (.int k' n)=some (.int k (k.wrap n))) ∧
  (∀ d rest A s x,bS A d (.ld s x) rest=cP (gM s (gT A (ab A x))) (dh d rest A))∧(∀ d rest A f off x,bS A d (.fa f off x) rest=cP (lH A f off (ab A x)) (dh d rest A)) ∧
  (∀ d rest A f off s x,bS A d (.fl f off s x) rest=cP (sM f off s (ab A x).di) (dh d rest A))∧(∀ d rest A n esz x i,bS A d (.ia n esz x i) rest=cP (qI A n esz (ab A x) (ab A i)) (dh d rest A)) ∧
  (∀ d rest A esz x i,bS A d (.is esz x i) rest=cP (lM A esz (ab A x) (ab A i)) (dh d rest A))∧(∀ d rest A n esz s x i,bS A d (.ix n esz s x i) rest=cP (qP n esz s (ab A x) (ab A i)) (dh d rest A)) ∧
  (∀ d rest A x,bS A d (.len x) rest=cP (kN A (ab A x)) (dh d rest A))∧(∀ d rest A n esz x,bS A d (.va n esz x) rest=cP (oW A n esz (ab A x)) (dh d rest A)) ∧
  (∀ d rest A zs ps,bS A d (.bld zs ps) rest=cP ((eB zs (ps.map fun p=>(p.1,ab A p.2))).map .agg) (dh d rest A))∧(∀ d rest A x i,bS A d (.ext x i) rest=cP (vQ i (ab A x)) (dh d rest A))∧(∀ i fs,vQ i (.tuple fs)=fs[i]?) ∧
  (∀ d rest A f caps,bS A d (.mk f caps) rest=cP (if ((caps.map (ab A)).all fun y=>y.cq)=true then some (.func f (caps.map (ab A))) else none) (dh d rest A)) ∧
  (∀ rest A d z,bS A (some d) (.alloc z) rest=uX A d z rest (A.o d))∧(∀ A d z rest,uX A d z rest none=ay rest ((A.aM d (.box z)).put d (.ptr d []))) ∧
  (∀ rest A d x,bS A (some d) (.box x) rest=sj A d (ab A x) rest (A.o d))∧(∀ A d z rest,sj A d z rest none=sk A d z rest z.cq)∧(∀ A d z rest,sk A d z rest true=ay rest ((A.aM d (.box z)).put d (.ptr d []))) ∧
  (∀ rest A s x v,bS A none (.bl s x v) rest=uv A s (ab A v) rest (ab A x))∧(∀ A s v rest n p,uv A s v rest (.ptr n p)=uw A s n p v rest (A.o n))∧(∀ A s n p v rest b,uw A s n p v rest (some (.box b))=dm A s n p b v rest (b.at p)) ∧
  (∀ d rest A f args,bS A d (.call f args) rest=.call f (args.map (ab A)) (bZ true A (args.map (ab A))) (bZ false A (args.map (ab A))) d rest A) ∧
  (∀ d rest A x args,bS A d (.eH x args) rest=sq A d (args.map (ab A)) rest (ab A x))∧(∀ A d args rest f caps,sq A d args rest (.func f caps)=.call f (args++caps) (bZ true A (args++caps)) (bZ false A (args++caps)) d rest A) :=
 ⟨PD,PE,ahq,ahn,ahp,aho,ahr,ajI,ajM,fun _ _ _ _ _=>rfl,fun _ _ _ _ _=>rfl,ajk,ajt,ajR,fun _=>rfl,fun _ _=>rfl,fun _ _=>rfl,ajr,fun _ _ _=>rfl,ajA,ajv,ajw,ajx,ajy,ajz,ajB,ajS,ajl,aju,fun _ _=>rfl,ajE,
  aji,fun _ _ _ _=>rfl,ajm,fun _ _ _ _=>rfl,fun _ _ _ _=>rfl,ajQ,fun _ _ _ _ _ _=>rfl,fun _ _ _ _ _ _ _=>rfl,ajo,ajp,fun _ _ _ _ _ _=>rfl⟩
theorem ej{A:ae}{s:Option Nat}{n:Nat}{p:List Nat}{b v old:I}{rest:List aB}(h1:v.cq=true)(h2:b5 s v=true)(h3:v.aQ=old.aQ):dm A s n p b v rest (some old)=ay rest (A.aM n (.box (b.dF p v))):=by
 simp only[dm];rw[if_pos ⟨h1,h2,h3⟩]
theorem NQ :
  (∀ A x,gT A (.ref x)=some x)∧(∀ A n p,gT A (.ptr n p)=fh p (A.o n))∧(∀ p c,fh p (some (.box c))=c.at p)∧(∀ c:I,c.at []=some c)∧(∀ (c:I) i p,c.at (i::p)=jr i p c.di) ∧
  (∀ i p fs,jr i p (some fs)=oc p fs[i]?)∧(∀ p f,oc p (some f)=f.at p)∧(∀ c v:I,c.dF [] v=v)∧(∀ (c:I) i p v,c.dF (i::p) v=uq c i p v c.di)∧(∀ c i p v fs,uq c i p v (some fs)=yW fs i p v fs[i]?) ∧
  (∀ fs i p v f,yW fs i p v (some f)=.agg (fs.set i (f.dF p v)))∧(∀ fs,(I.agg fs).di=some fs)∧(∀ x:I,fD (some x)=x.di) ∧
  (∀ s x,gM s (some x)=if b5 s x=true then some x else none) ∧
  (∀ A f off c,lH A f off (.ref c)=qC f off c.di)∧(∀ A f off n p,lH A f off (.ptr n p)=qB n p f off (fD (fh p (A.o n))))∧(∀ f off fs,qC f off (some fs)=pB fs f off fs[f]?)∧(∀ fs f off v,pB fs f off (some v)=dI fs f off (.ref v)) ∧
  (∀ n p f off fs,qB n p f off (some fs)=dI fs f off (.ptr n (p++[f])))∧(∀ A n esz x kk k,qI A n esz x (.int kk k)=ot A n esz k x)∧(∀ A n esz k c,ot A n esz k (.ref c)=iV k n (qK n esz k c.di)) ∧
  (∀ A n esz k m p,ot A n esz k (.ptr m p)=iV k n (qJ n esz m p k (fD (fh p (A.o m)))))∧(∀ n esz k fs,qK n esz k (some fs)=iU n esz fs ((fs[k.toNat]?).map .ref))∧(∀ n esz m p k fs,qJ n esz m p k (some fs)=iU n esz fs (some (.ptr m (p++[k.toNat])))) ∧
  (∀ A esz x kk k,lM A esz x (.int kk k)=iW A esz k x)∧(∀ n esz s x kk k,qP n esz s x (.int kk k)=qO n esz s k x.di)∧(∀ n esz s k fs,qO n esz s k (some fs)=iV k n (iU n esz fs (gM s fs[k.toNat]?))) ∧
  (∀ A n esz m p,oW A n esz (.ptr m p)=rL n esz m p (fD (fh p (A.o m))))∧(∀ n esz m p fs,rL n esz m p (some fs)=oX n esz fs (.view m p esz 0 n)) ∧
  (∀ A sz es,kN A (.slice sz es)=some (.int .i64 es.length))∧(∀ A n,kN A (.nils n)=some (.int .i64 0))∧(∀ A n,kN A (.c0 n)=some (.int .i64 0)) :=
 ⟨fun _ _=>rfl,fun _ _ _=>rfl,fun _ _=>rfl,m4,Qc,fun _ _ _=>rfl,fun _ _=>rfl,gZ,alr,fun _ _ _ _ _=>rfl,fun _ _ _ _ _=>rfl,fun _=>rfl,fun _=>rfl,fun _ _=>rfl,fun _ _ _ _=>rfl,fun _ _ _ _ _=>rfl,fun _ _ _=>rfl,fun _ _ _ _=>rfl,
  fun _ _ _ _ _=>rfl,fun _ _ _ _ _ _=>rfl,fun _ _ _ _ _=>rfl,fun _ _ _ _ _ _=>rfl,fun _ _ _ _=>rfl,fun _ _ _ _ _ _=>rfl,fun _ _ _ _ _=>rfl,fun _ _ _ _ _ _=>rfl,fun _ _ _ _ _=>rfl,fun _ _ _ _ _=>rfl,fun _ _ _ _ _=>rfl,fun _ _ _=>rfl,fun _ _=>rfl,fun _ _=>rfl⟩
theorem Dl :
  (∀ A n p,bd true A (.ptr n p)=sG true A (fh p (A.o n)))∧(∀ A x,sG true A (some x)=if x.bt=true then some (.ref x) else (dv A 9 x).map .ref)∧(∀ A n p sz lo k,bd true A (.view n p sz lo k)=kc sz lo k (fD (fh p (A.o n)))) ∧
  (∀ A n p,bd false A (.ptr n p)=none)∧(∀ A n p sz lo k,bd false A (.view n p sz lo k)=none)∧(∀ x,lz none x=none)∧(∀ x,lz x none=none) ∧
  (∀ aC A n k,bd aC A (.own n k)=np k (A.o n))∧(∀ aC A fs,bd aC A (.agg fs)=(bZ aC A fs).map .agg)∧(∀ aC A f fs,bd aC A (.func f fs)=(bZ aC A fs).map (.func f))∧(∀ aC A k n,bd aC A (.int k n)=some (.int k n))∧(∀ aC A b,bd aC A (.bool b)=some (.bool b)) ∧
  (∀ aC A s,bd aC A (.cX s)=some (.cX s))∧(∀ aC A n,bd aC A (.nils n)=some (.slice n []))∧(∀ aC A n es,bd aC A (.slice n es)=if I.bY es=true then some (.slice n es) else none)∧(∀ aC A x,bd aC A (.ref x)=if x.bt=true then some (.ref x) else none) ∧
  (∀ aC A,bZ aC A []=some [])∧(∀ aC A x xs,bZ aC A (x::xs)=lz (bd aC A x) (bZ aC A xs))∧(∀ x xs,lz (some x) (some xs)=some (x::xs)) ∧
  (∀ fs,(I.agg fs).bt=I.bY fs)∧(∀ n fs,(I.slice n fs).bt=I.bY fs)∧(∀ x,(I.ref x).bt=x.bt)∧(∀ k n,(I.int k n).bt=true)∧(∀ n,(I.bool n).bt=true)∧(∀ n,(I.cX n).bt=true)∧(∀ f fs,(I.func f fs).bt=I.bY fs) ∧
  I.bY []=true∧(∀ x xs,I.bY (x::xs)=(x.bt&&I.bY xs)) ∧
  (∀ rs r A,jA rs r .ret A=nQ r (fb A rs))∧(∀ rs r A,jA rs r .normal A=nQ r (fb A rs))∧(∀ r xs,nQ r (some xs)=(kS xs=r))∧(∀ A,fb A []=some [])∧(∀ A t rs,fb A (.tmp t::rs)=lz (bd true A (A.t t)) (fb A rs)) ∧
  (∀ A a s rs,fb A (.cell a s::rs)=lz (ry s A (gT A (A.t a))) (fb A rs))∧(∀ s A x,ry s A (some x)=if b5 s x=true then bd true A x else none)∧(∀ x,kS [x]=x)∧(∀ x y xs,kS (x::y::xs)=.tuple (x::y::xs)) :=
 ⟨YN,fun _ _=>rfl,Ds,fun _ _ _=>rfl,fun _ _ _ _ _ _=>rfl,fun _=>rfl,fun x=>by cases x <;>rfl,YM,YF,YH,YI,YG,YQ,YL,YP,YO,YT,YS,fun _ _=>rfl,UG,UM,UL,UK,UH,UN,UI,UQ,UO,
  alc,alb,fun _ _=>rfl,ak7,ak8,ak6,fun _ _ _=>rfl,fun _=>rfl,fun _ _ _=>rfl⟩
theorem Aj :
  (∀ k a b,cI .add (.int k a) (.int k b)=some (.int k (k.wrap (a+b))))∧(∀ k a b,cI .sub (.int k a) (.int k b)=some (.int k (k.wrap (a-b))))∧(∀ k a b,cI .mul (.int k a) (.int k b)=some (.int k (k.wrap (a*b)))) ∧
  (∀ k a b,cI .quo (.int k a) (.int k b)=if b=0 then none else some (.int k (k.wrap (a.tdiv b))))∧(∀ k a b,cI .rem (.int k a) (.int k b)=if b=0 then none else some (.int k (a.tmod b))) ∧
  (∀ k a b,cI .and (.int k a) (.int k b)=some (.int k (k.wrap ((BitVec.ofInt k.bits a &&& BitVec.ofInt k.bits b).toNat:Int))))∧(∀ k a b,cI .or (.int k a) (.int k b)=some (.int k (k.wrap ((BitVec.ofInt k.bits a ||| BitVec.ofInt k.bits b).toNat:Int)))) ∧
  (∀ k a b,cI .xor (.int k a) (.int k b)=some (.int k (k.wrap ((BitVec.ofInt k.bits a ^^^ BitVec.ofInt k.bits b).toNat:Int))))∧(∀ k a b,cI .andNot (.int k a) (.int k b)=some (.int k (k.wrap ((BitVec.ofInt k.bits a &&& ~~~ BitVec.ofInt k.bits b).toNat:Int)))) ∧
  (∀ k k' a b,cI .shl (.int k a) (.int k' b)=if 0≤b then some (.int k (k.wrap (a*2^(min b.toNat k.bits)))) else none)∧(∀ k k' a b,cI .shr (.int k a) (.int k' b)=if 0≤b then some (.int k (a.fdiv (2^(min b.toNat k.bits)))) else none) ∧
  (∀ k a b,cI .eql (.int k a) (.int k b)=some (.bool (a==b)))∧(∀ k a b,cI .neq (.int k a) (.int k b)=some (.bool (a != b)))∧(∀ k a b,cI .lss (.int k a) (.int k b)=some (.bool (decide (a<b))))∧(∀ k a b,cI .leq (.int k a) (.int k b)=some (.bool (decide (a≤b)))) ∧
  (∀ k a b,cI .gtr (.int k a) (.int k b)=some (.bool (decide (b<a))))∧(∀ k a b,cI .geq (.int k a) (.int k b)=some (.bool (decide (b≤a)))) :=
 ⟨Qh,Qx,Qp,Qt,Qu,Qi,Qs,Qy,Qj,Qv,Qw,Qk,Qq,Qo,Qn,Qm,Ql⟩
end Go.Abs
namespace Go.Abs
open Go Go.RowKit
open Enc (enc)
section
variable {α:Type} [Enc α]
theorem aiA(A:ae)(l:List α):kN A (enc l)=some (.int .i64 l.length):=by simp[ga,kN]
theorem ah8{A:ae}(esz:Nat){k:Int}{l:List α}(h:0≤k∧k.toNat<l.length)(hs:Enc.sz α=esz):iW A esz k (enc l)=some (.ref (enc l[k.toNat])):=by
 simp only[ga,iW,hs,List.length_map,true_and]
 rw[if_pos ⟨h.1,by omega⟩]
 simp[h.2]
theorem ew{A:ae}(esz:Nat){k:Nat}{l:List α}(h:k<l.length)(hs:Enc.sz α=esz):iW A esz k (enc l)=some (.ref (enc l[k])):=by
 have:=ah8 (A:=A) esz (k:=(k:Int)) (l:=l) ⟨by omega,by simpa using h⟩ hs
 simpa using this
theorem bA.lt{α:Type}{n:Nat}(x:bA n α){k:Nat}(h:k<n):k<x.l.length:=by rw[x.h];exact h
theorem kM{n:Nat}(esz:Nat){k:Nat}(x:bA n α){y:Option I}(h:k<n)(hs:Enc.sz α=esz):iV (k:Int) n (iU n esz (x.l.map enc) y)=y:=by
 simp only[iV,iU,vP n esz x.l x.h hs,if_true]
 rw[if_pos ⟨by omega,by omega⟩]
theorem pG{n:Nat}(esz:Nat){k:Int}(x:bA n α){y:Option I}(h:0≤k∧k<n)(hs:Enc.sz α=esz):iV k n (iU n esz (x.l.map enc) y)=y:=by
 simp only[iV,iU,vP n esz x.l x.h hs,if_true]
 rw[if_pos h]
theorem ahu{n k:Nat}(x:bA n α)(h:k<n):(x.l.map enc)[k]?=some (enc (x.l[k]'(x.lt h))):=by
 simp[x.lt h]
theorem Qb{n k:Nat}{p:List Nat}{x:bA n α}(h:k<n):jr k p (some (x.l.map enc))=(enc (x.l[k]'(x.lt h))).at p:=by
 have hl:=x.lt h
 simp[jr,oc,hl]
theorem aj3(k:IntKind)(n:Int):gM none (some (.int k n))=some (.int k n):=by simp[gM,dJ,b5,I.isAgg]
theorem aj1(b:Bool):gM none (some (.bool b))=some (.bool b):=by simp[gM,dJ,b5,I.isAgg]
theorem aj4(z:Nat)(es:List I):gM none (some (.slice z es))=some (.slice z es):=by simp[gM,dJ,b5,I.isAgg]
theorem aj2(f:FuncId)(es:List I):gM none (some (.func f es))=some (.func f es):=by simp[gM,dJ,b5,I.isAgg]
end
mutual
/-- What every value in memory keeps to: whole numbers within their kind,slices no longer than a slice can be. -/
def I.wf:I→Prop
 | .agg fs=>I.hU fs
 | .int k n=>k.min≤n∧n≤k.max
 | .cX s=>s.size≤maxLen
 | .slice _ es=>es.length≤maxLen∧I.hU es
 | .ref c=>c.wf
 | .func _ caps=>I.hU caps
 | .iface _ v=>v.wf
 |_=>True
def I.hU:List I→Prop
 | []=>True
 |x::xs=>x.wf∧I.hU xs
end
mutual
theorem ud{w:World}{D:aP}{E:aX} : ∀ (x:I) (cs:List Value),af w D E x cs→x.wf
 | .agg fs,cs,h=>by simp only[af,I.wf] at *;exact yE fs cs h
 | .int k n,cs,h=>by simp only[af,I.wf] at *;exact h.2
 | .cX s,cs,h=>by simp only[af,I.wf] at *;exact h.2
 | .slice sz es,cs,h=>by
  simp only[af,I.wf] at *
  obtain ⟨a,cap,_,h1,h2,h3,_⟩:=h
  refine ⟨by omega,?_⟩
  rcases h3 with rfl | ⟨b,off,cs',_,_,h4⟩
  ·simp[I.hU]
  ·exact yE es cs' h4
 | .ref c,cs,h=>by simp only[af,I.wf] at *;obtain ⟨b,off,cs',_,_,h⟩:=h;exact ud c cs' h
 | .func f caps,cs,h=>by simp only[af,I.wf] at *;obtain ⟨vs,_,h⟩:=h;exact uo caps vs h
 | .iface t v,cs,h=>by simp only[af,I.wf] at *;obtain ⟨u,cs',_,_,h⟩:=h;exact ud v cs' h
 | .bool _,_,_ | .nilp,_,_ | .dj,_,_ | .dR,_,_ | .raw _,_,_ | .nils _,_,_ | .c0 _,_,_ | .ptr _ _,_,_ | .own _ _,_,_ | .view _ _ _ _ _,_,_ | .mref _,_,_ | .dx _,_,_ | .cT _ _,_,_ | .undef,_,_ | .c9,_,_ | .tuple _,_,_=>by simp[I.wf]
theorem yE{w:World}{D:aP}{E:aX} : ∀ (xs:List I) (cs:List Value),aG w D E xs cs→I.hU xs
 | [],_,_=>by simp[I.hU]
 |x::xs,cs,h=>by
  simp only[aG,I.hU] at *
  obtain ⟨c1,c2,_,h1,h2⟩:=h
  exact ⟨ud x c1 h1,yE xs c2 h2⟩
theorem uo{w:World}{D:aP}{E:aX} : ∀ (xs:List I) (vs:List Value),aF w D E xs vs→I.hU xs
 | [],_,_=>by simp[I.hU]
 |x::xs,vs,h=>by
  simp only[aF,I.hU] at *
  obtain ⟨v,rest,cs,_,_,h1,h2⟩:=h
  exact ⟨ud x cs h1,uo xs rest h2⟩
end
theorem ame{α:Type}[Enc α](l:List α):I.hU (l.map enc)↔∀ x∈l,(enc x:I).wf:=by
 induction l with
 |nil=>simp[I.hU]
 |cons x l ih=>simp[I.hU,ih]
theorem ku{α:Type}[Enc α](l:List α):(enc l:I).wf↔l.length≤maxLen∧∀ x∈l,(enc x:I).wf:=by
 simp only[ga,I.wf,List.length_map,ame]
theorem aw.wf{P:Program}{f:FuncId}{args:List I}{r:I}(hc:gS P f=true)(h:I.hU args→aw P f args r):aw P f args r :=
 ⟨hc,fun w D vs h1 h2=>(h (uo _ _ h2)).2 w D vs h1 h2⟩
theorem aw.bp{P:Program}{f:FuncId}{fn:Func}{x:aN}{rs:List aY}{args:List I}{r:I}(hf:P.funcs[f]?=some fn)(hcall:gS P f=true)(hc:(fn.body.bind (eX P fn.ntmps))=some x)
  (hrs:iP P fn.results.toList=some rs) (hn:args.length≤fn.ntmps) (h:I.hU args→∀ (w:World) (D:aP) (E:aX),J ⟨P,w,D,fn.ntmps,dy E,E,iA,none⟩ x (jA rs r) (ar (a6 0 args) [])):aw P f args r :=
 aw.wf hcall fun hw=>aw.mk hf hcall hc hrs hn (h hw)
theorem bx{α:Type}[Enc α] :
  (∀ A (l:List α),kN A (enc l)=some (.int .i64 l.length))∧(∀ n (x:bA n α),(enc x).di=some (x.l.map enc)) :=
 ⟨aiA,fun _ _=>rfl⟩
theorem lR:(∀ k n,gM none (some (.int k n))=some (.int k n))∧(∀ b,gM none (some (.bool b))=some (.bool b))∧(∀ z es,gM none (some (.slice z es))=some (.slice z es))∧(∀ f es,gM none (some (.func f es))=some (.func f es)) :=
 ⟨aj3,aj1,aj4,aj2⟩
end Go.Abs
namespace Go.Abs
open Go Go.RowKit
open Enc (enc)
def pR(neg:Bool):I→Option I
 | .nils _=>some (.bool (!neg))
 | .slice _ es=>if es.isEmpty then none else some (.bool neg)
 | .view _ _ _ _ _=>some (.bool neg)
 |_=>none
def JM:I→Option I
 | .cX s=>some (.int .i64 s.size)
 |_=>none
open Classical in
noncomputable def oS(n:Nat)(p:List Nat)(sz l0 k esz:Nat)(lo hi mx:Option I):Option (List I)→Option I
 |some fs=>if sz=esz then hE n p sz l0 k fs.length lo hi mx else none
 |none=>none
noncomputable def mW(A:ae)(esz:Nat)(lo hi mx:Option I):I→Option I
 | .slice sz es=>if sz=esz then jC sz es lo hi mx else none
 | .nils sz=>if sz=esz then jC sz [] lo hi mx else none
 | .c0 sz=>if sz=esz then jC sz [] lo hi mx else none
 | .view n p sz l0 k=>oS n p sz l0 k esz lo hi mx (fD (fh p (A.o n)))
 |_=>none
open Classical in
noncomputable def iv(esz:Nat):Option (List I)→Option I
 |some es=>if (es.all fun e=>e.size==esz)=true∧I.bY es=true then some (.slice esz es) else none
 |none=>none
open Classical in
noncomputable def qt(A:ae)(d:Option Nat)(e esz bytes n l T sz':Nat)(es:List I)(rest:List aB):I→cL
 | .slice sz ys=>if x9 e esz bytes l sz ys T sz' es then ay rest ((A.aM n (.bW e esz (es++ys))).aO d (.own n (es.length+ys.length))) else .fail
 |_=>.fail
open Classical in
noncomputable def pb(A:ae)(d:Option Nat)(e esz bytes:Nat)(z:I)(n l T:Nat)(xs:List Int)(rest:List aB):I→cL
 | .slice _ ys=>if ya e esz bytes l ys T xs z then ay rest ((A.aM n (.cU e (xs++qM ys))).aO d (.own n (xs.length+ys.length))) else .fail
 |_=>.fail
noncomputable def qp(A:ae)(d:Option Nat)(e esz bytes:Nat)(z:I)(n l:Nat)(x:I)(rest:List aB):Option ah→cL
 |some (.bW T sz' es)=>qt A d e esz bytes n l T sz' es rest x
 |some (.cU T xs)=>pb A d e esz bytes z n l T xs rest x
 |_=>.fail
noncomputable def gq(A:ae)(d:Option Nat)(e esz bytes:Nat)(z x:I)(rest:List aB):I→cL
 | .own n l=>qp A d e esz bytes z n l x rest (A.o n)
 |s=>ff A d esz bytes z s (ev A esz s) (ev A esz x) (ay rest)
section
variable (d:Option Nat) (rest:List aB) (A:ae)
noncomputable def pT(neg:Bool)(x:I):Bool→cL
 |true=>.any (fun m=>m<2) (fun m=>ay rest (A.aO d (.bool (m==0))))
 |false=>cP (pR neg x) (dh d rest A)
theorem ajK(neg:Bool)(x:aK):bS A d (.nilS neg x) rest=pT d rest A neg (ab A x) (j4 (ab A x)):=by
 simp only[bS,bn,bB]
 cases j4 (ab A x)
 ·simp only[Bool.false_eq_true,if_false,pT,pR];cases ab A x <;>rfl
 ·rfl
theorem ajC(x:aK):bS A d (.lenT x) rest=cP (JM (ab A x)) (dh d rest A):=by
 simp only[bS,bn,bB];cases ab A x <;>rfl
theorem ajP(esz:Nat)(x:aK)(lo hi mx:Option aK):bS A d (.sl esz x lo hi mx) rest=cP (mW A esz (lo.map (ab A)) (hi.map (ab A)) (mx.map (ab A)) (ab A x)) (dh d rest A):=by
 simp only[bS,bn,bB]
 cases ab A x <;>try rfl
 rename_i n p sz l0 k
 simp only[mW,mh,gT]
 cases fh p (A.o n) with
 |none=>rfl
 |some c=>cases c <;>simp only[fD,I.di,oS] <;>(first | rfl | (split <;>rfl))
theorem ajn(esz:Nat)(ps:List aK):bS A d (.bs esz ps) rest=cP (iv esz (bZ false A (ps.map (ab A)))) (dh d rest A):=by
 simp only[bS,bn,bB];cases bZ false A (ps.map (ab A)) <;>simp only[iv] <;>rfl
theorem ajj(e esz bytes:Nat)(z:I)(s x:aK):bS A d (.cS e esz bytes z s x) rest=gq A d e esz bytes z (ab A x) rest (ab A s):=by
 simp only[bS,bn]
 generalize ab A s=s'
 generalize ab A x=x'
 cases s' <;>simp only[gq]
 rename_i n l
 cases x' <;>simp only <;>generalize A.o n=z <;>(cases z with
  |none=>rfl
  |some y=>cases y <;>simp only[qp,qt,pb])
end
theorem Kt :
  (∀ d rest A neg x,bS A d (.nilS neg x) rest=pT d rest A neg (ab A x) (j4 (ab A x)))∧(∀ d rest A neg x,pT d rest A neg x false=cP (pR neg x) (dh d rest A))∧(∀ z,j4 (.nils z)=false)∧(∀ n p sz lo k,j4 (.view n p sz lo k)=false)∧(∀ d rest A x,bS A d (.lenT x) rest=cP (JM (ab A x)) (dh d rest A)) ∧
  (∀ d rest A esz x lo hi mx,bS A d (.sl esz x lo hi mx) rest=cP (mW A esz (lo.map (ab A)) (hi.map (ab A)) (mx.map (ab A)) (ab A x)) (dh d rest A)) ∧
  (∀ d rest A esz ps,bS A d (.bs esz ps) rest=cP (iv esz (bZ false A (ps.map (ab A)))) (dh d rest A))∧(∀ d rest A e esz bytes z s x,bS A d (.cS e esz bytes z s x) rest=gq A d e esz bytes z (ab A x) rest (ab A s)) ∧
  (∀ A d e esz bytes z x rest n l,gq A d e esz bytes z x rest (.own n l)=qp A d e esz bytes z n l x rest (A.o n))∧(∀ A d e esz bytes z n l x rest T sz es,qp A d e esz bytes z n l x rest (some (.bW T sz es))=qt A d e esz bytes n l T sz es rest x)∧(∀ A d e esz bytes z n l x rest T xs,qp A d e esz bytes z n l x rest (some (.cU T xs))=pb A d e esz bytes z n l T xs rest x) ∧
  (∀ neg z,pR neg (.nils z)=some (.bool (!neg))) :=
 ⟨ajK,fun _ _ _ _ _=>rfl,fun _=>rfl,fun _ _ _ _ _=>rfl,ajC,ajP,ajn,ajj,fun _ _ _ _ _ _ _ _ _ _=>rfl,fun _ _ _ _ _ _ _ _ _ _ _ _ _=>rfl,fun _ _ _ _ _ _ _ _ _ _ _ _=>rfl,fun _ _=>rfl⟩
theorem iB(p:Nat→Bool)(xs ys:List I):I.bV p (xs++ys)=(I.bV p xs&&I.bV p ys):=by
 induction xs with
 |nil=>simp[I.bV]
 |cons x xs ih=>simp[I.bV,ih,Bool.and_assoc]
section
variable {α:Type} [Enc α]
theorem jF{A:ae}{d:Option Nat}(e:Nat)(esz bytes n:Nat){l:Nat}{es ys:List α}{rest:List aB}(hl:l=es.length)(hs:Enc.sz α=esz)(hy:ys≠[])(h1:es.length+ys.length≤maxLen)(h2:(es.length+ys.length)*bytes≤140737488355328) :
  qt A d e esz bytes n l e esz (es.map enc) rest (enc ys)=ay rest ((A.aM n (.bW e esz ((es++ys).map enc))).aO d (.own n (es++ys).length)):=by
 simp only[ga,qt]
 rw[if_pos ⟨by simpa using hl,hs,rfl,rfl,by simpa using hy,by simpa using h1,by simpa using h2⟩]
 simp
theorem m8(esz:Nat){ys:List α}(hs:Enc.sz α=esz):iv esz (some (ys.map enc))=some (enc ys):=by
 have h1:((ys.map enc).all fun e:I=>e.size==esz)=true:=by
  simp only[List.all_eq_true,List.mem_map]
  rintro x ⟨y,_,rfl⟩
  simp[Enc.size,hs]
 simp only[iv,ga]
 rw[if_pos ⟨h1,jI ys⟩,hs]
theorem m9(esz:Nat)(y:α)(hs:Enc.sz α=esz):iv esz (some [enc y])=some (enc [y]):=m8 (ys:=[y]) esz hs
theorem nq(sz:Nat){T k:Nat}{es:List α}(hk:k=es.length)(hs:Enc.sz α=sz):np k (some (.bW T sz (es.map enc)))=some (enc es):=by
 simp only[np,List.length_map]
 rw[if_pos ⟨hk,jI es⟩,ga,hs]
theorem ec(p:Nat→Bool)(l:List α):I.bV p (l.map enc)=true:=by
 induction l with
 |nil=>rfl
 |cons x l ih=>simp only[List.map_cons,I.bV,br,ih,Bool.and_self]
end
theorem Jw :
  (∀ n:Int,iv 1 (some [.int .i64 n])=some (enc [n]))∧(∀ (T:Nat) (es:List Int),np es.length (some (.bW T 1 (es.map enc)))=some (enc es)) :=
 ⟨fun n=>m9 1 n rfl,fun _ _=>nq 1 rfl rfl⟩
theorem az.PJ{A:ae}{d n T sz z:Nat}(hd:A.t d=.nils z)(hn:A.o n=none)(hlt:n<1000000):az A ((A.aM n (.bW T sz [])).put d (.own n 0)):=by
 rintro c a w ⟨D,E,h⟩
 have av:E n=none:=by have:=h.bX n;rw[hn] at this;exact this
 have hl:dM w D E w D (fun m=>if m=n then some (.rw none 0) else E m):=by
  have eh:∀ {m:Nat} {e:bU},E m=some e→(if m=n then some (.rw none 0) else E m)=some e:=fun {m e} he=>by
   have:m≠n:=fun e=>by rw[e,av] at he;cases he
   rw[if_neg this];exact he
  refine ⟨fun _ _ h=>h,fun _ _ _ _ h=>h,fun m b aQ he=>eh he,fun m aE l he =>?_,fun m b he=>eh he,fun m b he=>eh he,fun _ _ _ _ h=>h⟩
  ·have:m≠n:=fun e=>by rw[e,av] at he;cases he
   exact ⟨aE,l,by simp only[if_neg this];exact he,Nat.le_refl _,fun _=>rfl⟩
 refine ⟨D,fun m=>if m=n then some (.rw none 0) else E m,h.sz,h.eM,fun t =>?_,h.dO,h.c6,h.de,fun m =>?_,fun m m' e e' b h1 h2 h3 h4 =>?_,fun m e hm =>?_,h.eU,h.cK,h.eW,h.fE⟩
 ·simp only[ae.put,ae.aM]
  by_cases ht:t=d
  ·subst ht
   simp only[if_true]
   have hv:=h.dY t
   rw[hd] at hv
   obtain ⟨cs,q1,q2⟩:=hv
   simp only[af] at q2
   subst q2
   refine ⟨[.slice none 0 0],by simpa[bK,I.isAgg] using q1,?_⟩
   simp only[af,if_true]
   exact ⟨none,0,rfl,Nat.le_refl _,⟨_,_,_,rfl⟩,fun _=>trivial⟩
  ·simp only[if_neg ht]
   exact aW.bL hl (h.dY t)
 ·simp only[ae.put,ae.aM]
  by_cases hm:m=n
  ·subst hm
   simp only[if_true,dc]
   exact ⟨none,by simp,by simp,trivial⟩
  ·simp only[if_neg hm]
   exact (h.bX m).bL hl (by simp only[if_neg hm]) fun _ _ _ _=>⟨rfl,fun _ ho=>ho⟩
 ·by_cases hm:m=n <;>by_cases hm':m'=n
  ·rw[hm,hm']
  ·simp only[if_pos hm,Option.some.injEq] at h1;subst h1;simp[bU.aE] at h3
  ·simp only[if_pos hm',Option.some.injEq] at h2;subst h2;simp[bU.aE] at h4
  ·simp only[if_neg hm] at h1;simp only[if_neg hm'] at h2;exact h.cQ m m' e e' b h1 h2 h3 h4
 ·have hmn:m≠n:=fun e=>by rw[e,h.kd (.inr hlt)] at hm;cases hm
  simp only[if_neg hmn]
  exact h.dQ m e hm
theorem az.ln{ts:List (Nat×I)}{os:List (Nat×ah)}(d n T sz z:Nat)(hd:bO ts d=.nils z)(hn:ak os n=none){B:ae}(h:az (ar ((d,.own n 0)::ts) ((n,.bW T sz [])::os)) B)(hlt:n<1000000:=by decide):az (ar ts os) B :=
 ((az.PJ (A:=ar ts os) (T:=T) (sz:=sz) hd hn hlt).trans (by rw[lQ,tB];exact az.refl _)).trans h
def bA.g{n:Nat}(x:bA n Int)(k:Nat):Int:=x.l.getD k 0
theorem bA.sX{n k:Nat}(x:bA n Int)(h:k<n):x.l[k]'(x.lt h)=x.g k:=by simp[bA.g,x.lt h]
theorem jH{n k:Nat}{p:List Nat}(x:bA n Int)(h:k<n):jr k p (some (x.l.map enc))=(I.int .i64 (x.g k)).at p:=by
 rw[Qb h,x.sX h];rfl
theorem sZ{n k:Nat}(x:bA n Int)(h:k<n):(x.l.map (enc (α:=Int)))[k]?=some (I.int .i64 (x.g k)):=by
 rw[ahu x h,x.sX h];rfl
theorem Kj:(∀ k n,b5 none (.int k n)=true)∧(∀ b,b5 none (.bool b)=true)∧(∀ z es,b5 none (.slice z es)=true)∧(∀ f es,b5 none (.func f es)=true)∧(∀ z,b5 none (.nils z)=true)∧(∀ n k,b5 none (.own n k)=true) :=
 ⟨fun _ _=>rfl,fun _=>rfl,fun _ _=>rfl,fun _ _=>rfl,fun _=>rfl,fun _ _=>rfl⟩
theorem lq{p:Nat→Bool}{n:Nat}(h:∀ k,k<n→p k=true):(List.range n).all p=true:=by
 simp only[List.all_eq_true,List.mem_range];exact h
theorem j6{p:Nat→Bool}{n:Nat}(i:Nat)(hi:i<n)(h:p i=false):(List.range n).all p=false:=by
 simp only[List.all_eq_false,List.mem_range];exact ⟨i,hi,by simp[h]⟩
theorem U:(type_of% @o8)∧(type_of% @Ks)∧(type_of% @Kt)∧(type_of% @Jw)∧(type_of% @Kj)∧(type_of% @NQ)∧(type_of% @Dl)∧(type_of% @Aj)∧(∀ n:Int,(enc n:I)=.int .i64 n)∧(∀ n:Bool,(enc n:I)=.bool n) ∧
  (∀ {α β:Type} (f:α→β) (x:α) (xs:List α),List.map f (x::xs)=f x::List.map f xs)∧(∀ {α β:Type} (f:α→β),List.map f []=[])∧(∀ {α:Type} (xs:List α),[]++xs=xs)∧(∀ n:Nat,(n:Int).toNat=n)∧(∀ {α β:Type} (f:α→β) (x:α),Option.map f (some x)=some (f x)) ∧
  (∀ n:Nat,0≤(n:Int))∧((!true)=false)∧((!false)=true)∧((false=true)=False)∧((true=false)=False) :=
 ⟨@o8,@Ks,@Kt,@Jw,@Kj,@NQ,@Dl,@Aj,iw,vH,fun _ _ _=>rfl,fun _=>rfl,fun _=>rfl,fun _=>rfl,fun _ _=>rfl,fun n=>Int.natCast_nonneg n,rfl,rfl,by simp,by simp⟩
end Go.Abs
namespace Go.Abs
open Go Go.RowKit
open Enc (enc)
theorem kA.bp{P:Program}{f:FuncId}{fn:Func}{x:aN}{rs:List aY}{Y:Value→List I→List (Nat×ah)→cV→Prop}{args:List I}{os:List (Nat×ah)}{post:cV}(hf:P.funcs[f]?=some fn)(hcall:gS P f=true)(hc:(fn.body.bind (eX P fn.ntmps))=some x)
  (hrs:iP P fn.results.toList=some rs) (hn:args.length≤fn.ntmps) (hn2:fn.ntmps≤1000000) (hos:∀ m,aq os m=true→1000000≤m) (h:I.hU args→∀ (w:World) (D:aP) (E:aX),J ⟨P,w,D,fn.ntmps,dy E,E,Y,none⟩ x (nP rs post) (ar (a6 0 args) os)):kA P f Y args os post:=by
 obtain ⟨body,hb,hc'⟩:=Option.bind_eq_some_iff.1 hc
 refine ⟨hcall,fun w D E vs hy hD ho hv =>?_⟩
 exact (kA.tN hf hb hcall hc' hrs hn (fun m hm=>⟨Nat.le_trans hn2 (hos m hm),hos m hm⟩) (fun w D E=>(h (uo _ _ hv) w D E).sub (NA args os))).2 w D E vs hy hD ho hv
theorem cH.bp{P:Program}{f:FuncId}{fn:Func}{x:aN}{rs:List aY}{args:List I}{os:List (Nat×ah)}{post:cV}(hf:P.funcs[f]?=some fn)(hcall:gS P f=true)(hc:(fn.body.bind (eX P fn.ntmps))=some x)
  (hrs:iP P fn.results.toList=some rs) (hn:args.length≤fn.ntmps) (hn2:fn.ntmps≤1000000) (hos:∀ m,aq os m=true→1000000≤m) (h:I.hU args→∀ (w:World) (D:aP) (E:aX),J ⟨P,w,D,fn.ntmps,dy E,E,iA,none⟩ x (nP rs post) (ar (a6 0 args) os)):cH P f args os post :=
 cH.J6 (kA.bp hf hcall hc hrs hn hn2 hos h)
theorem qG{A:ae} : ∀ n x,ak [] n=some x→A.o n=some x∧x.only (aq [])=true∧x.eR=true:=fun n x h=>by simp[ak] at h
theorem nu{A:ae}{k:Nat}{c:I}(h1:A.o k=some (.box c))(h2:∀ p,c.only p=true):∀ n x,ak [(k,.box c)] n=some x→A.o n=some x∧x.only (aq [(k,.box c)])=true∧x.eR=true:=fun n x h=>by
 simp only[ak] at h
 split at h
 ·rename_i hn
  subst hn
  simp only[Option.some.injEq] at h
  subst h
  exact ⟨h1,h2 _,rfl⟩
 ·cases h
theorem eC.nil{aC:Bool}{ρ:List (Nat×Nat)}{os0:List (Nat×ah)}{r:I}(h1:∀ p,r.only p=true)(h2:aC=true→r.cY=true):eC aC ρ [] os0 r [] :=
 ⟨fun m x h=>by simp[ak] at h,fun m m' h=>by simp[aq,ak] at h,fun m h=>by simp[aq,ak] at h,fun m h=>by simp[aq,ak] at h,h1 _,h2⟩
theorem dw{k:Nat}{x:ah}{m:Nat} : aq [(k,x)] m=true↔m=k:=by
 simp only[aq,ak];split <;>simp_all
theorem eC.tI{aC:Bool}{k d:Nat}{os0:List (Nat×ah)}{r c:I}(h1:∀ p,c.only p=true)(h2:aC=true→c.cY=true)(h3:r.only (aq [(k,.box c)])=true)(h4:aC=true→r.cY=true)(h5:ak os0 d=none)(h6:d<1000000):eC aC [(k,d)] [] os0 r [(k,.box c)]:=by
 refine ⟨fun m x h =>?_,fun m m' h h' _ =>?_,fun m h=>by simp[aq,ak] at h,fun m h _ =>?_,h3,h4⟩
 ·simp only[ak] at h
  split at h
  ·simp only[Option.some.injEq] at h;subst h;exact ⟨h1 _,rfl,h2⟩
  ·cases h
 ·rw[dw.1 h,dw.1 h']
 ·rw[dw.1 h];simp[bJ,h5,h6]
theorem eC.one{aC:Bool}{k d:Nat}{x:ah}{os0:List (Nat×ah)}{r c:I}(h1:∀ p,c.only p=true)(h2:aC=true→c.cY=true)(h3:r.only (aq [(k,.box c)])=true)(h4:aC=true→r.cY=true):eC aC [(k,d)] [(k,x)] os0 r [(k,.box c)]:=by
 refine ⟨fun m x h =>?_,fun m m' h h' _ =>?_,fun m h =>?_,fun m h h' =>?_,h3,h4⟩
 ·simp only[ak] at h
  split at h
  ·simp only[Option.some.injEq] at h;subst h;exact ⟨h1 _,rfl,h2⟩
  ·cases h
 ·rw[dw.1 h,dw.1 h']
 ·rw[dw.1 h];exact dw.2 rfl
 ·rw[dw.1 h] at h'
  have:aq [(k,x)] k=true:=dw.2 rfl
  rw[this] at h';cases h'
theorem gm.nil{ρ:List (Nat×Nat)}{os0:List (Nat×ah)} : gm ρ [] os0:=⟨fun m x h=>by simp[ak] at h,fun m m' h=>by simp[aq,ak] at h⟩
mutual
theorem rr(ρ:Nat→Nat):∀ x:I,x.bt=true→x.aR ρ=x
 | .agg fs,h=>by simp only[I.aR,I.bt] at *;rw[oL ρ fs h]
 | .slice _ es,h=>by simp only[I.aR,I.bt] at *;rw[oL ρ es h]
 | .ref x,h=>by simp only[I.aR,I.bt] at *;rw[rr ρ x h]
 | .func _ caps,h=>by simp only[I.aR,I.bt] at *;rw[oL ρ caps h]
 | .iface _ v,h=>by simp only[I.aR,I.bt] at *;rw[rr ρ v h]
 | .bool _,_ | .int _ _,_ | .cX _,_ | .nilp,_ | .dj,_ | .dR,_ | .raw _,_ | .nils _,_ | .c0 _,_=>by simp only[I.aR]
 | .cT ks vs,h=>by simp only[I.aR,I.bt,Bool.and_eq_true] at *;rw[oL ρ ks h.1,oL ρ vs h.2]
 | .ptr _ _,h | .own _ _,h | .view _ _ _ _ _,h | .mref _,h | .dx _,h | .undef,h | .c9,h | .tuple _,h=>by simp[I.bt] at h
theorem oL(ρ:Nat→Nat):∀ xs:List I,I.bY xs=true→I.cW ρ xs=xs
 | [],_=>rfl
 |x::xs,h=>by
  simp only[I.bY,Bool.and_eq_true] at h
  simp only[I.cW,rr ρ x h.1,oL ρ xs h.2]
end
theorem jz :
  (∀ (k:IntKind) n (ρ:Nat→Nat),(I.int k n).aR ρ=.int k n)∧(∀ (b:Bool) (ρ:Nat→Nat),(I.bool b).aR ρ=.bool b)∧(∀ n p (ρ:Nat→Nat),(I.ptr n p).aR ρ=.ptr (ρ n) p) ∧
  (∀ n p sz lo k (ρ:Nat→Nat),(I.view n p sz lo k).aR ρ=.view (ρ n) p sz lo k)∧(∀ fs (ρ:Nat→Nat),(I.agg fs).aR ρ=.agg (I.cW ρ fs))∧(∀ fs (ρ:Nat→Nat),(I.tuple fs).aR ρ=.tuple (I.cW ρ fs))∧(∀ f fs (ρ:Nat→Nat),(I.func f fs).aR ρ=.func f (I.cW ρ fs)) ∧
  (∀ ρ:Nat→Nat,I.cW ρ []=[])∧(∀ (ρ:Nat→Nat) x xs,I.cW ρ (x::xs)=x.aR ρ::I.cW ρ xs)∧(∀ (ρ:Nat→Nat) (x:I),(ah.box x).aR ρ=.box (x.aR ρ)) ∧
  (∀ (z:Nat) (ρ:Nat→Nat),(I.nils z).aR ρ=.nils z)∧(∀ (z:Nat) (ρ:Nat→Nat),(I.c0 z).aR ρ=.c0 z) ∧
  (∀ n,bJ [] n=n)∧(∀ a b r n,bJ ((a,b)::r) n=if n=a then b else bJ r n)∧(∀ ρ,dN ρ []=[])∧(∀ ρ k x os,dN ρ ((k,x)::os)=(bJ ρ k,x.aR (bJ ρ))::dN ρ os) :=
 ⟨fun _ _ _=>by simp only[I.aR],fun _ _=>by simp only[I.aR],fun _ _ _=>by simp only[I.aR],fun _ _ _ _ _ _=>by simp only[I.aR],fun _ _=>by simp only[I.aR],fun _ _=>by simp only[I.aR],fun _ _ _=>by simp only[I.aR],
  fun _=>rfl,fun _ _ _=>by simp only[I.cW],fun _ _=>rfl,fun _ _=>by simp only[I.aR],fun _ _=>by simp only[I.aR],fun _=>rfl,fun _ _ _ _=>rfl,fun _=>rfl,fun _ _ _ _=>rfl⟩
section
variable {α:Type} [Enc α]
theorem kb(ρ:Nat→Nat)(x:α):(enc x).aR ρ=enc x:=rr ρ _ (dV x)
theorem jg(ρ:Nat→Nat)(l:List α):I.cW ρ (l.map enc)=l.map enc:=oL ρ _ (jI l)
class n8 (α:Type) [Enc α]:Prop where
 cY:∀ x:α,(enc x).cY=true
theorem C2[n8 α](x:α):(enc x).cY=true:=n8.cY x
theorem xQ[n8 α](l:List α):I.iZ (l.map enc)=true:=by
 induction l with
 |nil=>rfl
 |cons x l ih=>simp only[List.map_cons,I.iZ,C2,ih,Bool.and_self]
instance:n8 Int:=⟨fun _=>rfl⟩
instance {n:Nat} [n8 α]:n8 (bA n α):=⟨fun x=>by simp only[enc,I.cY];exact xQ x.l⟩
theorem qb(A:ae)(esz:Nat)(l:List α)(hs:Enc.sz α=esz):ev A esz (enc l)=some (l.map enc):=by
 simp only[ga,ev,hs,if_true]
theorem uz(l:List α):j4 (enc l)=l.isEmpty:=by
 simp only[ga,j4];cases l <;>rfl
theorem J1(neg:Bool)(l:List α)(h:l≠[]):pR neg (enc l)=some (.bool neg):=by
 simp only[ga,pR]
 cases l with
 |nil=>exact absurd rfl h
 |cons=>rfl
section
variable {P:Program} {Y:Value→List I→List (Nat×ah)→cV→Prop} {K:ae→Prop} {A:ae} {rest:List aB} {d:Nat} {e esz bytes:Nat} {q:Nat}
theorem bj.oa(z:α){l:List α}(hs:Enc.sz α=esz)(hl:l≠[])(hf:A.o d=none)(hb:l.length*bytes≤140737488355328)(hml:l.length≤maxLen)
  (h:∀ m,bj P Y false K (ay rest ((A.aM d (.box (.agg ((l++List.replicate m z).map enc)))).aO (some d) (.view d [] esz 0 l.length)))):bj P Y false K (gq A (some d) e esz bytes (enc z) (enc l) rest (.c0 q)):=by
 have hne:l.map (enc (α:=α))≠[]:=by simpa using hl
 have h1:ev A esz (.c0 q)=some []:=rfl
 simp only[gq,h1,qb A esz l hs,ff,if_neg hne,gp,hf,List.length_nil,Nat.zero_add,List.length_map,if_pos (And.intro hb hml),List.nil_append]
 refine .any rfl fun m _ =>?_
 have:=h m
 simp only[List.map_append,List.map_replicate] at this
 exact this
theorem z6(z:I)(hs:Enc.sz α=esz):gq A (some d) e esz bytes z (enc ([]:List α)) rest (.c0 q)=ay rest (A.aO (some d) (.c0 q)):=by
 have h1:ev A esz (.c0 q)=some []:=rfl
 simp only[gq,h1,qb A esz ([]:List α) hs,ff,List.map_nil,if_true]
theorem ajq(esz:Nat)(z:I)(x:aK)(rest:List aB)(A:ae):bS A none (.js esz z x) rest=nd A esz z (ay rest) (ab A x):=rfl
theorem alu(z:α)(k:Nat):I.cR (List.replicate k (enc z))=List.replicate k (Enc.aQ α):=by
 have:List.replicate k (enc z)=(List.replicate k z).map (enc (α:=α)):=by simp
 rw[this,rC];simp
theorem vx(z:α){n lo k:Nat}{xs:List α}(ho:A.o n=some (.box (.agg (xs.map enc))))(hk:lo+k≤xs.length) :
  nd A esz (enc z) (ay rest) (.view n [] esz lo k)=ay rest (A.aM n (.box (.agg ((xs.take lo++(List.replicate k z++xs.drop (lo+k))).map enc)))):=by
 have h1:I.cR (List.replicate k (enc z))=I.cR (((xs.map (enc (α:=α))).drop lo).take k):=by
  rw[alu,←List.map_drop,←List.map_take,rC,List.length_take,List.length_drop]
  congr 1;omega
 have h2:(I.agg (xs.map (enc (α:=α)))).at []=some (.agg (xs.map enc)):=rfl
 simp only[nd,ho,h2]
 rw[if_pos ⟨rfl,h1⟩]
 simp only[iH,gZ,List.map_append,List.map_take,List.map_drop,List.map_replicate,List.length_replicate]
theorem y5{n:Nat}{p:List Nat}{sz k total i:Nat}(h:i≤total)(h0:0<total):hE n p sz 0 k total none (some (.int .i64 i)) none=some (.view n p sz 0 i):=by
 simp only[hE,ib]
 rw[if_pos ⟨by omega,by omega,by omega⟩,if_neg (by omega)]
 simp
theorem y6{n:Nat}{p:List Nat}{sz k total i:Nat}(h:i≤k)(hk:k≤total)(h0:i<total):hE n p sz 0 k total (some (.int .i64 i)) none none=some (.view n p sz i (k-i)):=by
 simp only[hE,ib]
 rw[if_pos ⟨by omega,by omega,by omega⟩,if_neg (by omega)]
 simp
theorem xL{m:Nat}{p:List Nat}{sz lo l j:Nat}{fs:List I}(h:j<l):ju m p sz lo l sz (j:Int) (some fs)=some (.ptr m (p++[lo+j])):=by
 simp only[ju,true_and]
 rw[if_pos ⟨by omega,by omega⟩]
 simp
theorem sH{sz k:Nat}{xs:List α}(hs:Enc.sz α=sz):kc sz 0 k (some (xs.map enc))=some (enc (xs.take k)):=by
 have h:((xs.map (enc (α:=α))).drop 0).take k=(xs.take k).map enc:=by rw[List.drop_zero,List.map_take]
 simp only[kc,h]
 rw[if_pos (jI _),ga,hs]
end
end
theorem ah9(A:ae)(esz m:Nat)(p:List Nat)(sz lo l:Nat)(k:Int):iW A esz k (.view m p sz lo l)=ju m p sz lo l esz k (fD (fh p (A.o m))):=rfl
theorem aiB(A:ae)(m:Nat)(p:List Nat)(sz lo l:Nat):kN A (.view m p sz lo l)=some (.int .i64 l):=rfl
theorem alx(A:ae)(esz:Nat)(lo hi mx:Option I)(n:Nat)(p:List Nat)(l0 k:Nat):mW A esz lo hi mx (.view n p esz l0 k)=oS n p esz l0 k esz lo hi mx (fD (fh p (A.o n))):=rfl
theorem aly(n:Nat)(p:List Nat)(sz l0 k:Nat)(lo hi mx:Option I)(fs:List I):oS n p sz l0 k sz lo hi mx (some fs)=hE n p sz l0 k fs.length lo hi mx:=by simp[oS]
theorem df :
  (∀ A esz m p sz lo l k,iW A esz k (.view m p sz lo l)=ju m p sz lo l esz k (fD (fh p (A.o m))))∧(∀ A m p sz lo l,kN A (.view m p sz lo l)=some (.int .i64 l)) ∧
  (∀ A esz lo hi mx n p l0 k,mW A esz lo hi mx (.view n p esz l0 k)=oS n p esz l0 k esz lo hi mx (fD (fh p (A.o n))))∧(∀ n p sz l0 k lo hi mx fs,oS n p sz l0 k sz lo hi mx (some fs)=hE n p sz l0 k fs.length lo hi mx) ∧
  (∀ esz z x rest A,bS A none (.js esz z x) rest=nd A esz z (ay rest) (ab A x))∧(∀ rest A d esz,bS A d (.bs0 esz) rest=ay rest (A.aO d (.c0 esz))) :=
 ⟨ah9,aiB,alx,aly,ajq,fun _ _ _ _=>rfl⟩
theorem fP(rs:List aY)(post:cV)(A:ae):nP rs post .ret A=lh rs post A:=rfl
theorem lX(rs:List aY)(post:cV)(A:ae):nP rs post .normal A=lh rs post A:=rfl
theorem az.gU{ts:List (Nat×I)}{os0:List (Nat×ah)}(ns:List Nat)(d:Nat){x y:I}(hd:bO ts d=x)(h:bd true (ar ts (fW ns os0)) x=some y)(ho:bg (fun n => !ns.contains n) (cE ns os0)) :
  az (ar ts os0) (ar ((d,y)::fG ns ts) (cE ns os0)):=by
 rintro c a w ⟨D,E,hs⟩
 obtain ⟨D1,E1,hs1,hw⟩:=hs.DC ns ho
 have hu:ee (ar ts (fW ns os0)) (ar ts os0):=fun n z hz=>by
  simp only[ar,lP] at hz ⊢
  split at hz
  ·exact hz
  ·cases hz
 have hx:x.cq=true:=by cases x <;>first | rfl | simp[bd] at h
 have hv:=hs.dY d
 simp only[ar] at hv
 rw[hd] at hv
 have h1:aF w D E [x] [a.tmps.getD d undef]:=mR [x] _ (.cons hv .nil) (by intro z hz;simp only[List.mem_singleton] at hz;subst hz;exact hx)
 have h2:=mu (E':=E1) hs hu hw [x] [y] _ h1 (by simp only[bZ,h])
 have h3:aW w D1 E1 y (a.tmps.getD d undef):=by
  simp only[aF] at h2
  obtain ⟨v',rest,cs,e,k1,k2,_⟩:=h2
  simp only[List.cons.injEq] at e
  obtain ⟨e1,_⟩:=e
  rw[e1]
  exact mD k1 k2
 refine ⟨D1,E1,hs1.sz,hs1.eM,fun t =>?_,hs1.dO,hs1.c6,hs1.de,hs1.bX,hs1.cQ,hs1.dQ,hs1.eU,hs1.cK,hs1.eW,hs1.fE⟩
 simp only[ar,bO]
 split
 ·rename_i ht;subst ht;exact h3
 ·exact hs1.dY t
theorem az.oj{ts ts':List (Nat×I)}{os0 os':List (Nat×ah)}(ns:List Nat)(d:Nat){x y:I}(hd:bO ts d=x)(h:bd true (ar ts (fW ns os0)) x=some y)(ho:bg (fun n => !ns.contains n) (cE ns os0))
  (h1:aT ((d,y)::fG ns ts) ts') (h2:bN (cE ns os0) os') (h3:bM (aq os') ts') (h4:bg (aq os') os'):az (ar ts os0) (ar ts' os') :=
 (az.gU ns d hd h ho).trans (az.bR h1 h2 h3 h4)
theorem J.nX{c:cM}{Q:Exit→ae→Prop}{A:ae}{x:aN}(T:ae)(h1:J c x (al (fun B=>az B T) fun _ _=>False) A)(h2:∀ B,az B T→Q .normal B):J c x Q A :=
 h1.mono fun e B hq=>by
  cases e <;>simp only[al] at hq <;>first
   |exact h2 B hq
   |exact hq.elim
theorem yD{w:World}{D:aP}{E:aX}{p:List Nat}{c x y:I}{cs:List Value}(hr:af w D E c cs)(h:c.at p=some x)(hxy:∀ ds,af w D E x ds→af w D E y ds)(hs:y.aQ=x.aQ):af w D E (c.dF p y) cs∧(c.dF p y).aQ=c.aQ:=by
 obtain ⟨off,c1,c2,c3,h1,rfl,h2,h3⟩:=yC p c x cs hr h
 obtain ⟨off',k1,k2,k3,k4⟩:=uc p c x y _ c2 hr h (hxy c2 h3) hs
 rw[h1,Option.some.injEq] at k1
 subst k1
 refine ⟨?_,k4⟩
 have e:(c1++c2++c3).take off++c2++(c1++c2++c3).drop (off+c2.length)=c1++c2++c3:=by
  rw[List.append_assoc c1 c2 c3,←h2,List.take_left,List.drop_length_add_append,List.drop_left,List.append_assoc]
 rw[←e];exact k3
theorem az.PK{A:ae}{m n T sz z:Nat}{p:List Nat}{b:I}(hm:A.o m=some (.box b))(hp:b.at p=some (.nils z))(hn:A.o n=none)(hlt:n<1000000):az A ((A.aM n (.bW T sz [])).aM m (.box (b.dF p (.own n 0)))):=by
 rintro c a w ⟨D,E,h⟩
 have av:E n=none:=by have:=h.bX n;rw[hn] at this;exact this
 have hmn:m≠n:=fun e=>by rw[e,hn] at hm;cases hm
 have hl:dM w D E w D (fun m=>if m=n then some (.rw none 0) else E m):=by
  have eh:∀ {m:Nat} {e:bU},E m=some e→(if m=n then some (.rw none 0) else E m)=some e:=fun {m e} he=>by
   have:m≠n:=fun e=>by rw[e,av] at he;cases he
   rw[if_neg this];exact he
  refine ⟨fun _ _ h=>h,fun _ _ _ _ h=>h,fun m b aQ he=>eh he,fun m aE l he =>?_,fun m b he=>eh he,fun m b he=>eh he,fun _ _ _ _ h=>h⟩
  ·have:m≠n:=fun e=>by rw[e,av] at he;cases he
   exact ⟨aE,l,by simp only[if_neg this];exact he,Nat.le_refl _,fun _=>rfl⟩
 refine ⟨D,fun m=>if m=n then some (.rw none 0) else E m,h.sz,h.eM,fun t=>aW.bL hl (h.dY t),h.dO,h.c6,h.de,fun k =>?_,fun m m' e e' b h1 h2 h3 h4 =>?_,fun m e hm =>?_,h.eU,h.cK,h.eW,h.fE⟩
 ·simp only[ae.aM]
  by_cases hk:k=m
  ·subst hk
   have ho:=h.bX k
   rw[hm] at ho
   obtain ⟨b',cs,T',h1,h2,h3,h4,h5⟩:=ho
   obtain ⟨q1,q2⟩:=yD (y:=.own n 0) (af.bL hl _ _ h4) hp (fun ds hd=>by
    simp only[af] at hd
    subst hd
    simp only[af,if_true]
    exact ⟨none,0,rfl,Nat.le_refl _,⟨_,_,_,rfl⟩,fun _=>trivial⟩) rfl
   simp only[if_true,dc]
   exact ⟨b',cs,T',by rw[q2];simp only[if_neg hmn];exact h1,h2,h3,q1,h5⟩
  ·simp only[if_neg hk]
   by_cases hkn:k=n
   ·subst hkn
    simp only[if_true,dc]
    exact ⟨none,by simp,by simp,trivial⟩
   ·simp only[if_neg hkn]
    exact (h.bX k).bL hl (by simp only[if_neg hkn]) fun _ _ _ _=>⟨rfl,fun _ ho=>ho⟩
 ·by_cases hm:m=n <;>by_cases hm':m'=n
  ·rw[hm,hm']
  ·simp only[if_pos hm,Option.some.injEq] at h1;subst h1;simp[bU.aE] at h3
  ·simp only[if_pos hm',Option.some.injEq] at h2;subst h2;simp[bU.aE] at h4
  ·simp only[if_neg hm] at h1;simp only[if_neg hm'] at h2;exact h.cQ m m' e e' b h1 h2 h3 h4
 ·have hmn:m≠n:=fun e=>by rw[e,h.kd (.inr hlt)] at hm;cases hm
  simp only[if_neg hmn]
  exact h.dQ m e hm
theorem az.PL{ts:List (Nat×I)}{os:List (Nat×ah)}(m n T sz z:Nat)(p:List Nat)(b:I)(hm:ak os m=some (.box b))(hp:b.at p=some (.nils z))(hn:ak os n=none){B:ae}(h:az (ar ts ((m,.box (b.dF p (.own n 0)))::(n,.bW T sz [])::os)) B)(hlt:n<1000000:=by decide):az (ar ts os) B :=
 ((az.PK (A:=ar ts os) (T:=T) (sz:=sz) hm hp hn hlt).trans (by rw[lQ,lQ];exact az.refl _)).trans h
end Go.Abs
