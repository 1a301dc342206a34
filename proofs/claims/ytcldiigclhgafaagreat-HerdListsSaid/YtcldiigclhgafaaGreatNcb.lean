/-
  A part of the proof that the law HerdLists returns true for every input; conditions: none beyond the statement's own. (part 2 of 7)
-/
import Derived.Maps.RangeRun
import Derived.Laws.MakeOwn
import Derived.Orders
import Derived.OrdersIn
import Derived.Test.YtcldiigclhgafaaGreatNca
set_option linter.unusedSimpArgs false
set_option linter.unusedVariables false
set_option maxHeartbeats 16000000
set_option maxRecDepth 100000
namespace Go.Abs
open Go Go.RowKit
theorem Cf{w:World}{D:aQ}{E:aX} : ∀ (l:List cK) (xs ys:List I) (cs ds:List Value),l.all wP=true→iC l xs ys=some true→aH w D E xs cs→aH w D E ys ds→xs=ys∧cs=ds∧∀ v∈cs,∃ k n,v=.int k n
 | [],xs,ys,cs,ds,_,h,hx,hy=>by
  simp only[iC] at h
  split at h
  ·simp only[aH] at hx hy;subst hx hy;exact ⟨rfl,rfl,fun v hv=>by simp at hv⟩
  ·cases h
 |t::ts,xs,ys,cs,ds,ha,h,hx,hy=>by
  simp only[List.all_cons,Bool.and_eq_true] at ha
  simp only[iC] at h
  split at h
  case h_2=>cases h
  rename_i f fs g gs
  unfold hT at h
  split at h
  case h_2=>cases h
  rename_i a b h1 h2
  simp only[Option.some.injEq,Bool.and_eq_true] at h
  obtain ⟨rfl,rfl⟩:=h
  simp only[aH] at hx hy
  obtain ⟨c1,c2,rfl,p1,p2⟩:=hx
  obtain ⟨d1,d2,rfl,q1,q2⟩:=hy
  obtain ⟨rfl,rfl,k3⟩:=Cf ts fs gs c2 d2 ha.2 h2 p2 q2
  cases t with
  |i k =>
   simp only[cj] at h1
   split at h1
   case h_2=>cases h1
   rename_i k1 a k2 b
   split at h1
   case isFalse=>cases h1
   rename_i hk
   simp only[Option.some.injEq,beq_iff_eq] at h1
   subst h1
   obtain ⟨rfl,rfl⟩:=hk
   simp only[ah] at p1 q1
   obtain ⟨rfl,_⟩:=p1
   obtain ⟨rfl,_⟩:=q1
   refine ⟨rfl,rfl,fun v hv =>?_⟩
   rcases List.mem_append.1 hv with hv | hv
   ·simp at hv;exact ⟨_,_,hv⟩
   ·exact k3 v hv
  |b | s | bx _ | hU _ _=>simp[wP] at ha
theorem LO:∀ (cs:List Value) (n:Nat),(∀ v∈cs,∃ k m,v=.int k m)→((cs.zip cs).all fun (x,y)=>Instr.sameBits n x y)=true
 | [],_,_=>rfl
 |v::cs,n,h=>by
  obtain ⟨k,m,rfl⟩:=h v (by simp)
  simp only[List.zip_cons_cons,List.all_cons,Bool.and_eq_true]
  exact ⟨by cases n <;>simp[Instr.sameBits],LO cs n fun v hv=>h v (by simp[hv])⟩
theorem af2{P:Program}{t:TypeId}{ty:cK}{w:World}{D:aQ}{E:aX}{x y:I}{aq v:Value}(hk:lj P t=some ty)(h:cj ty x y=some true)(hx:aW w D E x aq)(hy:aW w D E y v):x=y∧aq=v∧Instr.sameBits 10000 aq v=true:=by
 unfold lj at hk
 split at hk
 ·rename_i k hu
  simp only[Option.some.injEq] at hk
  subst hk
  simp only[cj] at h
  split at h
  case h_2=>cases h
  split at h
  case isFalse=>cases h
  rename_i hk
  simp only[Option.some.injEq,beq_iff_eq] at h
  subst h
  obtain ⟨rfl,rfl⟩:=hk
  rw[(fh hx).1,(fh hy).1]
  exact ⟨rfl,rfl,by simp[Instr.sameBits]⟩
 ·rename_i fs hu
  split at hk
  case h_2=>cases hk
  rename_i l hl
  split at hk
  case isFalse=>cases hk
  rename_i hc
  simp only[Option.some.injEq] at hk
  subst hk
  simp only[cj] at h
  split at h
  case h_2=>cases h
  rename_i xs ys
  obtain ⟨cs,rfl,hc1⟩:=jr hx
  obtain ⟨ds,rfl,hd1⟩:=jr hy
  obtain ⟨rfl,rfl,h3⟩:=Cf l xs ys cs ds hc.1 h hc1 hd1
  refine ⟨rfl,rfl,?_⟩
  simp only[Instr.sameBits,beq_self_eq_true,Bool.true_and]
  exact LO cs _ h3
 ·cases hk
section
variable {P:Program} {w:World} {D:aQ} {E:aX}
theorem BH{t:TypeId}{ty:cK}{em:Bool}{x y:I}{v:Value}{r:Bool}(hk:lj P t=some ty)(hx:aW w D E x v)(h:cj ty x y=some r)(n:Nat):(Instr.checkKey em (n+2) t v).run P w=.ok () w:=by
 unfold lj at hk
 split at hk
 ·rename_i k hu
  simp only[Option.some.injEq] at hk
  subst hk
  simp only[cj] at h
  split at h
  case h_2=>cases h
  rename_i k1 a k2 b
  split at h
  case isFalse=>cases h
  rename_i hq
  rw[(fh hx).1,hq.1]
  exact MapKept.run_checkKey hu (by simp[MapKept.IsKey]) em (n+1)
 ·rename_i fs hu
  split at hk
  case h_2=>cases hk
  rename_i l hl
  split at hk
  case isFalse=>cases hk
  rename_i hc
  simp only[Option.some.injEq] at hk
  subst hk
  simp only[cj] at h
  split at h
  case h_2=>cases h
  rename_i xs ys
  obtain ⟨cs,rfl,hc1⟩:=jr hx
  obtain ⟨d,hd⟩:∃ d,d=11:=⟨_,rfl⟩
  rw[show (12:Nat)=d+1 from by omega] at hl
  simp only[gn,hu] at hl
  split at hl
  case isFalse=>cases hl
  rename_i hc2
  simp only[Option.map_eq_some_iff,cK.bx.injEq] at hl
  obtain ⟨l',hl,rfl⟩:=hl
  rw[show n+2=(n+1)+1 from rfl,Instr.checkKey]
  simp only[Sem.run_bind,run_underlying hu,Result.andThen_ok]
  rw[←Array.forIn_toList]
  have key:∀ (aA:List Field) (l:List cK) (xs ys:List I) (r:Bool) (c1 c2:List Value),
    (aA.mapM fun f=>match gn P d f.type with
     |some ty=>if ty.size=P.cellsOf f.type then some ty else none
     | none => none) = some l → (∀ f ∈ aA, f.name ≠ "_" ∧ qf (P.underlying f.type) = true) → pg P c1.length aA = true → aH w D E xs c2 → iC l xs ys = some r → c1 ++ c2 = cs →
    Sem.run P (forIn aA PUnit.unit (fun (f : Field) (_ : PUnit) => (if f.name ≠ "_" then (do
     let x ←part f.type cs.toArray f.offset
     Instr.checkKey em (n+1) f.type x
     pure (ForInStep.yield PUnit.unit)) else pure (ForInStep.yield PUnit.unit):Sem (ForInStep PUnit)))) w=.ok PUnit.unit w:=by
   intro aA
   induction aA with
   |nil=>intros;simp
   |cons f aA ih =>
    intro l xs ys r c1 c2 hm hn ho hx h htot
    simp only[List.mapM_cons,Option.bind_eq_bind,Option.pure_def,Option.bind_eq_some_iff,Option.some.injEq] at hm
    obtain ⟨ty,hty,tys,htys,rfl⟩:=hm
    split at hty
    case h_2=>cases hty
    rename_i ty' hd'
    split at hty
    case isFalse=>cases hty
    rename_i hsz
    simp only[Option.some.injEq] at hty
    subst hty
    simp only[iC] at h
    split at h
    case h_2=>cases h
    rename_i x xs y ys
    unfold hT at h
    split at h
    case h_2=>cases h
    rename_i ra rb h1 h2
    simp only[aH] at hx
    obtain ⟨e1,e2,rfl,k1,k2⟩:=hx
    obtain ⟨s,q1,q2,q3⟩:=uV hd' hsz h1
    obtain ⟨aq,p1,p2⟩:=nR (P:=P) (w:=w) (c1:=c1) (c3:=e2) q1 q2 k1
    simp only[pg,Bool.and_eq_true,beq_iff_eq] at ho
    have hsx:=oM ty' x y ra h1
    have hle:e1.length=P.cellsOf f.type:=by rw[ah.length _ _ k1,hsx.1,hsz]
    have ih':=ih tys xs ys rb (c1++e1) e2 htys (fun g hg=>hn g (by simp[hg])) (by simp only[List.length_append,hle];exact ho.2) k2 h2 (by rw[←htot];simp)
    rw[List.append_assoc,htot,←ho.1] at p1
    obtain ⟨hnm,hint⟩:=hn f (by simp)
    have hck:(Instr.checkKey em (n+1) f.type aq).run P w=.ok () w:=by
     cases hu:P.underlying f.type with
     |none=>simp[hu,qf] at hint
     |some dd =>
      cases dd <;>simp[hu,qf] at hint
      rename_i q
      have hti:ty'=.i q:=by
       rw[show d=10+1 from by omega] at hd'
       unfold gn at hd'
       simp only[hu,Option.some.injEq] at hd'
       exact hd'.symm
      subst hti
      simp only[cj] at h1
      split at h1
      case h_2=>cases h1
      split at h1
      case isFalse=>cases h1
      rename_i hq
      rw[(fh p2).1,hq.1]
      exact MapKept.run_checkKey hu (by simp[MapKept.IsKey]) em n
    simp only[List.forIn_cons,Sem.run_bind,hnm,ne_eq,not_false_eq_true,if_true,p1,Result.andThen_ok,hck,Sem.run_pure]
    exact ih'
  rw[key fs.toList l' xs ys r [] cs hl (fun f hf=>⟨by simpa using List.all_eq_true.1 hc2.2.1 f hf,Array.all_eq_true_iff_forall_mem.1 hc.2 f (Array.mem_toList_iff.1 hf)⟩) hc2.2.2 hc1 h rfl]
  simp
 ·cases hk
theorem x8{x:I}{xs:List I}{vs:List Value}(h:aG w D E (x::xs) vs):∃ v rest,vs=v::rest∧aW w D E x v∧aG w D E xs rest:=by
 simp only[aG] at h
 obtain ⟨v,rest,cs,rfl,h1,h2,h3⟩:=h
 exact ⟨v,rest,rfl,lX h1 h2,h3⟩
def oo(r:Option Nat)(es:List MapEntry)(i:Nat)(q:Option (Nat×Value)):Prop :=
 (r=none∧q=none)∨∃ j e,r=some (i+j)∧es[j]?=some e∧q=some (i+j,e.val)
theorem oo.step{r:Option Nat}{es:List MapEntry}{e:MapEntry}{i:Nat}{q:Option (Nat×Value)}(h:oo r es (i+1) q):oo r (e::es) i q:=by
 rcases h with h | ⟨j,e',h1,h2,h3⟩
 ·exact .inl h
 ·exact .inr ⟨j+1,e',by rw[h1];congr 1;omega,by simpa using h2,by rw[h3];congr 2;omega⟩
theorem Cz{q:IntKind}{k:I}{v:Value}(hv:aW w D E k v):∀ (ks:List I) (es:List MapEntry) (i:Nat) (r:Option Nat),aG w D E ks (es.map (·.key))→eP (.i q) k ks i=some r →
  ∃ x,Instr.findNow (.int q) v es i=some x∧oo r es i x
 | [],es,i,r,hk,h=>by
  simp only[eP,Option.some.injEq] at h
  simp only[aG,List.map_eq_nil_iff] at hk
  subst h hk
  exact ⟨none,rfl,.inl ⟨rfl,rfl⟩⟩
 |x::ks,es,i,r,hk,h=>by
  obtain ⟨aq,rest,e1,hu,hr⟩:=x8 hk
  cases es with
  |nil=>cases e1
  |cons e es =>
   simp only[List.map_cons,List.cons.injEq] at e1
   obtain ⟨rfl,rfl⟩:=e1
   simp only[eP] at h
   have same:∀ b,cj (.i q) k x=some b→Instr.sameNow (.int q) v e.key=some b:=fun b hb=>by
    simp only[cj] at hb
    split at hb
    case h_2=>cases hb
    split at hb
    case isFalse=>cases hb
    rename_i hq
    simp only[Option.some.injEq] at hb
    subst hb
    rw[(fh hv).1,(fh hu).1]
    simp[Instr.sameNow,hq.1,hq.2]
   split at h
   ·rename_i hb
    simp only[Option.some.injEq] at h
    subst h
    exact ⟨some (i,e.val),by simp[Instr.findNow,same _ hb],.inr ⟨0,e,rfl,rfl,rfl⟩⟩
   ·rename_i hb
    obtain ⟨y,h1,h2⟩:=Cz hv ks es (i+1) r hr h
    exact ⟨y,by simp[Instr.findNow,same _ hb,h1],h2.step⟩
   ·cases h
theorem Cw{t:TypeId}{ty:cK}(hty:gn P 12 t=some ty){k:I}{v:Value}(hv:aW w D E k v):∀ (ks:List I) (es:List MapEntry) (i:Nat) (r:Option Nat),aG w D E ks (es.map (·.key))→eP ty k ks i=some r →
  ∃ x,(Instr.findAsking t v es i).run P w=.ok x w∧oo r es i x
 | [],es,i,r,hk,h=>by
  simp only[eP,Option.some.injEq] at h
  simp only[aG,List.map_eq_nil_iff] at hk
  subst h hk
  exact ⟨none,rfl,.inl ⟨rfl,rfl⟩⟩
 |x::ks,es,i,r,hk,h=>by
  obtain ⟨aq,rest,e1,hu,hr⟩:=x8 hk
  cases es with
  |nil=>cases e1
  |cons e es =>
   simp only[List.map_cons,List.cons.injEq] at e1
   obtain ⟨rfl,rfl⟩:=e1
   simp only[eP] at h
   have same:∀ b,cj ty k x=some b→(Op.equal t v e.key).run P w=.ok b w:=fun b hb=>rR 12 t ty hty k x v e.key b hv hu hb _ (by simp[Op.maxDepth])
   split at h
   ·rename_i hb
    simp only[Option.some.injEq] at h
    subst h
    exact ⟨some (i,e.val),by simp[Instr.findAsking,same _ hb],.inr ⟨0,e,rfl,rfl,rfl⟩⟩
   ·rename_i hb
    obtain ⟨y,h1,h2⟩:=Cw hty hv ks es (i+1) r hr h
    exact ⟨y,by simp[Instr.findAsking,same _ hb,h1],h2.step⟩
   ·cases h
theorem rV{t:TypeId}{ty:cK}(hk:lj P t=some ty){k:I}{v:Value}(hv:aW w D E k v){ks:List I}{es:List MapEntry}{r:Option Nat}(hks:aG w D E ks (es.map (·.key)))(h:eP ty k ks 0=some r) :
  ∃ x,(Instr.findKey t v es).run P w=.ok x w∧oo r es 0 x:=by
 have hk0:=hk
 unfold lj at hk
 split at hk
 ·rename_i q hu
  simp only[Option.some.injEq] at hk
  subst hk
  obtain ⟨x,h1,h2⟩:=Cz hv ks es 0 r hks h
  exact ⟨x,by simp[Instr.findKey,run_underlying hu,h1],h2⟩
 ·rename_i fs hu
  split at hk
  case h_2=>cases hk
  rename_i l hl
  split at hk
  case isFalse=>cases hk
  simp only[Option.some.injEq] at hk
  subst hk
  cases es with
  |nil =>
   cases ks with
   |nil =>
    simp only[eP,Option.some.injEq] at h
    subst h
    exact ⟨none,by simp[Instr.findKey,run_underlying hu,Instr.findNow],.inl ⟨rfl,rfl⟩⟩
   |cons x xs=>simp[aG] at hks
  |cons e es =>
   obtain ⟨x,h1,h2⟩:=Cw hl hv ks (e::es) 0 r hks h
   exact ⟨x,by simp[Instr.findKey,run_underlying hu,Instr.findNow,Instr.sameNow,h1],h2⟩
 ·cases hk
theorem me:∀ {xs:List I} {vs:List Value} {j:Nat} {v:Value},aG w D E xs vs→vs[j]?=some v→∃ x,xs[j]?=some x∧aW w D E x v
 | [],vs,j,v,h,hj=>by simp only[aG] at h;subst h;simp at hj
 |x::xs,vs,j,v,h,hj=>by
  obtain ⟨aq,rest,rfl,h1,h2⟩:=x8 h
  cases j with
  |zero=>simp only[List.getElem?_cons_zero,Option.some.injEq] at hj;subst hj;exact ⟨x,rfl,h1⟩
  |succ j=>exact me (xs:=xs) h2 (by simpa using hj)
end
section
variable {c:cQ} {A:af} {o:Oper} {x:I}
theorem agA{a:Act}{w:World}{D:aQ}{E:aX}(hs:aU c A a w D E){m:I}{v:Value}{ks vs:List I}(hv:aW w D E m v)(hm:fZ A m=some (ks,vs)) :
  (v=.map none∧ks=[]∧vs=[])∨∃ b es clock,v=.map (some b)∧w.heap[b]?=some (.map es clock)∧aG w D E ks (es.toList.map (·.key))∧aG w D E vs (es.toList.map (·.val)):=by
 unfold fZ at hm
 split at hm
 ·simp only[Option.some.injEq,Prod.mk.injEq] at hm
  obtain ⟨rfl,rfl⟩:=hm
  obtain ⟨cs,q1,q2⟩:=hv
  simp only[ah] at q2
  obtain ⟨b,es,ck,q3,q4,q5,q6⟩:=q2
  exact .inr ⟨b,es,ck,by simpa[bJ,I.isAgg,q3] using q1.symm,q4.1,q5,q6⟩
 ·rename_i n
  split at hm
  case h_2=>cases hm
  rename_i ks' vs' hn
  simp only[Option.some.injEq,Prod.mk.injEq] at hm
  obtain ⟨rfl,rfl⟩:=hm
  obtain ⟨cs,q1,q2⟩:=hv
  simp only[ah] at q2
  obtain ⟨b,q3,q4⟩:=q2
  obtain ⟨b',es,ck,k1,k2,k3,k4,k5,k6,k7⟩:=hs.map hn
  rw[k1] at q3;cases q3
  exact .inr ⟨_,es,ck,by simpa[bJ,I.isAgg,q4] using q1.symm,k3,k5,k6⟩
 ·simp only[Option.some.injEq,Prod.mk.injEq] at hm
  obtain ⟨rfl,rfl⟩:=hm
  obtain ⟨cs,q1,q2⟩:=hv
  simp only[ah] at q2
  exact .inl ⟨by simpa[bJ,I.isAgg,q2.1] using q1.symm,rfl,rfl⟩
 ·cases hm
theorem oe{w:World}{D:aQ}{E:aX}{y:I}{v:Value}(hv:y.cq=true)(h:aW w D E y v):∃ cs,bJ y v cs∧ah w D E y cs:=by
 cases y <;>simp[I.cq] at hv <;>exact h
theorem py{w:World}{D:aQ}{E:aX} : ∀ {xs:List I} {vs:List Value} {j:Nat} {x:I},aG w D E xs vs→xs[j]?=some x→x.cq=true
 | [],_,j,x,_,h=>by simp at h
 |y::ys,vs,j,x,hr,h=>by
  simp only[aG] at hr
  obtain ⟨v,rest,cs,rfl,h1,h2,h3⟩:=hr
  cases j with
  |zero =>
   simp only[List.getElem?_cons_zero,Option.some.injEq] at h;subst h
   cases y <;>simp only[ah] at h2 <;>rfl
  |succ j=>exact py (xs:=ys) h3 (by simpa using h)
theorem aj4{x:I}{cs r:List Value}(h:my x cs=some r):x.cq=true:=by
 cases x <;>first | rfl | (cases cs <;>simp[my] at h)
theorem aj5{P:Program}{t:TypeId}{z:I}(hz:fL P t=some z)(hp:tJ P t z=true):∃ zv,(∀ w,(zeroValue t).run P w=.ok zv w)∧z.cq=true∧∀ w D E,aW w D E z zv:=by
 have hz0:=hz
 obtain ⟨i,zv,hi,hzz,hzr⟩:=lF hz
 have hv:z.cq=true:=by
  unfold fL at hz
  split at hz
  ·split at hz
   ·rename_i hk
    simp only[Option.some.injEq] at hz
    subst hz
    exact aj4 hk
   ·cases hz
  ·cases hz
 refine ⟨zv,fun w=>by simp[zeroValue,typeInfo,hi,hzz],hv,fun w D E =>?_⟩
 have h1:=hzr w D E
 simp only[tJ,hi,Option.bind_some,hzz] at hp
 refine lX (cs:=zv.cells.toList) ?_ h1
 cases zv <;>simp only[bJ] at hp ⊢ <;>first
  |(rw[if_pos hp];simp[Value.cells])
  |(have hp':z.isAgg=false:=by simpa using hp
    rw[hp'];simp[Value.cells])
theorem afs{t kt et:TypeId}{m k:Operand}{m' k':aJ}{ok:Bool}{ty:cK}{z v:I}{ks vs:List I}{there:Bool}(ho:o.op=.lookup t m k ok)(hu:c.P.underlying t=some (.map kt et))(hk:lj c.P kt=some ty)(hz:fL c.P et=some z)(hzp:tJ c.P et z=true)
  (hm:bH c.P 0 m=some m') (hk':bH c.P 0 k=some k') (hmm:fZ A (ae A m')=some (ks,vs)) (hl:fX ty z (ae A k') ks vs=some (v,there)):dL c A o (if ok then .tuple [v,.bool there] else v) :=
 .same fun a w D E hs=>by
  have h1:=b7 hs hm
  have h2:=b7 hs hk'
  obtain ⟨zv,hzrun,hzv,hzrv⟩:=aj5 hz hzp
  unfold fX at hl
  split at hl
  case isFalse=>cases hl
  rename_i hkk
  obtain ⟨rk,hrk⟩:=Option.isSome_iff_exists.1 hkk
  have hchk:=fun em=>BH (P:=c.P) (w:=w) (em:=em) hk h2 hrk 9998
  have bp:∀ aq there,v.cq=true→aW w D E v aq→aW w D E (if ok then .tuple [v,.bool there] else v) (if ok then Value.tuple #[aq,.bool there] else aq):=fun aq there hval hu'=>by
   cases ok
   ·exact hu'
   ·obtain ⟨cs,q1,q2⟩:=oe hval hu'
    simp only[if_true,aW,aG]
    exact ⟨[aq,.bool there],rfl,aq,[.bool there],cs,rfl,q1,q2,.bool there,[],[.bool there],rfl,by simp[bJ,I.isAgg],by simp[ah],rfl⟩
  have main:∀ (es:Array MapEntry),aG w D E ks (es.toList.map (·.key))→aG w D E vs (es.toList.map (·.val))→∃ aq,v.cq=true∧aW w D E v aq ∧
    ((∃ i,(Instr.findKey kt (a.eval k) es.toList).run c.P w=.ok (some (i,aq)) w∧there=true)∨((Instr.findKey kt (a.eval k) es.toList).run c.P w=.ok none w∧aq=zv∧there=false)):=fun es hks hvs=>by
   split at hl
   ·rename_i i hfi
    simp only[Option.map_eq_some_iff,Prod.mk.injEq] at hl
    obtain ⟨v',hv',rfl,rfl⟩:=hl
    obtain ⟨q,q1,q2⟩:=rV hk h2 hks hfi
    rcases q2 with ⟨e,_⟩ | ⟨j,e,e1,e2,rfl⟩
    ·cases e
    ·simp only[Nat.zero_add,Option.some.injEq] at e1
     subst e1
     obtain ⟨x,k1,k2⟩:=me (j:=i) (v:=e.val) hvs (by simp only[List.getElem?_map,e2,Option.map_some])
     rw[hv',Option.some.injEq] at k1
     subst k1
     exact ⟨e.val,py hvs hv',k2,.inl ⟨_,q1,rfl⟩⟩
   ·rename_i hfi
    simp only[Option.some.injEq,Prod.mk.injEq] at hl
    obtain ⟨rfl,rfl⟩:=hl
    obtain ⟨q,q1,q2⟩:=rV hk h2 hks hfi
    rcases q2 with ⟨_,rfl⟩ | ⟨j,e,e1,_⟩
    ·exact ⟨zv,hzv,hzrv w D E,.inr ⟨q1,rfl,rfl⟩⟩
    ·cases e1
   ·cases hl
  rcases agA hs h1 hmm with ⟨e1,rfl,rfl⟩ | ⟨b,es,ck,e1,e2,e3,e4⟩
  ·obtain ⟨aq,hval,hu',hrun⟩:=main #[] (by simp[aG]) (by simp[aG])
   refine ⟨_,?_,bp aq there hval hu'⟩
   rcases hrun with ⟨i,q1,rfl⟩ | ⟨q1,rfl,rfl⟩ <;>
    simp only[execOp,ho,Instr.lookup,e1,Sem.run_bind,run_underlying hu,Result.andThen_ok,Sem.run_pure,hchk,q1,hzrun]
  ·obtain ⟨aq,hval,hu',hrun⟩:=main es e3 e4
   refine ⟨_,?_,bp aq there hval hu'⟩
   rcases hrun with ⟨i,q1,rfl⟩ | ⟨q1,rfl,rfl⟩ <;>
    simp only[execOp,ho,Instr.lookup,e1,Sem.run_bind,run_underlying hu,Result.andThen_ok,MapKept.run_getObj_map e2,Sem.run_pure,hchk,q1,hzrun]
theorem HW{y:Operand}{y':aJ}(ho:o.op=.nilCheck y)(hy:bH c.P 0 y=some y')(h:(∃ n p,ae A y'=.ptr n p)∨∃ z,ae A y'=.ref z):dL c A o (ae A y') :=
 .same fun a w D E hs=>by
  have h1:=b7 hs hy
  rcases h with ⟨n,p,h⟩ | ⟨z,h⟩
  ·rw[h] at h1 ⊢
   obtain ⟨b,aT,off,_,_,e⟩:=nS h1
   exact ⟨a.eval y,by simp only[execOp,ho,e,Sem.run_pure],h1⟩
  ·rw[h] at h1 ⊢
   obtain ⟨b,off,cs,e,_⟩:=px h1
   exact ⟨a.eval y,by simp only[execOp,ho,e,Sem.run_pure],h1⟩
theorem Ii{w:World}{D:aQ}{E:aX}{x:I}{v:Value}{b:Bool}(h:iH x=some b)(hv:aW w D E x v):∃ ad,v=.pointer ad∧ad.isNone=b:=by
 cases x <;>simp only[iH,Option.some.injEq] at h <;>try (cases h;done)
 case nilp =>
  subst h
  obtain ⟨cs,q1,q2⟩:=hv
  simp only[ah] at q2
  exact ⟨none,by simpa[bJ,I.isAgg,q2] using q1.symm,rfl⟩
 case ptr n p =>
  subst h
  obtain ⟨b,aT,off,_,_,e⟩:=nS hv
  exact ⟨_,e,rfl⟩
 case ref z =>
  subst h
  obtain ⟨b,off,cs,e,_⟩:=px hv
  exact ⟨_,e,rfl⟩
theorem afx{neg:Bool}{t yt e:TypeId}{y z:Operand}{y' z':aJ}{b1 b2:Bool}(ho:o.op=.binOp (if neg then .neq else .eql) t y z yt)(hu:c.P.underlying t=some (.pointer e))(hy:bH c.P 0 y=some y')(hz:bH c.P 0 z=some z')
  (h1:iH (ae A y')=some b1) (h2:iH (ae A z')=some b2) (h:b1=true∨b2=true):dL c A o (.bool (if neg then !(b1&&b2) else (b1&&b2))) :=
 .same fun a w D E hs=>by
  obtain ⟨p,e1,k1⟩:=Ii h1 (b7 hs hy)
  obtain ⟨q,e2,k2⟩:=Ii h2 (b7 hs hz)
  have he:∀ d,(Op.equalIn (d+1) t (.pointer p) (.pointer q)).run c.P w=.ok (b1&&b2) w:=fun d=>by
   subst k1 k2
   cases p <;>cases q <;>simp at h <;>simp[Op.equalIn,run_underlying hu]
  refine ⟨.bool (if neg then !(b1&&b2) else (b1&&b2)),?_,mV _⟩
  cases neg <;>simp only[execOp,ho,e1,e2,if_true,Bool.false_eq_true,if_false,Sem.run_bind,eqGuard] <;>simp[binOp,Op.equal,Op.maxDepth,he]
end
section
variable {c:cQ} {A:af} {o:Oper} {x:I}
theorem Wm{t:TypeId}{d:Nat}(ho:o.op=.makeMap t none)(hd:o.dst=some d)(hn:d<c.n)(hf:A.o d=none):iz c A o ((A.aR d (.ct [] [])).put d (.mref d)):=by
 intro a w D E hs
 have h1:=hs.agV (.inl hn) hf
 have h2:=h1.put (x:=.mref d) (v:=.map (some w.heap.size)) hn ⟨_,by simp[bJ,I.isAgg];rfl,by
  simp only[ah,if_true]
  exact ⟨w.heap.size,rfl,rfl⟩⟩
 exact ⟨w.alloc (.map #[] 0),.inl ⟨.map (some w.heap.size),by simp[execOp,ho,Instr.makeMap],D,_,by rw[hd];exact h2⟩⟩
theorem x7{w:World}{D:aQ}{E:aX} : ∀ {xs ys:List I} {us vs:List Value},aG w D E xs us→aG w D E ys vs→aG w D E (xs++ys) (us++vs)
 | [],ys,us,vs,h,k=>by simp only[aG] at h;subst h;simpa using k
 |x::xs,ys,us,vs,h,k=>by
  simp only[aG,List.cons_append] at *
  obtain ⟨v,rest,cs,rfl,h1,h2,h3⟩:=h
  exact ⟨v,rest++vs,cs,rfl,h1,h2,x7 h3 k⟩
theorem LN{w:World}{D:aQ}{E:aX} : ∀ {xs:List I} {us:List Value} {i:Nat} {y:I} {v:Value} {cs:List Value},aG w D E xs us→bJ y v cs→ah w D E y cs→aG w D E (xs.set i y) (us.set i v)
 | [],us,i,y,v,cs,h,_,_=>by simp only[aG] at h;subst h;simp[aG]
 |x::xs,us,i,y,v,cs,h,k1,k2=>by
  simp only[aG] at h
  obtain ⟨aq,rest,ds,rfl,h1,h2,h3⟩:=h
  cases i with
  |zero=>simp only[List.set_cons_zero,aG];exact ⟨v,rest,cs,rfl,k1,k2,h3⟩
  |succ i=>simp only[List.set_cons_succ,aG];exact ⟨aq,_,ds,rfl,h1,h2,LN h3 k1 k2⟩
theorem LM{w:World}{D:aQ}{E:aX}{y:I}{v:Value}{cs:List Value}(h1:bJ y v cs)(h2:ah w D E y cs):aG w D E [y] [v]:=by
 simp only[aG];exact ⟨v,[],cs,rfl,h1,h2,rfl⟩
theorem Cy{ty:cK}{k:I} : ∀ {ks:List I} {i j:Nat},eP ty k ks i=some (some j)→∃ x,ks[j-i]?=some x∧i≤j∧cj ty k x=some true
 | [],i,j,h=>by simp[eP] at h
 |x::xs,i,j,h=>by
  simp only[eP] at h
  split at h
  ·rename_i hb
   simp only[Option.some.injEq] at h
   subst h
   exact ⟨x,by simp,Nat.le_refl _,hb⟩
  ·obtain ⟨y,h1,h2,h3⟩:=Cy h
   refine ⟨y,?_,by omega,h3⟩
   rw[show j-i=(j-(i+1))+1 from by omega]
   simpa using h1
  ·cases h
theorem B1{t kt et:TypeId}{m k v:Operand}{m' k' v':aJ}{ty:cK}{n:Nat}{ks vs ks' vs':List I}(ho:o.op=.mapUpdate t m k v∨o.op=.insert t m k v)(hu:c.P.underlying t=some (.map kt et))(hk:lj c.P kt=some ty)
  (hm:bH c.P 0 m=some m') (hk':bH c.P 0 k=some k') (hv':bH c.P et v=some v') (hmm:ae A m'=.mref n) (hn:A.o n=some (.ct ks vs)) (hl:fQ ty (ae A k') (ae A v') ks vs=some (ks',vs')) (hd:o.dst=none) :
  iz c A o (A.aR n (.ct ks' vs')):=by
 intro a w D E hs
 have h1:=b7 hs hm
 have h2:=b7 hs hk'
 have h3:=b7 hs hv'
 rw[hmm] at h1
 unfold fQ at hl
 split at hl
 case isFalse=>cases hl
 rename_i hc
 obtain ⟨hkk,hkv,hvv⟩:=hc
 obtain ⟨rk,hrk⟩:=Option.isSome_iff_exists.1 hkk
 have hchk:=fun em=>BH (P:=c.P) (w:=w) (em:=em) hk h2 hrk 9998
 obtain ⟨kcs,kp1,kp2⟩:=oe hkv h2
 obtain ⟨vcs,vp1,vp2⟩:=oe hvv h3
 obtain ⟨b,es,ck,k1,k2,k3,k4,k5,k6,k7⟩:=hs.map hn
 have hmv:a.eval m=.map (some b):=by
  obtain ⟨cs,q1,q2⟩:=h1
  simp only[ah] at q2
  obtain ⟨b',q3,q4⟩:=q2
  rw[k1] at q3;cases q3
  simpa[bJ,I.isAgg,q4] using q1.symm
 -- the new entries
 have step:∀ (es':Array MapEntry) (ck':Nat),(Instr.mapUpdate t (.map (some b)) (a.eval k) (a.eval v)).run c.P w=.ok () (w.putObj b (.map es' ck'))→pC es' ck'→aG w D E ks' (es'.toList.map (·.key))→aG w D E vs' (es'.toList.map (·.val)) →
   ∃ w',((∃ aq,(execOp a.eval o).run c.P w=.ok (.value aq) w'∧cn c (A.aR n (.ct ks' vs')) (a.put o.dst aq) w')∨((execOp a.eval o).run c.P w=.ok .skip w'∧cn c (A.aR n (.ct ks' vs')) (a.put o.dst undef) w')):=fun es' ck' hrun hst hks hvs=>by
  refine ⟨w.putObj b (.map es' ck'),.inr ⟨?_,?_⟩⟩
  ·rcases ho with ho | ho <;>simp only[execOp,ho,hmv,Sem.run_bind,hrun,Result.andThen_ok,Sem.run_pure]
  ·rw[hd]
   have:=hs.LR (o':=.map es' ck') (x:=.ct ks' vs') k1 rfl rfl k3 rfl (fun q=>by simp) k2 (fun hl' hh hno=>⟨b,es',ck',k1,k2,hh,hst,aG.bK hl' _ _ hks,aG.bK hl' _ _ hvs,hno⟩)
   exact ⟨D,E,this⟩
 split at hl
 ·rename_i i hfi
  simp only[Option.some.injEq,Prod.mk.injEq] at hl
  obtain ⟨rfl,rfl⟩:=hl
  obtain ⟨q,q1,q2⟩:=rV hk h2 k5 hfi
  rcases q2 with ⟨e,_⟩ | ⟨j,e,e1,e2,rfl⟩
  ·cases e
  simp only[Nat.zero_add,Option.some.injEq] at e1
  subst e1
  obtain ⟨y,y1,_,y2⟩:=Cy hfi
  simp only[Nat.sub_zero] at y1
  obtain ⟨y',y3,y4⟩:=me (j:=i) (v:=e.key) k5 (by simp only[List.getElem?_map,e2,Option.map_some])
  rw[y1,Option.some.injEq] at y3
  subst y3
  obtain ⟨_,kk2,kk3⟩:=af2 hk y2 h2 y4
  have hes:es[i]?=some e:=by rw[←Array.getElem?_toList];exact e2
  have hlen:i<es.size:=(Array.getElem?_eq_some_iff.1 hes).1
  refine step (es.modify i fun e => { e with key:=a.eval k,val:=a.eval v }) ck ?_ ?_ ?_ ?_
  ·have hsb:Instr.sameBits 10000 (((es[i]?).map (·.key)).getD (a.eval k)) (a.eval k)=true:=by
    rw[hes];simp only[Option.map_some,Option.getD_some];rw[←kk2];rw[←kk2] at kk3;exact kk3
   simp only[Instr.mapUpdate,Sem.run_bind,run_underlying hu,Result.andThen_ok,MapKept.run_getObj_map k3,hchk,q1,Nat.zero_add,Instr.keyThatStays,hsb,if_true,Sem.run_pure,MapKept.run_setObj_map _ k3]
   rfl
  all_goals
   have em:(es.modify i fun e => { e with key:=a.eval k,val:=a.eval v }).toList=es.toList.set i { e with key:=a.eval k,val:=a.eval v } :=by
    rw[Array.toList_modify]
    apply List.ext_getElem?
    intro j
    rw[List.getElem?_modify,List.getElem?_set]
    by_cases hij:i=j
    ·subst hij
     have hge:es[i]'hlen=e:=(Array.getElem?_eq_some_iff.1 hes).2
     simp[hlen,hge]
    ·simp[hij]
  ·refine ⟨fun x hx =>?_,?_⟩
   ·rw[em] at hx
    rcases List.mem_or_eq_of_mem_set hx with hx | rfl
    ·exact k4.1 x hx
    ·exact k4.1 e (List.mem_of_getElem? e2)
   ·rw[em]
    have:(es.toList.set i { e with key:=a.eval k,val:=a.eval v }).map (·.born)=es.toList.map (·.born):=by
     rw[List.map_set]
     apply List.ext_getElem?
     intro j
     rw[List.getElem?_set]
     split
     ·rename_i hij;subst hij
      simp[e2]
      exact hlen
     ·rfl
    rw[this];exact k4.2
  ·rw[em,List.map_set]
   have:(es.toList.map (·.key)).set i (a.eval k)=es.toList.map (·.key):=by
    apply List.ext_getElem?
    intro j
    rw[List.getElem?_set]
    split
    ·rename_i hij;subst hij
     simp[e2,kk2]
     exact hlen
    ·rfl
   simp only[this];exact k5
  ·rw[em,List.map_set];exact LN k6 vp1 vp2
 ·rename_i hfi
  simp only[Option.some.injEq,Prod.mk.injEq] at hl
  obtain ⟨rfl,rfl⟩:=hl
  obtain ⟨q,q1,q2⟩:=rV hk h2 k5 hfi
  rcases q2 with ⟨_,rfl⟩ | ⟨j,e,e1,_⟩
  case inr=>cases e1
  refine step (es.push { key:=a.eval k,val:=a.eval v,born:=ck }) (ck+1) ?_ ⟨fun x hx =>?_,?_⟩ ?_ ?_
  ·simp only[Instr.mapUpdate,Sem.run_bind,run_underlying hu,Result.andThen_ok,MapKept.run_getObj_map k3,hchk,q1,MapKept.run_setObj_map _ k3]
   rfl
  ·simp only[Array.toList_push,List.mem_append,List.mem_singleton] at hx
   rcases hx with hx | rfl
   ·have:=k4.1 x hx;omega
   ·simp
  ·simp only[Array.toList_push,List.map_append,List.map_cons,List.map_nil]
   refine List.nodup_append.2 ⟨k4.2,by simp,fun x hx y hy =>?_⟩
   simp only[List.mem_singleton] at hy
   subst hy
   obtain ⟨e,he,rfl⟩:=List.mem_map.1 hx
   exact Nat.ne_of_lt (k4.1 e he)
  ·simp only[Array.toList_push,List.map_append,List.map_cons,List.map_nil];exact x7 k5 (LM kp1 kp2)
  ·simp only[Array.toList_push,List.map_append,List.map_cons,List.map_nil];exact x7 k6 (LM vp1 vp2)
 ·cases hl
theorem Wo{t kt et:TypeId}{y:Operand}{y':aJ}{ks vs:List I}{d:Nat}(ho:o.op=.range t y)(hu:c.P.underlying t=some (.map kt et))(hy:bH c.P 0 y=some y')(h:ae A y'=.cS ks vs)(hd:o.dst=some d)(hn:d<c.n)(hf:A.o d=none) :
  iz c A o ((A.aR d (.it ks vs (List.range ks.length) none)).put d (.dj d)):=by
 intro a w D E hs
 have h1:=b7 hs hy
 rw[h] at h1
 obtain ⟨cs,q1,q2⟩:=h1
 simp only[ah] at q2
 obtain ⟨b,es,ck,q3,q4,q5,q6⟩:=q2
 have hv:a.eval y=.map (some b):=by simpa[bJ,I.isAgg,q3] using q1.symm
 have h2:=hs.agU (.inl hn) hf q4 q5 q6
 have h3:=h2.put (x:=.dj d) (v:=.pointer (some ⟨w.heap.size,0,none⟩)) hn ⟨_,by simp[bJ,I.isAgg];rfl,by
  simp only[ah,if_true]
  exact ⟨w.heap.size,rfl,rfl⟩⟩
 refine ⟨w.alloc (.mapIter (some b) ck #[] ck),.inl ⟨.pointer (some ⟨w.heap.size,0,none⟩),?_,D,_,by rw[hd];exact h3⟩⟩
 simp only[execOp,ho,hv,Sem.run_bind,run_range_map w t kt et b es ck hu q4.1,Result.andThen_ok,Sem.run_pure]
theorem Iq{es:Array MapEntry}{cd:Array Nat}{i:Nat} : i∈nC es cd↔∃ e,es[i]?=some e∧cd.contains e.born=false:=by
 unfold nC
 simp only[List.mem_filter,List.mem_range]
 constructor
 ·rintro ⟨h1,h2⟩
  rw[Array.getElem?_eq_getElem h1] at h2 ⊢
  exact ⟨_,rfl,by simpa using h2⟩
 ·rintro ⟨e,h1,h2⟩
  exact ⟨(Array.getElem?_eq_some_iff.1 h1).1,by rw[h1];simpa using h2⟩
theorem ajC{es:Array MapEntry}{ck:Nat}(hst:pC es ck){i j:Nat}{e f:MapEntry}(hi:es[i]?=some e)(hj:es[j]?=some f)(h:e.born=f.born):i=j:=by
 have hn:=hst.2
 rw[←Array.getElem?_toList] at hi hj
 have h1:(es.toList.map (·.born))[i]?=some e.born:=by rw[List.getElem?_map,hi];rfl
 have h2:(es.toList.map (·.born))[j]?=some e.born:=by rw[List.getElem?_map,hj,h];rfl
 have hil:i<(es.toList.map (·.born)).length:=(List.getElem?_eq_some_iff.1 h1).1
 have hjl:j<(es.toList.map (·.born)).length:=(List.getElem?_eq_some_iff.1 h2).1
 exact (List.getElem?_inj hil hn).1 (h1.trans h2.symm)
theorem agn{es:Array MapEntry}{cd:Array Nat}{ck i:Nat}{e:MapEntry}(hst:pC es ck)(hi:es[i]?=some e):nC es (cd.push e.born)=(nC es cd).filter (· != i):=by
 unfold nC
 rw[List.filter_filter]
 refine List.filter_congr fun j hj =>?_
 have hjl:j<es.size:=by simpa using hj
 rw[Array.getElem?_eq_getElem hjl]
 simp only[Array.contains_push]
 by_cases hij:j=i
 ·subst hij
  rw[Array.getElem?_eq_getElem hjl,Option.some.injEq] at hi
  simp[hi]
 ·have:(es[j].born==e.born)=false:=by
   simp only[beq_eq_false_iff_ne,ne_eq]
   exact fun h=>hij (ajC hst (Array.getElem?_eq_getElem hjl) hi h)
  have h2:(j != i)=true:=by simpa using hij
  simp[this,h2]
theorem agW{y:Operand}{y':aJ}{ks vs:List I}{left:List Nat}{cur:Option Nat}{n:Nat}(ho:o.op=.next y false)(hy:bH c.P 0 y=some y')(h:ae A y'=.dj n)(hn:A.o n=some (.it ks vs left cur))(hdn:∀ k,o.dst=some k→k<c.n){a:Act}{w:World}{D:aQ}{E:aX}(hs:aU c A a w D E) :
  ∃ w' v,(execOp a.eval o).run c.P w=.ok (.value v) w'∧((left=[]∧cn c (A.aO o.dst (.tuple [.bool false])) (a.put o.dst v) w') ∨
   ∃ i k x,i∈left∧ks[i]?=some k∧vs[i]?=some x∧cn c ((A.aR n (.it ks vs (left.filter (· != i)) (some i))).aO o.dst (.tuple [.bool true,k,x])) (a.put o.dst v) w'):=by
 have h1:=b7 hs hy
 rw[h] at h1
 obtain ⟨cs,q1,q2⟩:=h1
 simp only[ah] at q2
 obtain ⟨r,q3,q4⟩:=q2
 have hv:a.eval y=.pointer (some ⟨r,0,none⟩):=by simpa[bJ,I.isAgg,q4] using q1.symm
 have hob:=hs.bQ n
 rw[hn] at hob
 obtain ⟨r',b,es,ck,since,cd,last,k1,k2,k3,k4,k5,k6,k7,k8,k9,k9',k10⟩:=hob
 rw[k1] at q3;cases q3
 rcases run_next_at (P:=c.P) w o.type r b since last cd es ck k3 k4.1 k7 k8.1 with ⟨h0,hrun⟩ | ⟨e,he,w1,hal,hrun⟩
 ·refine ⟨w,.tuple #[.bool false],by simp only[execOp,ho,hv,Sem.run_bind,hrun,Result.andThen_ok,Sem.run_pure],.inl ⟨?_,D,E,hs.aO hdn ?_⟩⟩
  ·rw[k9]
   refine List.eq_nil_iff_forall_not_mem.2 fun i hi =>?_
   obtain ⟨e,h1,h2⟩:=Iq.1 hi
   have hm:e∈leftOf es cd:=by
    unfold leftOf
    simp only[Array.mem_filter]
    exact ⟨Array.mem_of_getElem? h1,by simpa using h2⟩
   rw[Array.eq_empty_of_size_eq_zero h0] at hm
   simp at hm
  ·simp only[aW,aG]
   exact ⟨[.bool false],rfl,.bool false,[],[.bool false],rfl,by simp[bJ,I.isAgg],by simp[ah],rfl⟩
 ·have hmem:e∈es.toList∧cd.contains e.born=false:=by
   unfold leftOf at he
   simp only[Array.toList_filter,List.mem_filter] at he
   exact ⟨he.1,by simpa using he.2⟩
  obtain ⟨i,hi⟩:=List.getElem?_of_mem hmem.1
  have hie:es[i]?=some e:=by rw[←Array.getElem?_toList];exact hi
  obtain ⟨k,hk1,hk2⟩:=me (j:=i) (v:=e.key) k5 (by simp only[List.getElem?_map,hi,Option.map_some])
  obtain ⟨x,hx1,hx2⟩:=me (j:=i) (v:=e.val) k6 (by simp only[List.getElem?_map,hi,Option.map_some])
  have hsw:aU c A a w1 D E:=by
   rcases hal with rfl | rfl
   ·exact hs
   ·exact hs.grow (w':=w.drew) (D':=D) ⟨rfl,rfl,rfl,Nat.le_refl _,fun _ _=>rfl⟩ (fun _ _ h=>h) (fun _ _ h _=>h) (fun b o hd=>hs.dc b o hd)
  have hw1:w1.heap=w.heap:=by rcases hal with rfl | rfl <;>rfl
  have k3':w1.heap[r]?=some (.mapIter (some b) since cd last):=by rw[hw1];exact k3
  have hset:=hsw.LR (x:=.it ks vs (left.filter (· != i)) (some i)) (o':=.mapIter (some b) since (cd.push e.born) ck) k1 rfl rfl k3' rfl (fun q=>by simp) k2
   (fun hl hh hno=>by
    have hm:nH w1 D b es ck:=⟨by rw[hw1];exact k4.1,k4.2.1,k4.2.2⟩
    have hob:=hsw.bQ n
    rw[hn] at hob
    refine ⟨r,b,es,ck,since,cd.push e.born,ck,k1,k2,hh,hm.bK hl,aG.bK hl _ _ ?_,aG.bK hl _ _ ?_,k7,?_,?_,fun j hj =>?_,hno⟩
    ·obtain ⟨dN,b2,es2,ck2,si2,se2,la2,g1,g2,g3,g4,g5,g6,_⟩:=hob
     rw[k1] at g1;cases g1
     rw[k3'] at g3;cases g3
     have:=g4.1;rw[hw1,k4.1] at this;cases this
     exact g5
    ·obtain ⟨dN,b2,es2,ck2,si2,se2,la2,g1,g2,g3,g4,g5,g6,_⟩:=hob
     rw[k1] at g1;cases g1
     rw[k3'] at g3;cases g3
     have:=g4.1;rw[hw1,k4.1] at this;cases this
     exact g6
    ·exact ⟨k8.2,k8.2⟩
    ·rw[k9,agn k4.2.2 hie]
    ·cases hj
     exact ⟨e,hie,by simp,rfl⟩)
  have hset':aU c (A.aR n (.it ks vs (left.filter (· != i)) (some i))) a (ChangeMaps.setBlock w1 r (.mapIter (some b) since (cd.push e.born) ck)) D E:=hset
  refine ⟨_,.tuple #[.bool true,e.key,e.val],by simp only[execOp,ho,hv,Sem.run_bind,hrun,Result.andThen_ok,Sem.run_pure],.inr ⟨i,k,x,?_,hk1,hx1,D,E,hset'.aO hdn ?_⟩⟩
  ·rw[k9];exact Iq.2 ⟨e,hie,hmem.2⟩
  ·have hob2:=hset'.bQ n
   simp only[af.aR,if_true] at hob2
   obtain ⟨dN,b2,es2,ck2,si2,se2,la2,g1,g2,g3,g4,g5,g6,_⟩:=hob2
   rw[k1] at g1;cases g1
   have hr2:(ChangeMaps.setBlock w1 r (.mapIter (some b) since (cd.push e.born) ck)).heap[r]?=some (.mapIter (some b) since (cd.push e.born) ck):=World.putObj_heap_same (w:=w1) (fI k3')
   rw[hr2] at g3;cases g3
   have hb2:(ChangeMaps.setBlock w1 r (.mapIter (some b) since (cd.push e.born) ck)).heap[b]?=some (.map es ck):=by
    have:b≠r:=fun e=>by rw[e] at k4;rw[k4.1] at k3;cases k3
    refine (World.putObj_heap_other (w:=w1) this).trans ?_
    rw[hw1];exact k4.1
   have:=g4.1;rw[hb2] at this;cases this
   obtain ⟨kk,a1,a2⟩:=me (j:=i) (v:=e.key) g5 (by simp only[List.getElem?_map,hi,Option.map_some])
   rw[hk1] at a1;cases a1
   obtain ⟨xx,b1,b2⟩:=me (j:=i) (v:=e.val) g6 (by simp only[List.getElem?_map,hi,Option.map_some])
   rw[hx1] at b1;cases b1
   obtain ⟨c1,c2,c3⟩:=oe (py k5 hk1) a2
   obtain ⟨d1,d2,d3⟩:=oe (py k6 hx1) b2
   simp only[aW,aG]
   exact ⟨[.bool true,e.key,e.val],rfl,.bool true,_,[.bool true],rfl,by simp[bJ,I.isAgg],by simp[ah],e.key,_,c1,rfl,c2,c3,e.val,[],d1,rfl,d2,d3,rfl⟩
theorem aff{y:Operand}{y':aJ}{ks vs:List I}{left:List Nat}{i n:Nat}{k x:I}(ho:o.op=.entry y)(hy:bH c.P 0 y=some y')(h:ae A y'=.dj n)(hn:A.o n=some (.it ks vs left (some i)))(hk:ks[i]?=some k)(hx:vs[i]?=some x):dL c A o (.tuple [k,x]) :=
 .same fun a w D E hs=>by
  have h1:=b7 hs hy
  rw[h] at h1
  obtain ⟨cs,q1,q2⟩:=h1
  simp only[ah] at q2
  obtain ⟨r,q3,q4⟩:=q2
  have hv:a.eval y=.pointer (some ⟨r,0,none⟩):=by simpa[bJ,I.isAgg,q4] using q1.symm
  have hob:=hs.bQ n
  rw[hn] at hob
  obtain ⟨r',b,es,ck,since,cd,last,k1,k2,k3,k4,k5,k6,k7,k8,k9,k9',k10⟩:=hob
  rw[k1] at q3;cases q3
  obtain ⟨e,e1,e2,rfl⟩:=k9' i rfl
  have hi:es.toList[i]?=some e:=by rw[Array.getElem?_toList];exact e1
  obtain ⟨kk,a1,a2⟩:=me (j:=i) (v:=e.key) k5 (by simp only[List.getElem?_map,hi,Option.map_some])
  rw[hk] at a1;cases a1
  obtain ⟨xx,b1,b2⟩:=me (j:=i) (v:=e.val) k6 (by simp only[List.getElem?_map,hi,Option.map_some])
  rw[hx] at b1;cases b1
  obtain ⟨c1,c2,c3⟩:=oe (py k5 hk) a2
  obtain ⟨d1,d2,d3⟩:=oe (py k6 hx) b2
  have hf:es.find? (·.born==e.born)=some e:=by rw[←Array.find?_toList];exact find_born e es.toList k4.2.2.2 (List.mem_of_getElem? hi)
  refine ⟨.tuple #[e.key,e.val],?_,?_⟩
  ·have hr:(Instr.entry (.pointer (some ⟨r,0,none⟩))).run c.P w=.ok (.tuple #[e.key,e.val]) w:=by
    simp only[Instr.entry,getObj,Sem.run_bind,Sem.run,k3,k4.1,Result.andThen,e2,bne_self_eq_false,Bool.false_eq_true,if_false,hf]
    rfl
   simp only[execOp,ho,hv,Sem.run_bind,hr,Result.andThen_ok,Sem.run_pure]
  ·simp only[aW,aG]
   exact ⟨[e.key,e.val],rfl,e.key,_,c1,rfl,c2,c3,e.val,[],d1,rfl,d2,d3,rfl⟩
theorem Lo{w:World}{D:aQ}{E:aX}{z:I}{v:Value}(h:ah w D E z [v]):∀ n:Nat,aH w D E (List.replicate n z) (List.replicate n v)
 |0=>by simp[aH]
 |n+1=>by simp only[List.replicate_succ,aH];exact ⟨[v],_,rfl,h,Lo h n⟩
theorem Wn{t e:TypeId}{l l':Operand}{n':aJ}{z:I}{n d:Nat}{k:IntKind}(ho:o.op=.makeSlice t l l')(hll:l'=l)(hu:c.P.underlying t=some (.slice e))(hl:bH c.P 0 l=some n')(h:ae A n'=.int k n)(hz:fL c.P e=some z)(hz1:z.size=1)
  (hc1:c.P.cellsOf e=1) (hby:n*c.P.bytesOf e≤281474976710656) (hmax:n≤maxLen) (hd:o.dst=some d) (hn:d<c.n) (hf:A.o d=none):iz c A o ((A.aR d (.box (.agg (List.replicate n z)))).put d (.view d [] 1 0 n)):=by
 subst hll
 intro a w D E hs
 have h1:=b7 hs hl
 rw[h] at h1
 obtain ⟨e1,_⟩:=fh h1
 obtain ⟨i,zv,hi,hzz,hzr⟩:=lF hz
 have hzc:=ah.length _ _ (hzr w D E)
 rw[hz1] at hzc
 obtain ⟨aq,hu1⟩:∃ aq,zv.cells = #[aq]:=by
  have:zv.cells.size=1:=by simpa using hzc
  obtain ⟨aq,hu⟩:=Array.size_eq_one_iff.1 this
  exact ⟨aq,hu⟩
 have hsz:i.size=1:=by have:=hc1;simp only[Program.cellsOf,hi,Option.map_some,Option.getD_some] at this;exact this
 have hbytes:(i.bytes:Int)*(n:Int)≤281474976710656:=by
  have:c.P.bytesOf e=i.bytes:=by simp[Program.bytesOf,hi]
  rw[this] at hby
  have h2:((i.bytes*n:Nat):Int)≤281474976710656:=by rw[Nat.mul_comm] at hby;omega
  rwa [Int.natCast_mul] at h2
 have hrun:=run_make (P:=c.P) w t e i zv hu hi hzz k k n n (by omega) (Int.le_refl _) hbytes (by have h9:=hmax;unfold maxLen at h9;omega)
 simp only[Int.toNat_natCast,hsz,Nat.mul_one] at hrun
 have hmc:(madeCells zv.cells n).toList=List.replicate n aq:=by
  rw[hu1]
  simp only[madeCells]
  apply List.ext_getElem?
  intro j
  simp[List.getElem?_replicate]
  split <;>simp_all[Nat.mod_one]
 have hcells:ah w D E (.agg (List.replicate n z)) (madeCells zv.cells n).toList:=by
  rw[hmc]
  simp only[ah]
  refine Lo ?_ n
  have:=hzr w D E
  rw[hu1] at this
  simpa using this
 have h2:=hs.qq (T:=e) (.inl hn) hf hcells
 have h3:=h2.put (x:=.view d [] 1 0 n) (v:=.slice (some ⟨w.heap.size,0,none⟩) n n) hn ⟨_,by simp[bJ,I.isAgg];rfl,by
  simp only[ah,if_true]
  refine ⟨w.heap.size,_,0,I.cM (List.replicate n z),rfl,by simp[cO.off],by simp[I.aT,cO.part],by simp[I.di],by simpa[I.di] using hmax,by simp[I.di],fun s hs =>?_⟩
  rw[I.di] at hs
  obtain ⟨y,hy,rfl⟩:=List.mem_map.1 hs
  rw[I.lB,(List.mem_replicate.1 hy).2,hz1]⟩
 refine ⟨_,.inl ⟨_,?_,D,_,by rw[hd];exact h3⟩⟩
 simp only[execOp,ho,e1,Sem.run_bind,hrun,Result.andThen_ok,Sem.run_pure]
end
end Go.Abs
namespace Go.Abs
open Go Go.RowKit
mutual
/-- Values that lead to no memory. -/
def I.flat:I→Bool
 | .agg fs | .tuple fs=>I.oP fs
 | .bool _ | .int _ _ | .cX _ | .nilp | .de | .dQ | .raw _ | .undef | .db=>true
 |_=>false
def I.oP:List I→Bool
 | []=>true
 |x::xs=>x.flat&&I.oP xs
end
mutual
theorem ah.flat{w w':World}{D D':aQ}{E E':aX} : ∀ (x:I) (cs:List Value),x.flat=true→ah w D E x cs→ah w' D' E' x cs
 | .agg fs,cs,hf,hr=>by simp only[ah,I.flat] at *;exact aH.flat fs cs hf hr
 | .bool b,cs,_,hr=>by simpa only[ah] using hr
 | .int k n,cs,_,hr=>by simpa only[ah] using hr
 | .cX s,cs,_,hr=>by simpa only[ah] using hr
 | .nilp,cs,_,hr=>by simpa only[ah] using hr
 | .de,cs,_,hr=>by simpa only[ah] using hr
 | .dQ,cs,_,hr=>by simpa only[ah] using hr
 | .raw _,cs,_,hr=>by simpa only[ah] using hr
 | .undef,_,_,hr=>by simp only[ah] at hr
 | .db,_,_,hr=>by simp only[ah] at hr
 | .tuple _,_,_,hr=>by simp only[ah] at hr
 | .nils _,_,hf,_ | .c0 _,_,hf,_ | .slice _ _,_,hf,_ | .ref _,_,hf,_ | .func _ _,_,hf,_ | .iface _ _,_,hf,_ | .ptr _ _,_,hf,_ | .own _ _,_,hf,_ | .view _ _ _ _ _,_,hf,_ | .mref _,_,hf,_ | .dj _,_,hf,_ | .cS _ _,_,hf,_=>by simp[I.flat] at hf
theorem aH.flat{w w':World}{D D':aQ}{E E':aX} : ∀ (xs:List I) (cs:List Value),I.oP xs=true→aH w D E xs cs→aH w' D' E' xs cs
 | [],cs,_,hr=>by simpa only[aH] using hr
 |x::xs,cs,hf,hr=>by
  simp only[aH,I.oP,Bool.and_eq_true] at *
  obtain ⟨c1,c2,h1,h2,h3⟩:=hr
  exact ⟨c1,c2,h1,ah.flat x c1 hf.1 h2,aH.flat xs c2 hf.2 h3⟩
end
theorem aG.flat{w w':World}{D D':aQ}{E E':aX} : ∀ (xs:List I) (vs:List Value),I.oP xs=true→aG w D E xs vs→aG w' D' E' xs vs
 | [],vs,_,hr=>by simpa only[aG] using hr
 |x::xs,vs,hf,hr=>by
  simp only[aG,I.oP,Bool.and_eq_true] at *
  obtain ⟨v,rest,cs,h1,h2,h3,h4⟩:=hr
  exact ⟨v,rest,cs,h1,h2,ah.flat x cs hf.1 h3,aG.flat xs rest hf.2 h4⟩
theorem aW.flat{w w':World}{D D':aQ}{E E':aX}{x:I}{v:Value}(hf:x.flat=true)(hr:aW w D E x v):aW w' D' E' x v:=by
 cases x <;>simp only[aW] at * <;>first
  |exact hr
  |(obtain ⟨vs,h1,h2⟩:=hr;exact ⟨vs,h1,aG.flat _ _ (by simpa[I.flat] using hf) h2⟩)
  |(obtain ⟨cs,h1,h2⟩:=hr;exact ⟨cs,h1,ah.flat _ _ hf h2⟩)
def dp:aX:=fun _=>none
def az(P:Program)(f:FuncId)(args:List I)(r:I):Prop :=
 gI P f=true∧∀ (w:World) (D:aQ) (vs:List Value),(∀ b o,D b o→b<w.heap.size)→aG w D dp args vs →
  Calls P f vs.toArray w fun e w'=>∃ v D',e=.returned v∧aW w' D' dp r v∧Below w.heap.size w w'∧(∀ b o,D' b o→b<w'.heap.size)∧∀ b o,D' b o→b<w.heap.size→D b o
def cA(P:Program)(f:FuncId)(args:List I)(os:List (Nat×ai))(post:cR):Prop :=
 gI P f=true∧pI (Calls P f) (fun _ _ _=>True) args os post
def bD(p:Nat→Bool):List (Nat×ai)→Prop
 | []=>True
 |(_,v)::r=>v.only p=true∧bD p r
def c4(ns:List Nat)(os:List (Nat×ai)):List (Nat×ai):=os.filter fun q => !ns.contains q.1
def fW(ns:List Nat)(ts:List (Nat×I)):List (Nat×I):=ts.map fun q=>(q.1,if q.2.only (fun n => !ns.contains n) then q.2 else .db)
def iJ(ns:List Nat)(os:List (Nat×ai)):List (Nat×ai):=os.filter fun q=>ns.contains q.1
def jD(ρ:List (Nat×Nat))(os:List (Nat×ai)):List Nat:=os.map fun q=>bF ρ q.1
def iZ(aD:Bool)(A0:af)(ρ:List (Nat×Nat))(os:List (Nat×ai)):List I→List I→Prop
 | [],[]=>True
 |x::xs,c::cs=>((x=c.aS (bF ρ)∧c.only (au os)=true∧c.cq=true)∨bp aD A0 x=some c)∧iZ aD A0 ρ os xs cs
 |_,_=>False
structure aB where
 dst:Option Nat
 op:b5
 guard:Option (Nat×Bool)
 deriving Inhabited
inductive cE where
 |done (A:af)
 |fail
 |call (f:FuncId) (avs:List I) (a1 a2:Option (List I)) (dst:Option Nat) (rest:List aB) (A:af)
 |oJ (v:Value) (avs:List I) (dst:Option Nat) (rest:List aB) (A:af)
 |iX (f:FuncId) (avs:List I) (dst:Option Nat) (rest:List aB) (A:af)
 |any (p:Nat→Prop) (k:Nat→cE)
def cL(x:Option I)(k:I→cE):cE:=match x with
 |some v=>k v
 |none=>.fail
def xy(s:Option Nat)(v old:I):Prop:=v.cq=true∧bZ s v=true∧v.aT=old.aT
def xn(e esz bytes l sz:Nat)(ys:List I)(T sz':Nat)(es:List I):Prop:=l=es.length∧sz=esz∧T=e∧sz'=esz∧ys≠[]∧es.length+ys.length≤maxLen∧(es.length+ys.length)*bytes≤140737488355328
def qd(ys:List I):List Int:=ys.filterMap fun y=>match y with | .int .i64 i=>some i | _=>none
def xp(e esz bytes l:Nat)(ys:List I)(T:Nat)(xs:List Int)(z:I):Prop:=l=xs.length∧esz=1∧T=e∧z=.int .i64 0∧ys=(qd ys).map (.int .i64)∧ys≠[]∧xs.length+ys.length≤maxLen∧(xs.length+ys.length)*bytes≤140737488355328
def jK:I→Bool
 | .slice _ es=>es.isEmpty
 | .c0 _=>true
 |_=>false
open Classical in
noncomputable def fM(A:af)(dst:Option Nat)(esz bytes:Nat)(z:I)(es ys:List I)(k:af→cE):cE :=
 match dst with
 |some d=>match A.o d with
  |none=>if (es.length+ys.length)*bytes≤140737488355328∧es.length+ys.length≤maxLen then
    .any (fun m=>es.length+ys.length+m≤maxLen) (fun m=>k ((A.aR d (.box (.agg (es++(ys++List.replicate m z))))).aO dst (.view d [] esz 0 (es.length+ys.length)))) else .fail
  |some _=>.fail
 |none=>.fail
open Classical in
noncomputable def eY(A:af)(dst:Option Nat)(esz bytes:Nat)(z:I)(s:I):Option (List I)→Option (List I)→(af→cE)→cE
 |some es,some ys,k=>if ys=[] then k (A.aO dst s) else match s with
  | .nils _=>fM A dst esz bytes z es ys k
  | .c0 _=>fM A dst esz bytes z es ys k
  | .view n p sz lo l=>match A.o n with
   |some (.box b)=>match b.at p with
    |some (.agg fs)=>if lo+l+ys.length≤fs.length then
      (if sz=esz∧I.cM ys=I.cM ((fs.drop (lo+l)).take ys.length) then k ((A.aR n (.box (gV b p (lo+l) fs ys))).aO dst (.view n p esz lo (l+ys.length))) else .fail)
      else fM A dst esz bytes z es ys k
    |_=>.fail
   |_=>.fail
  |_=>.fail
 |_,_,_=>.fail
open Classical in
noncomputable def pQ(A:af)(dst:Option Nat)(esz bytes:Nat)(z:I)(m:Nat)(s:I):Option (List I)→(af→cE)→cE
 |some es,k=>match s with
  | .view n p _ lo l=>match A.o n with
   |some (.box b)=>match b.at p with
    |some (.agg fs)=>if 0<m∧fs.length<lo+l+m then fM A dst esz bytes z es (List.replicate m z) k else .fail
    |_=>.fail
   |_=>.fail
  |_=>.fail
 |_,_=>.fail
open Classical in
noncomputable def mF(A:af)(esz:Nat)(z:I)(k:af→cE):I→cE
 | .view n p sz lo l=>match A.o n with
  |some (.box b)=>match b.at p with
   |some (.agg fs)=>if sz=esz∧I.cM (List.replicate l z)=I.cM ((fs.drop lo).take l) then k (A.aR n (.box (gV b p lo fs (List.replicate l z)))) else .fail
   |_=>.fail
  |_=>.fail
 | .nils _=>k A
 | .c0 _=>k A
 |_=>.fail
open Classical in
noncomputable def nk(A:af)(dst:Option Nat)(esz:Nat)(k:af→cE):I→Option (List I)→cE
 | .view n p sz lo l,some ys=>match A.o n with
  |some (.box b)=>match b.at p with
   |some (.agg fs)=>if sz=esz∧I.cM (ys.take (min ys.length l))=I.cM ((fs.drop lo).take (min ys.length l)) then k ((A.aR n (.box (gV b p lo fs (ys.take (min ys.length l))))).aO dst (.int .i64 (min ys.length l:Nat))) else .fail
   |_=>.fail
  |_=>.fail
 |_,_=>.fail
open Classical in
noncomputable def bl(A:af)(dst:Option Nat)(op:b5)(rest:List aB)(k:af→cE):cE :=
 match op with
 | .alloc z=>match dst with
  |some d=>match A.o d with
   |none=>k ((A.aR d (.box z)).put d (.ptr d []))
   |some _=>.fail
  |none=>.fail
 | .box x=>match dst with
  |some d=>match A.o d with
   |none=>if (ae A x).cq then k ((A.aR d (.box (ae A x))).put d (.ptr d [])) else .fail
   |some _=>.fail
  |none=>.fail
 | .bx s x v=>match dst with
  |none=>match ae A x with
   | .ptr n p=>match A.o n with
    |some (.box b)=>match b.at p with
     |some old=>if xy s (ae A v) old then k (A.aR n (.box (b.dK p (ae A v)))) else .fail
     |none=>.fail
    |_=>.fail
   |_=>.fail
  |some _=>.fail
 | .dq e esz bytes z s x=>match ae A s with
  | .own n l=>match ae A x with
   | .slice sz ys=>match A.o n with
    |some (.bX T sz' es)=>if xn e esz bytes l sz ys T sz' es then k ((A.aR n (.bX e esz (es++ys))).aO dst (.own n (es.length+ys.length))) else .fail
    |some (.cU T xs)=>if xp e esz bytes l ys T xs z then k ((A.aR n (.cU e (xs++qd ys))).aO dst (.own n (xs.length+ys.length))) else .fail
    |_=>.fail
   |_=>.fail
  |s'=>eY A dst esz bytes z s' (ec A esz s') (ec A esz (ae A x)) k
 | .ka _ esz bytes z s n=>match ae A n with
  | .int _ m=>pQ A dst esz bytes z m.toNat (ae A s) (ec A esz (ae A s)) k
  |_=>.fail
 | .nilS neg x=>if jK (ae A x) then .any (fun m=>m<2) (fun m=>k (A.aO dst (.bool (m==0)))) else cL (br A (.nilS neg x)) fun v=>k (A.aO dst v)
 | .jb esz z x=>match dst with
  |none=>mF A esz z k (ae A x)
  |some _=>.fail
 | .ib esz x y=>nk A dst esz k (ae A x) (ec A esz (ae A y))
 | .call f args=>.call f (args.map (ae A)) (bY true A (args.map (ae A))) (bY false A (args.map (ae A))) dst rest A
 | .en x args=>match ae A x with
  | .func f caps=>.call f (args.map (ae A)++caps) (bY true A (args.map (ae A)++caps)) (bY false A (args.map (ae A)++caps)) dst rest A
  | .raw v=>.oJ v (args.map (ae A)) dst rest A
  |_=>.fail
 | .iX f args=>.iX f (args.map (ae A)) dst rest A
 | .jC=>match dst with
  |some d=>match A.o d with
   |none=>k ((A.aR d (.ct [] [])).put d (.mref d))
   |some _=>.fail
  |none=>.fail
 | .jV _ bytes z n=>match dst with
  |some d=>match A.o d with
   |none=>match ae A n with
    | .int _ n=>if 0≤n∧n.toNat*bytes≤281474976710656∧n.toNat≤maxLen then k ((A.aR d (.box (.agg (List.replicate n.toNat z)))).put d (.view d [] 1 0 n.toNat)) else .fail
    |_=>.fail
   |some _=>.fail
  |none=>.fail
 | .gA ty m key v=>match dst with
  |none=>match ae A m with
   | .mref n=>match A.o n with
    |some (.ct ks vs)=>match fQ ty (ae A key) (ae A v) ks vs with
     |some (ks',vs')=>k (A.aR n (.ct ks' vs'))
     |none=>.fail
    |_=>.fail
   |_=>.fail
  |some _=>.fail
 | .j0 x=>match dst with
  |some d=>match A.o d with
   |none=>match ae A x with
    | .cS ks vs=>k ((A.aR d (.it ks vs (List.range ks.length) none)).put d (.dj d))
    |_=>.fail
   |some _=>.fail
  |none=>.fail
 | .jl x=>match ae A x with
  | .dj n=>match A.o n with
   |some (.it ks vs left cur)=>if left=[] then k (A.aO dst (.tuple [.bool false])) else
     .any (fun i=>i∈left) fun i=>match ks[i]?,vs[i]? with
      |some kk,some x=>k ((A.aR n (.it ks vs (left.filter (· != i)) (some i))).aO dst (.tuple [.bool true,kk,x]))
      |_,_=>.fail
   |_=>.fail
  |_=>.fail
 |op=>cL (br A op) fun v=>k (A.aO dst v)
noncomputable def aC:List aB→af→cE
 | [],A=>.done A
 |g::rest,A=>match g.guard with
  |none=>bl A g.dst g.op rest (aC rest)
  |some (t,b)=>match A.t t with
   | .bool b'=>if b'=b then bl A g.dst g.op rest (aC rest) else aC rest (A.aO g.dst .undef)
   | .undef=>aC rest (A.aO g.dst .undef)
   |_=>.fail
def y5(P:Program)(A:af)(f:FuncId)(avs:List I)(r:I):Prop :=
 ∀ (c:cQ) (a:Act) (w:World) (D:aQ) (E:aX) (vs:List Value),c.P=P→aU c A a w D E→fG (aW w D E) avs vs→∃ v,(callFunc f vs.toArray).run P w=.ok (.value v) w∧aW w D E r v
inductive a6 (P:Program) (Y:Value→List I→List (Nat×ai)→cR→Prop) (dr:Bool) (K:af→Prop):cE→Prop where
 |done {A:af} : K A→a6 P Y dr K (.done A)
 |flat {f:FuncId} {avs cargs:List I} {a2:Option (List I)} {dst:Option Nat} {rest:List aB} {A:af} (r:I):az P f cargs r→r.flat=true→a6 P Y dr K (aC rest (A.aO dst r))→a6 P Y dr K (.call f avs (some cargs) a2 dst rest A)
 |lead {f:FuncId} {avs cargs:List I} {a1:Option (List I)} {dst:Option Nat} {rest:List aB} {A:af} (r:I):az P f cargs r→a6 P Y dr K (aC rest (A.aO dst r))→a6 P Y dr K (.call f avs a1 (some cargs) dst rest A)
 |ik {f:FuncId} {avs cargs:List I} {a1 a2:Option (List I)} {dst:Option Nat} {rest:List aB} {ts:List (Nat×I)} {os0:List (Nat×ai)} (ns:List Nat) (r:I):dr=false→az P f cargs r→bY true (av ts (iJ ns os0)) avs=some cargs →
   bD (fun n => !ns.contains n) (c4 ns os0)→a6 P Y dr K (aC rest ((av (fW ns ts) (c4 ns os0)).aO dst r))→a6 P Y dr K (.call f avs a1 a2 dst rest (av ts os0))
 |bQ {f:FuncId} {avs:List I} {a1 a2:Option (List I)} {dst:Option Nat} {rest:List aB} {ts:List (Nat×I)} {os0:List (Nat×ai)} (aD:Bool) (ρ:List (Nat×Nat)) (os:List (Nat×ai)) (cargs:List I) (post:cR):dr=false→cA P f cargs os post →
   fy ρ os os0→iZ aD (av ts (c4 (jD ρ os) os0)) ρ os avs cargs→(∀ r os',post r os'→dn aD ρ os os0 r os') →
   (∀ r os',post r os'→a6 P Y dr K (aC rest ((av ts (dF ρ os'++os0)).aO dst (r.aS (bF ρ)))))→a6 P Y dr K (.call f avs a1 a2 dst rest (av ts os0))
 |yq {v:Value} {avs:List I} {dst:Option Nat} {rest:List aB} {ts:List (Nat×I)} {os0:List (Nat×ai)} (os:List (Nat×ai)) (cargs:List I) (post:cR):dr=false→Y v cargs os post →
   fy [] os os0→iZ false (av ts (c4 (jD [] os) os0)) [] os avs cargs→(∀ r os',post r os'→dn false [] os os0 r os') →
   (∀ r os',post r os'→a6 P Y dr K (aC rest ((av ts (dF [] os'++os0)).aO dst (r.aS (bF [])))))→a6 P Y dr K (.oJ v avs dst rest (av ts os0))
 |ext {f:FuncId} {avs:List I} {dst:Option Nat} {rest:List aB} {A:af} (r:I):dr=false→y5 P A f avs r→a6 P Y dr K (aC rest (A.aO dst r))→a6 P Y dr K (.iX f avs dst rest A)
 |any {p:Nat→Prop} {k:Nat→cE} : dr=false→(∀ m,p m→a6 P Y dr K (k m))→a6 P Y dr K (.any p k)
def B3(n:Nat):Option Nat→Bool
 |some d=>decide (d<n)
 |none=>true
def oI(P:Program)(n:Nat)(bO:Array Oper)(o:Oper):Option aB :=
 match dx P o with
 |none=>none
 |some g=>if B3 n o.dst=true then
   match o.guard with
   |none=>some ⟨o.dst,g,none⟩
   |some (j,b)=>match (bO[j]?).bind (·.dst) with
    |some t=>some ⟨o.dst,g,some (t,b)⟩
    |none=>none
  else none
def kd(P:Program)(n:Nat)(bO:Array Oper):List Oper→Option (List aB)
 | []=>some []
 |o::l=>match oI P n bO o,kd P n bO l with
  |some g,some gs=>some (g::gs)
  |_,_=>none
end Go.Abs
namespace Go.Abs
open Go Go.RowKit
section
variable {c:cQ} {A:af} {o:Oper} {x:I}
theorem aiC{g:b5}(hg:dx c.P o=some g)(h:br A g=some x):dL c A o x:=by
 unfold dx at hg
 split at hg
 -- move
 ·rename_i y ho
  simp only[Option.map_eq_some_iff] at hg
  obtain ⟨z,hz,rfl⟩:=hg
  simp only[br,Option.some.injEq] at h
  subst h
  exact HV (.inl ho) hz
 ·rename_i y ho
  simp only[Option.map_eq_some_iff] at hg
  obtain ⟨z,hz,rfl⟩:=hg
  simp only[br,Option.some.injEq] at h
  subst h
  exact HV (.inr ho) hz
 -- pick
 ·rename_i q y z ho
  split at hg
  ·rename_i q' y' z' h1 h2 h3
   simp only[Option.some.injEq] at hg
   subst hg
   simp only[br] at h
   split at h
   ·rename_i t ht
    simp only[Option.some.injEq] at h
    subst h
    exact afw ho h1 h2 h3 ht
   ·cases h
  ·cases hg
 -- binOp
 ·rename_i op t y z yt ho
  split at hg
  ·rename_i k y' z' hu h1 h2
   simp only[Option.some.injEq] at hg
   subst hg
   exact HT ho h1 h2 h
  ·rename_i y' z' hu h1 h2
   simp only[Option.some.injEq] at hg
   subst hg
   exact HT ho h1 h2 h
  ·rename_i e y' z' hu h1 h2
   split at hg
   ·rename_i s
    split at hg
    ·rename_i hop
     simp only[Option.some.injEq] at hg
     subst hg
     have ho':o.op=.binOp (if (op==.neq)=true then .neq else .eql) t y z yt:=by
      rcases hop with rfl | rfl <;>simpa using ho
     simp only[br] at h
     split at h
     ·rename_i s' hs'
      simp only[Option.some.injEq] at h
      subst h
      have:=wo (r:=true) ho' hu h1 h2 (.inl ⟨s',hs',rfl⟩)
      rw[show (if (op==BinOp.neq)=true then !true else true) = !(op==BinOp.neq) from by cases (op==BinOp.neq) <;>rfl] at this
      exact this
     ·rename_i s' es hs'
      split at h
      ·cases h
      ·rename_i hne
       simp only[Option.some.injEq] at h
       subst h
       have:=wo (r:=false) ho' hu h1 h2 (.inr (.inl ⟨s',es,hs',by simpa using hne,rfl⟩))
       rw[show (if (op==BinOp.neq)=true then !false else false)=(op==BinOp.neq) from by cases (op==BinOp.neq) <;>rfl] at this
       exact this
     ·rename_i n p s' lo k hs'
      simp only[Option.some.injEq] at h
      subst h
      have:=wo (r:=false) ho' hu h1 h2 (.inr (.inr ⟨n,p,s',lo,k,hs',rfl⟩))
      rw[show (if (op==BinOp.neq)=true then !false else false)=(op==BinOp.neq) from by cases (op==BinOp.neq) <;>rfl] at this
      exact this
     ·cases h
    ·cases hg
   ·cases hg
  ·rename_i e y' z' hu h1 h2
   split at hg
   ·rename_i hop
    simp only[Option.some.injEq] at hg
    subst hg
    have ho':o.op=.binOp (if (op==.neq)=true then .neq else .eql) t y z yt:=by
     rcases hop with rfl | rfl <;>simpa using ho
    simp only[br] at h
    cases hb1:iH (ae A y') with
    |none=>rw[hb1] at h;cases h
    |some b1=>cases hb2:iH (ae A z') with
     |none=>rw[hb1,hb2] at h;cases h
     |some b2 =>
      rw[hb1,hb2] at h
      simp only[l6] at h
      split at h
      ·rename_i hor
       simp only[Option.some.injEq] at h
       subst h
       exact afx ho' hu h1 h2 hb1 hb2 (by simpa using hor)
      ·cases h
   ·cases hg
  ·rename_i d y' z' _ _ _ _ hu h1 h2
   split at hg
   ·rename_i hop
    simp only[Option.map_eq_some_iff] at hg
    obtain ⟨ty,hty,rfl⟩:=hg
    have ho':o.op=.binOp (if (op==.neq)=true then .neq else .eql) t y z yt:=by
     rcases hop.1 with rfl | rfl <;>simpa using ho
    simp only[br,Option.map_eq_some_iff] at h
    obtain ⟨r,hr,rfl⟩:=h
    exact afg ho' h1 h2 hop.2 hty hr
   ·cases hg
  ·cases hg
 -- unOp
 ·rename_i op t y ho
  simp only[Option.map_eq_some_iff] at hg
  obtain ⟨z,hz,rfl⟩:=hg
  simp only[br] at h
  split at h
  ·rename_i b hb
   simp only[Option.some.injEq] at h
   subst h
   exact afv ho hz hb
  ·rename_i k n hb
   simp only[Option.some.injEq] at h
   subst h
   exact afu ho hz hb
  ·rename_i k n hb
   simp only[Option.some.injEq] at h
   subst h
   exact afe ho hz hb
  ·cases h
 -- nilCheck
 ·rename_i y ho
  simp only[Option.map_eq_some_iff] at hg
  obtain ⟨z,hz,rfl⟩:=hg
  simp only[br] at h
  cases hy:ae A z <;>rw[hy] at h <;>simp only[lY,Option.some.injEq] at h <;>try (cases h;done)
  ·subst h;rw[←hy];exact HW ho hz (.inr ⟨_,hy⟩)
  ·subst h;rw[←hy];exact HW ho hz (.inl ⟨_,_,hy⟩)
 -- makeMap
 ·simp only[Option.some.injEq] at hg
  subst hg
  simp[br] at h
 -- lookup
 ·rename_i t m k ok ho
  split at hg
  ·rename_i kt et m' k' hu h1 h2
   split at hg
   ·rename_i ty z hk hz
    split at hg
    ·rename_i hp
     simp only[Option.some.injEq] at hg
     subst hg
     simp only[br] at h
     cases hm:fZ A (ae A m') with
     |none=>rw[hm] at h;cases h
     |some q =>
      obtain ⟨ks,vs⟩:=q
      rw[hm] at h
      simp only[qk] at h
      cases hl:fX ty z (ae A k') ks vs with
      |none=>rw[hl] at h;cases h
      |some q =>
       obtain ⟨v,b⟩:=q
       rw[hl] at h
       simp only[ql,Option.some.injEq] at h
       subst h
       exact afs ho hu hk hz hp h1 h2 hm hl
    ·cases hg
   ·cases hg
  ·cases hg
 -- mapUpdate,insert
 iterate 2
  ·split at hg
   ·split at hg
    ·simp only[Option.some.injEq] at hg
     subst hg
     simp[br] at h
    ·cases hg
   ·cases hg
 -- makeSlice
 ·split at hg
  ·split at hg
   ·split at hg
    ·simp only[Option.some.injEq] at hg
     subst hg
     simp[br] at h
    ·cases hg
   ·cases hg
  ·cases hg
 -- range
 ·split at hg
  ·simp only[Option.map_eq_some_iff] at hg
   obtain ⟨z,_,rfl⟩:=hg
   simp[br] at h
  ·cases hg
 -- next
 ·simp only[Option.map_eq_some_iff] at hg
  obtain ⟨z,_,rfl⟩:=hg
  simp[br] at h
 -- entry
 ·rename_i y ho
  simp only[Option.map_eq_some_iff] at hg
  obtain ⟨z,hz,rfl⟩:=hg
  simp only[br] at h
  split at h
  ·rename_i n hn
   split at h
   ·rename_i ks vs left cur hob
    cases cur with
    |none=>cases h
    |some i =>
     simp only[oL] at h
     split at h
     ·rename_i kk xx hk hx
      simp only[Option.some.injEq] at h
      subst h
      exact aff ho hz hn hob hk hx
     ·cases h
   ·cases h
  ·cases h
 -- convert
 ·rename_i m6 dst y ho
  split at hg
  ·rename_i k0 k y' h1 h2 h3
   simp only[Option.some.injEq] at hg
   subst hg
   simp only[br] at h
   split at h
   ·rename_i k1 n hn
    simp only[Option.some.injEq] at h
    subst h
    exact afd ho h1 h2 h3 hn
   ·cases h
  ·cases hg
 -- load
 ·rename_i t y ho
  split at hg
  ·rename_i s y' h1 h2
   simp only[Option.some.injEq] at hg
   subst hg
   simp only[br] at h
   split at h
   ·rename_i v hv
    split at h
    ·rename_i hok
     simp only[Option.some.injEq] at h
     subst h
     exact afr ho h1 h2 hv hok
    ·cases h
   ·cases h
  ·cases hg
 -- fieldAddr
 ·rename_i t y f ho
  split at hg
  ·rename_i fs y' hu h1
   split at hg
   ·rename_i fd hf
    split at hg
    ·cases hg
    ·rename_i hz
     simp only[Option.some.injEq] at hg
     subst hg
     simp only[br] at h
     split at h
     ·rename_i gs hgs
      split at h
      ·rename_i v hv
       split at h
       ·rename_i hoff
        simp only[Option.some.injEq] at h
        subst h
        exact afj ho hu hf hz h1 hgs hv hoff
       ·cases h
      ·cases h
     ·rename_i n p hp
      split at h
      ·rename_i gs hgs
       split at h
       ·rename_i hoff
        simp only[Option.some.injEq] at h
        subst h
        exact afi ho hu hf hz h1 hp hgs hoff.1 hoff.2
       ·cases h
      ·cases h
     ·cases h
   ·cases hg
  ·cases hg
 -- field
 ·rename_i t y f ho
  split at hg
  ·rename_i fs y' hu h1
   split at hg
   ·rename_i fd hf
    simp only[Option.map_eq_some_iff] at hg
    obtain ⟨s,hs,rfl⟩:=hg
    simp only[br] at h
    split at h
    ·rename_i gs hgs
     split at h
     ·rename_i v hv
      split at h
      ·rename_i hoff
       simp only[Option.some.injEq] at h
       subst h
       exact afk ho hu hf hs h1 hgs hv hoff.1 hoff.2
      ·cases h
     ·cases h
    ·cases h
   ·cases hg
  ·cases hg
 -- indexAddr
 ·rename_i t y i ho
  split at hg
  ·rename_i n e y' i' hu h1 h2
   split at hg
   ·rename_i hinfo
    obtain ⟨ti,hti⟩:=Option.isSome_iff_exists.1 hinfo
    simp only[Option.some.injEq] at hg
    subst hg
    simp only[br] at h
    split at h
    ·rename_i kk k hk
     split at h
     ·rename_i hb
      split at h
      ·rename_i gs hgs
       split at h
       ·rename_i hev
        simp only[Option.map_eq_some_iff] at h
        obtain ⟨v,hv,rfl⟩:=h
        exact afm ho hu hti h1 h2 hgs hk hb hev hv
       ·cases h
      ·rename_i m p hp
       split at h
       ·rename_i gs hgs
        split at h
        ·rename_i hev
         simp only[Option.some.injEq] at h
         subst h
         exact afl ho hu hti h1 h2 hp hk hb hgs hev
        ·cases h
       ·cases h
      ·cases h
     ·cases h
    ·cases h
   ·cases hg
  ·rename_i e y' i' hu h1 h2
   split at hg
   ·rename_i hinfo
    obtain ⟨ti,hti⟩:=Option.isSome_iff_exists.1 hinfo
    simp only[Option.some.injEq] at hg
    subst hg
    simp only[br] at h
    split at h
    ·rename_i kk k hk
     split at h
     ·rename_i sz es hes
      split at h
      ·rename_i hb
       obtain ⟨rfl,hb⟩:=hb
       simp only[Option.map_eq_some_iff] at h
       obtain ⟨v,hv,rfl⟩:=h
       exact afn ho hu hti h1 h2 hes hk hb hv
      ·cases h
     ·rename_i m l hm
      split at h
      ·rename_i T sz es hes
       split at h
       ·rename_i hb
        obtain ⟨rfl,rfl,hb⟩:=hb
        simp only[Option.map_eq_some_iff] at h
        obtain ⟨v,hv,rfl⟩:=h
        exact afo ho hu hti h1 h2 hm hes hk hb hv
       ·cases h
      ·cases h
     ·rename_i m p sz lo l hm
      split at h
      ·rename_i fs hfs
       split at h
       ·rename_i hb
        simp only[Option.some.injEq] at h
        subst h
        exact afp ho hu hti h1 h2 hb.1 hm hfs hk hb.2
       ·cases h
      ·cases h
     ·cases h
    ·cases h
   ·cases hg
  ·cases hg
 -- index
 ·rename_i t y i ho
  split at hg
  ·rename_i n e y' i' hu h1 h2
   simp only[Option.map_eq_some_iff] at hg
   obtain ⟨s,hs,rfl⟩:=hg
   simp only[br] at h
   split at h
   ·rename_i kk k hk
    split at h
    ·rename_i hb
     split at h
     ·rename_i gs hgs
      split at h
      ·rename_i hev
       split at h
       ·rename_i v hv
        split at h
        ·rename_i hok
         simp only[Option.some.injEq] at h
         subst h
         exact afq ho hu hs h1 h2 hgs hk hb hev hv hok
        ·cases h
       ·cases h
      ·cases h
     ·cases h
    ·cases h
   ·cases h
  ·cases hg
 -- slice
 ·rename_i t y lo hi mx ho
  split at hg
  ·rename_i n e y' hu h1
   split at hg
   ·split at hg
    ·rename_i hinfo
     obtain ⟨ti,hti⟩:=Option.isSome_iff_exists.1 hinfo
     simp only[Option.some.injEq] at hg
     subst hg
     simp only[br] at h
     split at h
     ·rename_i m p hp
      split at h
      ·rename_i gs hgs
       split at h
       ·rename_i hev
        simp only[Option.some.injEq] at h
        subst h
        exact afz ho hu hti h1 hp hgs hev.1 hev.2.1 hev.2.2
       ·cases h
      ·cases h
     ·rename_i gs hgs
      split at h
      ·rename_i hev
       simp only[Option.some.injEq] at h
       subst h
       exact afA ho hu hti h1 hgs hev.1 hev.2.1
      ·cases h
     ·cases h
    ·cases hg
   ·cases hg
  ·rename_i e y' hu h1
   split at hg
   ·rename_i lo' hi' mx' q1 q2 q3
    split at hg
    ·rename_i hc
     obtain ⟨ti,hti⟩:=Option.isSome_iff_exists.1 hc.2
     simp only[Option.some.injEq] at hg
     subst hg
     simp only[br] at h
     split at h
     ·rename_i sz es hes
      split at h
      ·rename_i hsz
       subst hsz
       exact wq ho hu hti h1 q1 q2 q3 hc.1 (.inl hes) h
      ·cases h
     ·rename_i sz hes
      split at h
      ·rename_i hsz
       subst hsz
       exact wq ho hu hti h1 q1 q2 q3 hc.1 (.inr (.inl ⟨hes,rfl⟩)) h
      ·cases h
     ·rename_i sz hes
      split at h
      ·rename_i hsz
       subst hsz
       exact wq ho hu hti h1 q1 q2 q3 hc.1 (.inr (.inr ⟨hes,rfl⟩)) h
      ·cases h
     ·rename_i n p sz l0 k hv
      split at h
      ·rename_i fs hfs
       split at h
       ·rename_i hsz
        exact afy ho hu hti h1 q1 q2 q3 hc.1 hsz hv hfs h
       ·cases h
      ·cases h
     ·cases h
    ·cases hg
   ·cases hg
  ·cases hg
 -- build
 ·rename_i t parts ho
  split at hg
  ·rename_i zs ps hz hp
   split at hg
   ·rename_i fs hu
    split at hg
    ·rename_i hc
     simp only[Option.some.injEq] at hg
     subst hg
     simp only[br,Option.map_eq_some_iff] at h
     obtain ⟨zs',h,rfl⟩:=h
     exact HU ho hz hp (.inl ⟨fs,hu,hc.1,hc.2⟩) h
    ·cases hg
   ·rename_i n e hu
    split at hg
    ·rename_i hc
     simp only[Option.some.injEq] at hg
     subst hg
     simp only[br,Option.map_eq_some_iff] at h
     obtain ⟨zs',h,rfl⟩:=h
     exact HU ho hz hp (.inr ⟨n,e,hu,hc.1,hc.2.1,hc.2.2⟩) h
    ·cases hg
   ·cases hg
  ·cases hg
 -- buildSlice
 ·rename_i t len parts ho
  split at hg
  ·rename_i e hu
   split at hg
   ·rename_i ps hp
    split at hg
    ·rename_i h0
     obtain ⟨rfl,rfl,h0⟩:=h0
     obtain ⟨ti,hti⟩:=Option.isSome_iff_exists.1 h0
     simp only[Option.some.injEq] at hg
     subst hg
     simp only[br,Option.some.injEq] at h
     subst h
     exact afc ho hu hti
    split at hg
    ·rename_i hc
     obtain ⟨c1,c2,c3,ja,kL⟩:=hc
     simp only[Option.some.injEq] at hg
     subst hg
     simp only[br] at h
     split at h
     ·rename_i es hes
      split at h
      ·rename_i hev
       simp only[Option.some.injEq] at h
       subst h
       refine afb ho hu hp c1 c2 c3 ja kL hes (fun y hy =>?_) hev.2
       have:=List.all_eq_true.1 hev.1 y hy
       simpa using this
      ·cases h
     ·cases h
    ·cases hg
   ·cases hg
  ·cases hg
 -- extract
 ·rename_i y i ho
  simp only[Option.map_eq_some_iff] at hg
  obtain ⟨z,hz,rfl⟩:=hg
  simp only[br] at h
  split at h
  ·rename_i fs hfs
   exact afh ho hz hfs h
  ·cases h
 -- makeFunc
 ·rename_i f first caps ho
  split at hg
  ·rename_i hfirst
   simp only[Option.map_eq_some_iff] at hg
   obtain ⟨ys,hys,rfl⟩:=hg
   simp only[br] at h
   split at h
   ·rename_i hv
    simp only[Option.some.injEq] at h
    subst h
    have hf:first = #[]:=by simpa using hfirst
    rw[hf] at ho
    refine aft ho hys (fun y hy =>?_)
    have:=List.all_eq_true.1 hv (ae A y) (List.mem_map.2 ⟨y,hy,rfl⟩)
    exact this
   ·cases h
  ·cases hg
 -- alloc
 ·simp only[Option.map_eq_some_iff] at hg
  obtain ⟨z,_,rfl⟩:=hg
  simp[br] at h
 -- box
 ·simp only[Option.map_eq_some_iff] at hg
  obtain ⟨z,_,rfl⟩:=hg
  simp[br] at h
 -- store
 ·split at hg
  ·split at hg
   ·simp only[Option.some.injEq] at hg
    subst hg
    simp[br] at h
   ·cases hg
  ·cases hg
 -- call
 ·split at hg
  ·simp only[Option.map_eq_some_iff] at hg
   obtain ⟨z,_,rfl⟩:=hg
   simp[br] at h
  ·simp only[Option.map_eq_some_iff] at hg
   obtain ⟨z,_,rfl⟩:=hg
   simp[br] at h
 ·split at hg
  ·simp only[Option.some.injEq] at hg
   subst hg
   simp[br] at h
  ·cases hg
 -- len
 ·rename_i args tys ho
  split at hg
  ·rename_i y ty hargs htys
   have ho':o.op=.call { callee:=.builtin .len,args := #[y],argTypes := #[ty] } :=by
    rw[ho]
    have e1:args = #[y]:=by apply Array.ext';simpa using hargs
    have e2:tys = #[ty]:=by apply Array.ext';simpa using htys
    rw[e1,e2]
   split at hg
   ·rename_i e hu
    simp only[Option.map_eq_some_iff] at hg
    obtain ⟨y',hy,rfl⟩:=hg
    simp only[br] at h
    split at h
    ·rename_i sz es hes
     simp only[Option.some.injEq] at h
     subst h
     refine oR ho' hu (.inl ⟨e,rfl⟩) hy (fun a w D E hs v hv =>?_)
     rw[hes] at hv
     obtain ⟨ad,cap,e1,e2,e3,_⟩:=mc hv
     exact ⟨Nat.le_trans e2 e3,fun _=>⟨ad,cap,e1⟩,fun e=>by cases e⟩
    ·rename_i sz hes
     simp only[Option.some.injEq] at h
     subst h
     refine oR (n:=0) ho' hu (.inl ⟨e,rfl⟩) hy (fun a w D E hs v hv =>?_)
     rw[hes] at hv
     obtain ⟨cs,q1,q2⟩:=hv
     simp only[ah] at q2
     exact ⟨by simp[maxLen],fun _=>⟨none,0,by simpa[bJ,I.isAgg,q2] using q1.symm⟩,fun e=>by cases e⟩
    ·rename_i sz hes
     simp only[Option.some.injEq] at h
     subst h
     refine oR (n:=0) ho' hu (.inl ⟨e,rfl⟩) hy (fun a w D E hs v hv =>?_)
     rw[hes] at hv
     obtain ⟨cs,q1,q2⟩:=hv
     simp only[ah] at q2
     obtain ⟨ad,q2⟩:=q2
     exact ⟨by simp[maxLen],fun _=>⟨ad,0,by simpa[bJ,I.isAgg,q2] using q1.symm⟩,fun e=>by cases e⟩
    ·rename_i m l hm
     split at h
     ·rename_i T sz es hes
      split at h
      ·rename_i hl
       subst hl
       simp only[Option.some.injEq] at h
       subst h
       refine oR ho' hu (.inl ⟨e,rfl⟩) hy (fun a w D E hs v hv =>?_)
       rw[hm] at hv
       rcases hs.own hes hv with ⟨rfl,_,rfl⟩ | ⟨b,cap,cs,pre,rest,_,rfl,_,_,_,_,_,k8,k9,_⟩
       ·exact ⟨by simp[maxLen],fun _=>⟨none,0,rfl⟩,fun e=>by cases e⟩
       ·exact ⟨Nat.le_trans k8 k9,fun _=>⟨_,_,rfl⟩,fun e=>by cases e⟩
      ·cases h
     ·cases h
    ·rename_i n p sz lo k hm
     simp only[Option.some.injEq] at h
     subst h
     refine oR ho' hu (.inl ⟨e,rfl⟩) hy (fun a w D E hs v hv =>?_)
     rw[hm] at hv
     obtain ⟨cs,q1,q2⟩:=hv
     simp only[ah] at q2
     obtain ⟨b,aT,off,l,_,_,_,q2,q3,q4,_⟩:=q2
     exact ⟨by omega,fun _=>⟨_,_,by simpa[bJ,I.isAgg,q2] using q1.symm⟩,fun e=>by cases e⟩
    ·cases h
   ·rename_i hu
    simp only[Option.map_eq_some_iff] at hg
    obtain ⟨y',hy,rfl⟩:=hg
    simp only[br] at h
    split at h
    ·rename_i s hs'
     simp only[Option.some.injEq] at h
     subst h
     refine oR ho' hu (.inr rfl) hy (fun a w D E hs v hv =>?_)
     rw[hs'] at hv
     obtain ⟨e1,e2⟩:=m5 hv
     exact ⟨e2,(fun e=>by obtain ⟨_,e⟩:=e;cases e),fun _=>⟨s,e1,rfl⟩⟩
    ·cases h
   ·cases hg
  ·cases hg
 -- append
 ·split at hg
  ·split at hg
   ·split at hg
    ·simp only[Option.map_eq_some_iff] at hg
     obtain ⟨z,_,rfl⟩:=hg
     simp[br] at h
    ·split at hg
     ·simp only[Option.map_eq_some_iff] at hg
      obtain ⟨z,_,rfl⟩:=hg
      simp[br] at h
     ·cases hg
   ·cases hg
  ·cases hg
 -- cap
 ·rename_i args tys ho
  split at hg
  ·rename_i y ty hargs htys
   have ho':o.op=.call { callee:=.builtin .cap,args := #[y],argTypes := #[ty] } :=by
    rw[ho]
    have e1:args = #[y]:=by apply Array.ext';simpa using hargs
    have e2:tys = #[ty]:=by apply Array.ext';simpa using htys
    rw[e1,e2]
   split at hg
   ·rename_i e hu
    simp only[Option.map_eq_some_iff] at hg
    obtain ⟨y',hy,rfl⟩:=hg
    simp only[br] at h
    split at h
    ·rename_i sz hes
     simp only[Option.some.injEq] at h
     subst h
     refine wm ho' hu hy (fun a w D E hs v hv =>?_)
     rw[hes] at hv
     obtain ⟨cs,q1,q2⟩:=hv
     simp only[ah] at q2
     exact ⟨by simp[maxLen],_,_,by simpa[bJ,I.isAgg,q2] using q1.symm⟩
    ·rename_i sz hes
     simp only[Option.some.injEq] at h
     subst h
     refine wm ho' hu hy (fun a w D E hs v hv =>?_)
     rw[hes] at hv
     obtain ⟨cs,q1,q2⟩:=hv
     simp only[ah] at q2
     obtain ⟨ad,q2⟩:=q2
     exact ⟨by simp[maxLen],_,_,by simpa[bJ,I.isAgg,q2] using q1.symm⟩
    ·rename_i n p sz lo k hm
     split at h
     ·rename_i fs hfs
      simp only[Option.some.injEq] at h
      subst h
      refine wm ho' hu hy (fun a w D E hs v hv =>?_)
      rw[hm] at hv
      obtain ⟨_,b,cs,T,off,c1,c2,c3,_,_,_,_,_,_,_,_,_,_,_,q1,q2⟩:=hs.view hv hfs
      exact ⟨by omega,_,_,q2⟩
     ·cases h
    ·cases h
   ·cases hg
  ·cases hg
 -- clear
 ·split at hg
  ·split at hg
   ·simp only[Option.map_eq_some_iff] at hg
    obtain ⟨z,_,rfl⟩:=hg
    simp[br] at h
   ·cases hg
  ·cases hg
 -- copy
 ·split at hg
  ·split at hg
   ·split at hg
    ·simp only[Option.some.injEq] at hg
     subst hg
     simp[br] at h
    ·cases hg
   ·cases hg
  ·cases hg
 ·cases hg
theorem fG.append{α β:Type}{R:α→β→Prop} : ∀ {xs:List α} {ys:List β} {xs':List α} {ys':List β},fG R xs ys→fG R xs' ys'→fG R (xs++xs') (ys++ys')
 |_,_,_,_,.nil,h=>h
 |_,_,_,_,.cons h1 h2,h=>.cons h1 (h2.append h)
theorem x6{w:World}{D:aQ}{E:aX} : ∀ {xs:List I} {vs:List Value},aG w D E xs vs→fG (aW w D E) xs vs
 | [],vs,h=>by simp only[aG] at h;subst h;exact .nil
 |x::xs,vs,h=>by
  simp only[aG] at h
  obtain ⟨v,rest,cs,rfl,h1,h2,h3⟩:=h
  exact .cons (lX h1 h2) (x6 h3)
theorem Ra {P : Program} {f : FuncId} (h : gI P f = true) : ∃ fn, P.funcs[f]? = some fn ∧ ¬ fn.name = "runtime.NumGoroutine" ∧ ¬ fn.body = none := by
 unfold gI at h
 cases hf:P.funcs[f]? with
 |none=>simp[hf] at h
 |some fn =>
  simp only[hf,Option.any_some,Bool.and_eq_true,bne_iff_ne,ne_eq] at h
  refine ⟨fn,rfl,by simpa using h.1,?_⟩
  cases hb:fn.body <;>simp_all
theorem x2{P:Program}{w:World}{f:FuncId}{args:Array Value}(h:gI P f=true):(callFunc f args).run P w=.ok (.enter f args) w:=by
 obtain ⟨fn,h1,h2,h3⟩:=Ra h
 simp[callFunc,h1,h2,h3]
theorem az.ajS{f:FuncId}{avs cargs:List I}{r:I}{vs:List Value}{a:Act}{w:World}{D:aQ}{E:aX}(hs:aU c A a w D E)(h:az c.P f cargs r)(hf:r.flat=true)(hc:bY true A avs=some cargs)(hv:fG (aW w D E) avs vs) :
  Calls c.P f vs.toArray w fun e w'=>∃ v D',e=.returned v∧aU c A a w' D' E∧aW w' D' E r v:=by
 have hw:hE true A D E (fun b _=>b<w.heap.size):=by
  refine ⟨fun b o hd=>hs.dc b o hd,fun n T sz es b cap hn aw o _=>hs.fH aw rfl,fun _ n x b aT hn aw o _=>hs.fH aw rfl,fun _ n ks vs b hn aw=>hs.fH aw rfl⟩
 have hrv:=lQ (E':=dp) hs (fun _ _ h=>h) hw avs cargs vs (mf _ _ hv (p5 hc)) hc
 refine (h.2 w _ vs (fun _ _ hd=>hd) hrv).mono fun e w' ⟨v,D',he,h1,h2,h3,h4⟩=>⟨v,D,he,?_,aW.flat hf h1⟩
 exact hs.grow h2 (fun _ _ hd=>hd) (fun _ _ hd _=>hd) (fun b o hd=>Nat.lt_of_lt_of_le (hs.dc b o hd) h2.size)
theorem az.ajU{f:FuncId}{avs cargs:List I}{r:I}{vs:List Value}{a:Act}{w:World}{D:aQ}{E:aX}(hs:aU c A a w D E)(h:az c.P f cargs r)(hc:bY false A avs=some cargs)(hv:fG (aW w D E) avs vs) :
  Calls c.P f vs.toArray w fun e w'=>∃ v D',e=.returned v∧aU c A a w' D' E∧aW w' D' E r v:=by
 obtain ⟨hs1,hw⟩:=hs.nU
 have hrv:=lQ (E':=dp) hs (fun _ _ h=>h) hw avs cargs vs (mf _ _ hv (p5 hc)) hc
 refine (h.2 w _ vs hs1.dc hrv).mono fun e w' ⟨v,D',he,h1,h2,h3,h4⟩=>⟨v,fun b o=>nQ A D E b o∨(w.heap.size≤b∧D' b o),he,?_,?_⟩
 ·refine hs1.grow h2 (fun _ _ hd=>.inl hd) ?_ ?_
  ·rintro b o (hd | ⟨hle,_⟩) hlt
   ·exact hd
   ·omega
  ·rintro b o (hd | ⟨_,hd⟩)
   ·exact Nat.lt_of_lt_of_le (hs1.dc b o hd) h2.size
   ·exact h3 b o hd
 ·refine aW.bK (E:=dp) ⟨fun b o hd =>?_,fun _ _ _ _ h=>h,fun n b aT hn=>by simp[dp] at hn,fun n aE l hn=>by simp[dp] at hn,fun n b hn=>by simp[dp] at hn,fun n b hn=>by simp[dp] at hn,fun _ _ _ _ h=>h⟩ h1
  rcases Nat.lt_or_ge b w.heap.size with hlt | hge
  ·exact .inl (h4 b o hd hlt)
  ·exact .inr ⟨hge,hd⟩
theorem Iw(p:Nat→Bool)(os:List (Nat×ai))(n:Nat):al (os.filter fun q=>p q.1) n=if p n then al os n else none:=by
 induction os with
 |nil=>simp[al]
 |cons q os ih =>
  obtain ⟨k,v⟩:=q
  simp only[List.filter_cons]
  by_cases hk:p k=true
  ·simp only[hk,if_true,al,ih]
   by_cases hn:n=k
   ·subst hn;simp only[hk,if_true]
   ·simp only[if_neg hn]
  ·simp only[hk,Bool.false_eq_true,if_false,ih,al]
   by_cases hn:n=k
   ·subst hn;simp[hk]
   ·simp only[if_neg hn]
theorem mQ(ns:List Nat)(os:List (Nat×ai))(n:Nat):al (c4 ns os) n=if ns.contains n then none else al os n:=by
 rw[c4,Iw (fun n => !ns.contains n)]
 cases ns.contains n <;>rfl
theorem nE(ns:List Nat)(os:List (Nat×ai))(n:Nat):al (iJ ns os) n=if ns.contains n then al os n else none:=Iw _ _ _
theorem xA{p:Nat→Bool} : ∀ {os:List (Nat×ai)},bD p os→∀ k x,al os k=some x→x.only p=true
 | [],_,k,x,hx=>by simp[al] at hx
 |(j,v)::r,h,k,x,hx=>by
  simp only[bD] at h
  simp only[al] at hx
  split at hx
  ·simp only[Option.some.injEq] at hx;subst hx;exact h.1
  ·exact xA h.2 k x hx
theorem Iy(ns:List Nat):∀ (ts:List (Nat×I)) (t:Nat),b8 (fW ns ts) t=if (b8 ts t).only (fun n => !ns.contains n) then b8 ts t else .db
 | [],t=>by simp[fW,b8,I.only]
 |(k,v)::r,t=>by
  simp only[fW,List.map_cons,b8]
  by_cases h:t=k
  ·simp only[if_pos h]
  ·simp only[if_neg h];exact Iy ns r t
theorem aU.CC{a:Act}{w:World}{D:aQ}{E:aX}{ts:List (Nat×I)}{os0:List (Nat×ai)}(h:aU c (av ts os0) a w D E)(ns:List Nat)(ho:bD (fun n => !ns.contains n) (c4 ns os0)) :
  ∃ D' E',aU c (av (fW ns ts) (c4 ns os0)) a w D' E'∧hE true (av ts (iJ ns os0)) D E D':=by
 have h1:=h.nU.1
 have hw1:=h.nU.2
 obtain ⟨D1,hD1⟩:∃ D1,D1=nQ (av ts os0) D E:=⟨_,rfl⟩
 rw[←hD1] at h1 hw1
 obtain ⟨D2,hD2⟩:∃ D2:aQ,D2=fun b o=>D1 b o∨(∃ n x aT,ns.contains n=true∧al os0 n=some (.box x)∧E n=some (.aD b aT)∧o<x.size)∨∃ n ks vs,ns.contains n=true∧al os0 n=some (.ct ks vs)∧E n=some (.ct b)∧o=0:=⟨_,rfl⟩
 obtain ⟨E2,hE2⟩:∃ E2:aX,E2=fun n=>if ns.contains n then none else E n:=⟨_,rfl⟩
 have e2:∀ n,(!ns.contains n)=true→E2 n=E n:=fun n hn=>by rw[hE2];simp at hn;simp[hn]
 have hl:dM w D1 E2 w D2 E2:=⟨fun b o hd=>by rw[hD2];exact .inl hd,fun _ _ _ _ h=>h,fun _ _ _ h=>h,fun _ aE l h=>⟨aE,l,h,Nat.le_refl _,fun _=>rfl⟩,fun _ _ h=>h,fun _ _ h=>h,fun _ _ _ _ h=>h⟩
 have o8:∀ b o,D2 b o→D1 b o∨∃ n e q,ns.contains n=true∧E n=some e∧e.aE=some b∧c.eX b∧w.heap[b]?=some q:=fun b o hd=>by
  rw[hD2] at hd
  rcases hd with hd | ⟨n,x,aT,k1,k2,k3,k4⟩ | ⟨n,ks,vs,k1,k2,k3,_⟩
  ·exact .inl hd
  ·obtain ⟨b',cs,T,q1,q2,q3,_⟩:=h.box (n:=n) (x:=x) (by simpa[av] using k2)
   rw[k3] at q1
   simp only[Option.some.injEq,bR.aD.injEq] at q1
   obtain ⟨rfl,rfl⟩:=q1
   exact .inr ⟨n,_,_,k1,k3,rfl,q2,q3⟩
  ·obtain ⟨b',es,ck,q1,q2,q3,_⟩:=h.map (n:=n) (ks:=ks) (vs:=vs) (by simpa[av] using k2)
   rw[k3] at q1
   cases q1
   exact .inr ⟨n,_,_,k1,k3,rfl,q2,q3⟩
 refine ⟨D2,E2,⟨h1.sz,h1.eG,fun t =>?_,h1.dR,fun b o hd hm =>?_,fun b o hd =>?_,fun n =>?_,fun n m e e' b g1 g2 g3 g4 =>?_,fun n e hn =>?_,h1.eQ,fun b o hd=>hl.cZ b o (h1.cJ b o hd),h1.eU,h1.fv⟩,?_⟩
 ·simp only[av,Iy]
  have ht:=h1.ed t
  simp only[av] at ht
  split
  ·rename_i hp
   exact aW.bK hl (aW.dv e2 hp ht)
  ·simp[aW]
 ·rcases o8 b o hd with hd | ⟨n,e,q,_,_,_,k,_⟩
  ·exact h1.cZ b o hd hm
  ·exact absurd k hm
 ·rcases o8 b o hd with hd | ⟨n,e,q,_,_,_,_,k⟩
  ·exact h1.dc b o hd
  ·exact fI k
 ·simp only[av,mQ]
  by_cases hn:ns.contains n=true
  ·simp only[hn,if_true,c5];rw[hE2];simp only[hn,if_true]
  ·have hnb:(!ns.contains n)=true:=by simpa using hn
   simp only[hn,Bool.false_eq_true,if_false]
   have hob:=h1.bQ n
   simp only[av] at hob
   cases hx:al os0 n with
   |none=>rw[hx] at hob;simp only[c5] at hob ⊢;rw[e2 n hnb];exact hob
   |some x =>
    have hon:=xA ho n x (by rw[mQ,if_neg hn];exact hx)
    have nD:∀ e b,E n=some e→e.aE=some b→∀ o,D2 b o→D1 b o:=fun e b he hb o hd=>by
     rcases o8 b o hd with hd | ⟨m,e',q,k1,k3,k2,_⟩
     ·exact hd
     ·have:=h.cT n m e _ b he k3 hb k2
      subst this
      exact absurd k1 hn
    rw[hx] at hob
    cases x with
    |box x =>
     obtain ⟨b,cs,T,k1,k2,k3,k4,k5⟩:=hob
     exact ⟨b,cs,T,(e2 n hnb).trans k1,k2,k3,ah.bK hl _ _ (ah.dv e2 _ _ (by simpa[ai.only] using hon) k4),fun o hd=>k5 o (nD _ b k1 rfl o hd)⟩
    |bX T sz es =>
     obtain ⟨aE,k1,k2,k3⟩:=hob
     refine ⟨aE,(e2 n hnb).trans k1,k2,?_⟩
     cases aE with
     |none=>exact k3
     |some bc =>
      obtain ⟨b,cap⟩:=bc
      obtain ⟨cs,pre,rest,q1,q2,q3,q4,q5,q6,q7,q8⟩:=k3
      exact ⟨cs,pre,rest,q1,q2,q3,aH.bK hl _ _ (aH.dv e2 _ _ (by simpa[ai.only] using hon) q4),q5,q6,q7,fun o hd=>q8 o (nD _ b k1 rfl o hd)⟩
    |cU T xs =>
     obtain ⟨aE,k1,k2,k3⟩:=hob
     refine ⟨aE,(e2 n hnb).trans k1,k2,?_⟩
     cases aE with
     |none=>exact k3
     |some bc =>
      obtain ⟨b,cap⟩:=bc
      obtain ⟨cs,r,q1,q2,q3,q4,q5,q6,q7⟩:=k3
      exact ⟨cs,r,q1,q2,q3,q4,q5,q6,fun o hd=>q7 o (nD _ b k1 rfl o hd)⟩
    |dJ x =>
     obtain ⟨b,k1,k2,k3,k4,k5⟩:=hob
     exact ⟨b,(e2 n hnb).trans k1,k2,k3,k4,fun o hd=>k5 o (nD _ b k1 rfl o hd)⟩
    |ct ks vs =>
     obtain ⟨b,es,ck,k1,k2,k3,k4,k5,k6,k7⟩:=hob
     simp only[ai.only,Bool.and_eq_true] at hon
     exact ⟨b,es,ck,(e2 n hnb).trans k1,k2,k3,k4,aG.bK hl _ _ (aG.dv e2 _ _ hon.1 k5),aG.bK hl _ _ (aG.dv e2 _ _ hon.2 k6),fun o hd=>k7 o (nD _ b k1 rfl o hd)⟩
    |it ks vs left cur =>
     obtain ⟨r,b,es,ck,si,se,la,k1,k2,k3,k4,k5,k6,k7,k8,k9,k9',k10⟩:=hob
     simp only[ai.only,Bool.and_eq_true] at hon
     exact ⟨r,b,es,ck,si,se,la,(e2 n hnb).trans k1,k2,k3,k4.bK hl,aG.bK hl _ _ (aG.dv e2 _ _ hon.1 k5),aG.bK hl _ _ (aG.dv e2 _ _ hon.2 k6),k7,k8,k9,k9',fun o hd=>k10 o (nD _ r k1 rfl o hd)⟩
 ·have cut:∀ n e,E2 n=some e→E n=some e:=fun n e he=>by
   rw[hE2] at he
   simp only at he
   split at he
   ·cases he
   ·exact he
  exact h.cT n m e e' b (cut n e g1) (cut m e' g2) g3 g4
 ·by_cases hm:ns.contains n=true
  ·left;rw[hE2];simp only[hm,if_true]
  ·rw[e2 n (by simpa using hm)];exact h.dT n e hn
 ·refine ⟨fun b o hd=>by rw[hD2];exact .inl (hw1.cZ b o hd),fun n T sz es b cap hn aw o hlt =>?_,fun _ n x b aT hn aw o hlt =>?_,fun _ n ks vs b hn aw =>?_⟩
  ·simp only[av,nE] at hn
   split at hn
   ·rw[hD2];exact .inl (hw1.bX n T sz es b cap hn aw o hlt)
   ·cases hn
  ·simp only[av,nE] at hn
   split at hn
   ·rename_i hk
    rw[hD2];exact .inr (.inl ⟨n,x,aT,hk,hn,aw,hlt⟩)
   ·cases hn
  ·simp only[av,nE] at hn
   split at hn
   ·rename_i hk
    rw[hD2];exact .inr (.inr ⟨n,ks,vs,hk,hn,aw,rfl⟩)
   ·cases hn
theorem az.ajT{f:FuncId}{avs cargs:List I}{r:I}{vs:List Value}{a:Act}{w:World}{D:aQ}{E:aX}{ts:List (Nat×I)}{os0:List (Nat×ai)}(hs:aU c (av ts os0) a w D E)(ns:List Nat)(ho:bD (fun n => !ns.contains n) (c4 ns os0))
  (h:az c.P f cargs r) (hc:bY true (av ts (iJ ns os0)) avs=some cargs) (hv:fG (aW w D E) avs vs) :
  Calls c.P f vs.toArray w fun e w'=>∃ v D' E',e=.returned v∧aU c (av (fW ns ts) (c4 ns os0)) a w' D' E'∧aW w' D' E' r v:=by
 obtain ⟨D1,E1,hs1,hw⟩:=hs.CC ns ho
 have hu:ee (av ts (iJ ns os0)) (av ts os0):=fun n x hx=>by
  simp only[av,nE] at hx ⊢
  split at hx
  ·exact hx
  ·cases hx
 have hrv:=lQ (E':=dp) hs hu hw avs cargs vs (mf _ _ hv (p5 hc)) hc
 refine (h.2 w _ vs hs1.dc hrv).mono fun e w' ⟨v,D',he,h1,h2,h3,h4⟩=>⟨v,fun b o=>D1 b o∨(w.heap.size≤b∧D' b o),E1,he,?_,?_⟩
 ·refine hs1.grow h2 (fun _ _ hd=>.inl hd) ?_ ?_
  ·rintro b o (hd | ⟨hle,_⟩) hlt
   ·exact hd
   ·omega
  ·rintro b o (hd | ⟨_,hd⟩)
   ·exact Nat.lt_of_lt_of_le (hs1.dc b o hd) h2.size
   ·exact h3 b o hd
 ·refine aW.bK (E:=dp) ⟨fun b o hd =>?_,fun _ _ _ _ h=>h,fun n b aT hn=>by simp[dp] at hn,fun n aE l hn=>by simp[dp] at hn,fun n b hn=>by simp[dp] at hn,fun n b hn=>by simp[dp] at hn,fun _ _ _ _ h=>h⟩ h1
  rcases Nat.lt_or_ge b w.heap.size with hlt | hge
  ·exact .inl (h4 b o hd hlt)
  ·exact .inr ⟨hge,hd⟩
theorem um{a:Act}{w:World}{D D1:aQ}{E:aX}{ts:List (Nat×I)}{os0 os:List (Nat×ai)}{ρ:List (Nat×Nat)}{aD:Bool}{A0:af}(hs:aU c (av ts os0) a w D E)(hu:ee A0 (av ts os0))(hD:∀ b o,D b o→D1 b o)(hw:hE aD A0 D E D1) :
  ∀ (avs cargs:List I) (vs:List Value),iZ aD A0 ρ os avs cargs→fG (aW w D E) avs vs→aG w D1 (aw ρ os E) cargs vs
 | [],[],vs,_,hv=>by cases hv;simp[aG]
 | [],_::_,_,h,_=>by simp[iZ] at h
 |_::_,[],_,h,_=>by simp[iZ] at h
 |x::xs,y::ys,vs,h,hv=>by
  cases hv with
  |cons hv hvs =>
  rename_i v vs
  simp only[iZ] at h
  have ih:=um hs hu hD hw xs ys vs h.2 hvs
  have hl:dM w D (aw ρ os E) w D1 (aw ρ os E):=⟨hD,fun _ _ _ _ h=>h,fun _ _ _ h=>h,fun _ aE l h=>⟨aE,l,h,Nat.le_refl _,fun _=>rfl⟩,fun _ _ h=>h,fun _ _ h=>h,fun _ _ _ _ h=>h⟩
  have h1:∃ cs,bJ y v cs∧ah w D1 (aw ρ os E) y cs:=by
   rcases h.1 with ⟨k1,k2,k3⟩ | k
   ·rw[k1] at hv
    have h2:=aW.bK hl ((aW.aS (w:=w) (D:=D) (p:=au os) (ρ:=bF ρ) (E:=aw ρ os E) (E':=E) (fun n hn=>by simp only[aw,hn,if_true]) k2).1 hv)
    cases y <;>simp only[aW] at h2 <;>first | (simp[I.cq] at k3;done) | exact h2
   ·have h2:aG w D E [x] [v]:=mf [x] [v] (.cons hv .nil) (by
     intro z hz
     simp only[List.mem_singleton] at hz
     subst hz
     cases z <;>simp_all[bp,I.cq])
    have h3:=lQ (E':=aw ρ os E) hs hu hw [x] [y] [v] h2 (by simp[bY,k])
    simp only[aG] at h3
    obtain ⟨v',rest,cs,e,k1,k2,_⟩:=h3
    simp only[List.cons.injEq] at e
    obtain ⟨rfl,_⟩:=e
    exact ⟨cs,k1,k2⟩
  obtain ⟨cs,k1,k2⟩:=h1
  simp only[aG]
  exact ⟨v,vs,cs,rfl,k1,k2,ih⟩
theorem ee.drop(ts:List (Nat×I))(ns:List Nat)(os0:List (Nat×ai)):ee (av ts (c4 ns os0)) (av ts os0):=fun n x hx=>by
 simp only[av,mQ] at hx ⊢
 split at hx
 ·cases hx
 ·exact hx
theorem pI.use{run:Array Value→World→(Ending→World→Prop)→Prop}{since:World→aQ→aX→Prop}{avs cargs:List I}{post:cR}{vs:List Value}{a:Act}{w:World}{D:aQ}{E:aX}{ts:List (Nat×I)}{os0 os:List (Nat×ai)}{ρ:List (Nat×Nat)}
  (hs:aU c (av ts os0) a w D E) (h:pI run since cargs os post) (aD:Bool) (hmono:∀ {vs w R R'},run vs w R→(∀ e w,R e w→R' e w)→run vs w R') (hsince:(aD=true→∀ D E,since w D E)∧(aD=false→since w (nQ (av ts os0) D E) (aw ρ os E)))
  (hg:fy ρ os os0) (ha:iZ aD (av ts (c4 (jD ρ os) os0)) ρ os avs cargs) (hb:∀ r os',post r os'→dn aD ρ os os0 r os') (hv:fG (aW w D E) avs vs) :
  run vs.toArray w fun e w'=>∃ v r os' D2 E2,e=.returned v∧post r os'∧aU c (av ts (dF ρ os'++os0)) a w' D2 E2∧aW w' D2 E2 (r.aS (bF ρ)) v∧∀ m e,aw ρ os E m=some e→au os' m=true→∃ e',E2 (bF ρ m)=some e'∧e.le e':=by
 have notName:∀ n,(jD ρ os).contains n=false→∀ m,au os m=true→bF ρ m≠n:=fun n hn m hm he=>by
  obtain ⟨q,hq,rfl⟩:=wQ.1 hm
  have:(jD ρ os).contains n=true:=by simp only[jD,List.contains_iff_mem,List.mem_map];exact ⟨q,hq,he⟩
  rw[this] at hn;cases hn
 have other:∀ {D:aQ},aU c (av ts os0) a w D E→∀ n e b x,al (c4 (jD ρ os) os0) n=some x→E n=some e→e.aE=some b→¬ dm (aw ρ os E) b:=fun hs n e b x hx he hb ho=>by
  obtain ⟨m,e',h1,h2,hb',_⟩:=hs.sg hg ho
  rw[mQ] at hx
  split at hx
  ·cases hx
  ·rename_i hc
   have:=hs.cT n (bF ρ m) e _ b he h2 hb hb'
   exact notName n (by simpa using hc) m h1 this.symm
 cases aD with
 |true =>
  obtain ⟨D1,hD1⟩:∃ D1:aQ,D1=fun b o=>D b o∨(b<w.heap.size∧¬ dm (aw ρ os E) b):=⟨_,rfl⟩
  have hD:∀ b o,D b o→D1 b o:=fun b o hd=>by rw[hD1];exact .inl hd
  have hw:hE true (av ts (c4 (jD ρ os) os0)) D E D1:=by
   refine ⟨hD,fun n T sz es b cap hn aw o _ =>?_,fun _ n x b aT hn aw o _ =>?_,fun _ n ks vs b hn aw =>?_⟩
   ·rw[hD1];exact .inr ⟨hs.fH aw rfl,other hs n _ b _ hn aw rfl⟩
   ·rw[hD1];exact .inr ⟨hs.fH aw rfl,other hs n _ b _ hn aw rfl⟩
   ·rw[hD1];exact .inr ⟨hs.fH aw rfl,other hs n _ b _ hn aw rfl⟩
  have hrv:=um hs (ee.drop ts _ os0) hD hw avs cargs vs ha hv
  refine hmono (h w D1 (aw ρ os E) vs (hsince.1 rfl _ _) (fun b o hd=>by
   rw[hD1] at hd
   rcases hd with hd | hd
   ·exact hs.dc b o hd
   ·exact hd.1) (hs.H2 hg hD fun b o hd ho=>by
    rw[hD1] at hd
    rcases hd with hd | hd
    ·exact hd
    ·exact absurd ho hd.2) hrv) ?_
  rintro e w' ⟨v,D',E',r,os',he,hp,h1,h2,h3,h4,h5,h6,h7,h8⟩
  obtain ⟨D2,E2,k1,k2⟩:=hs.oE hg hD (fun h=>by cases h) (hb r os' hp) h1 h2 h3 h5 h4 h8 h6 h7
  exact ⟨v,r,os',D2,E2,he,hp,k1,k2⟩
 |false =>
  obtain ⟨hs1,hw⟩:=hs.nU
  have hw':hE false (av ts (c4 (jD ρ os) os0)) D E (nQ (av ts os0) D E):=⟨hw.cZ,fun n T sz es b cap hn aw o hlt=>hw.bX n T sz es b cap (ee.drop ts _ os0 n _ hn) aw o hlt,(fun hb=>by cases hb),fun hb=>by cases hb⟩
  have hrv:=um hs (ee.drop ts _ os0) hw.cZ hw' avs cargs vs ha hv
  refine hmono (h w _ (aw ρ os E) vs (hsince.2 rfl) hs1.dc (hs1.H2 hg (fun _ _ h=>h) fun b o hd _=>hd) hrv) ?_
  rintro e w' ⟨v,D',E',r,os',he,hp,h1,h2,h3,h4,h5,h6,h7,h8⟩
  obtain ⟨D2,E2,k1,k2⟩:=hs1.oE hg (fun _ _ h=>h) (fun _ _ _ h=>h) (hb r os' hp) h1 h2 h3 h5 h4 h8 h6 h7
  exact ⟨v,r,os',D2,E2,he,hp,k1,k2⟩
theorem aU.since{A:af}{a:Act}{w:World}{D:aQ}{E E':aX}(h:aU c A a w D E)(aw:∀ n,E' n=E n∨E' n=none):yZ c w D E' :=
 ⟨h.dR,h.cJ,h.cZ,fun n e hn=>by
  rcases aw n with k | k
  ·rw[k];exact h.dT n e hn
  ·exact .inl k,h.fv⟩
theorem nq(c:cQ)(f:FuncId):c.bt.fn f:=by unfold cQ.bt;split <;>trivial
theorem BY(c:cQ):c.bt.depth.isSome=true→1≤9:=fun _=>by omega
theorem lH{a:Act}{w:World} : ∀ f,o.about c.P w a.eval=some f→c.bt.fn f:=fun f _=>nq c f
theorem mh{g:b5}(hg:dx c.P o=some g)(r:Option Nat)(ρ:Operand→Value):o.semAt r ρ=execOp ρ o:=by
 cases r with
 |none=>rfl
 |some l =>
  refine Oper.semAt_some l ρ o fun cl h =>?_
  unfold dx at hg
  rw[h] at hg
  simp at hg
theorem Rc{f:FuncId}{args:Array Value}{w:World}{R:Ending→World→Prop}(h:Calls c.P f args w R):CallsIn c.bt (9-1) c.P f args w R:=by
 have h1:CallsIn Fence.wide (9-1) c.P f args w R:=callsIn_wide.2 h
 unfold cQ.bt
 split
 ·exact h1
 ·exact h1
theorem rn.mono{P:Program}{v:Value}{vs:Array Value}{w:World}{R R':Ending→World→Prop}(h:rn P v vs w R)(hr:∀ e w,R e w→R' e w):rn P v vs w R':=by
 obtain ⟨l,h1,fn,tmps,assign,body,h2,h3⟩:=h
 exact ⟨l,h1,fn,tmps,assign,body,h2,h3.mono hr⟩
theorem ai3{l:Nat}{f:FuncId}{tmps:Array Value}{assign body:Code}{w:World}{R:Ending→World→Prop}(h:RoundIn Fence.wide 9 c.P l f tmps assign body w R):RoundIn c.bt (9-1) c.P l f tmps assign body w R:=by
 have h1:RoundIn Fence.wide (9-1) c.P l f tmps assign body w R:=⟨h.1,fun cc cs _=>h.2 cc cs (room_wide _)⟩
 unfold cQ.bt
 split
 ·exact h1
 ·exact h1
theorem iz.wp{B:af}{g:b5}(hg:dx c.P o=some g)(h:iz c A o B){a:Act}{w:World}{K:Act→World→Prop}{Q:Exit→Act→World→Prop}(hs:cn c A a w)(hK:∀ a w,cn c B a w→K a w):o.wpIn c.bt 9 c.P a w K Q:=by
 obtain ⟨D,E,hs⟩:=hs
 obtain ⟨w',h⟩:=h a w D E hs
 refine ⟨lH,?_⟩
 rw[mh hg]
 rcases h with ⟨v,h1,h2⟩ | ⟨h1,h2⟩
 ·rw[h1];exact hK _ _ h2
 ·rw[h1];exact hK _ _ h2
theorem BB{dr:Bool}{K:af→Prop}{f:FuncId}{avs:List I}{a1 a2:Option (List I)}{vs:List Value}{dst:Option Nat}{rest:List aB}{a:Act}{w:World}{Kw:Act→World→Prop}{Q:Exit→Act→World→Prop}{g:b5}(hg:dx c.P o=some g)(h1:bY true A avs=a1)(h2:bY false A avs=a2)
  (hs:∀ D E,aU c A a w D E→fG (aW w D E) avs vs) (hsim:cn c A a w) (hwp:a6 c.P c.Y dr K (.call f avs a1 a2 dst rest A)) (hd:o.dst=dst) (hdn:∀ k,dst=some k→k<c.n)
  (hrun:gI c.P f=true→(execOp a.eval o).run c.P w=.ok (.enter f vs.toArray) w)
  (hK:∀ B a' w',a6 c.P c.Y dr K (aC rest B)→cn c B a' w'→Kw a' w'):o.wpIn c.bt 9 c.P a w Kw Q:=by
 obtain ⟨D,E,hsw⟩:=hsim
 have n8:∀ {R:Ending→World→Prop},gI c.P f=true→Calls c.P f vs.toArray w R→(∀ e w',R e w'→∃ v,e=.returned v∧Kw (a.put o.dst v) w')→o.wpIn c.bt 9 c.P a w Kw Q:=fun {R} hc hcl hR=>by
  refine ⟨lH,?_⟩
  rw[mh hg,hrun hc,Oper.uponIn_enter]
  refine ⟨BY c,Rc (hcl.mono fun e w' he =>?_)⟩
  obtain ⟨v,rfl,hv⟩:=hR e w' he
  exact hv
 cases hwp with
 |flat r hspec hflat hrest =>
  refine n8 hspec.1 (hspec.ajS hsw hflat h1 (hs D E hsw)) ?_
  rintro e w' ⟨v,D',he,hs',hv⟩
  refine ⟨v,he,?_⟩
  rw[hd]
  exact hK _ _ _ hrest ⟨D',E,hs'.aO hdn hv⟩
 |lead r hspec hrest =>
  refine n8 hspec.1 (hspec.ajU hsw h2 (hs D E hsw)) ?_
  rintro e w' ⟨v,D',he,hs',hv⟩
  refine ⟨v,he,?_⟩
  rw[hd]
  exact hK _ _ _ hrest ⟨D',E,hs'.aO hdn hv⟩
 |ik ns r hdr hspec hf ho hrest =>
  refine n8 hspec.1 (hspec.ajT hsw ns ho hf (hs D E hsw)) ?_
  rintro e w' ⟨v,D',E',he,hs',hv⟩
  refine ⟨v,he,?_⟩
  rw[hd]
  exact hK _ _ _ hrest ⟨D',E',hs'.aO hdn hv⟩
 |bQ aD ρ os cargs post hdr hspec hgv ha hb hrest =>
  refine n8 hspec.1 (hspec.2.use hsw aD (fun h=>h.mono) ⟨fun _ _ _=>trivial,fun _=>trivial⟩ hgv ha hb (hs D E hsw)) ?_
  rintro e w' ⟨v,r,os',D2,E2,he,hp,hs',hv,_⟩
  refine ⟨v,he,?_⟩
  rw[hd]
  exact hK _ _ _ (hrest r os' hp) ⟨D2,E2,hs'.aO hdn hv⟩
theorem Rb{dr:Bool}{K:af→Prop}{v:Value}{avs:List I}{vs:List Value}{dst:Option Nat}{rest:List aB}{a:Act}{w:World}{Kw:Act→World→Prop}{Q:Exit→Act→World→Prop}{g:b5}(hg:dx c.P o=some g)
  (hs:∀ D E,aU c A a w D E→fG (aW w D E) avs vs) (hsim:cn c A a w) (hwp:a6 c.P c.Y dr K (.oJ v avs dst rest A)) (hd:o.dst=dst) (hdn:∀ k,dst=some k→k<c.n)
  (hrun:∀ l,v=.func (.yield l) #[] #[]→(execOp a.eval o).run c.P w=(Instr.yield l vs.toArray).run c.P w)
  (hK:∀ B a' w',a6 c.P c.Y dr K (aC rest B)→cn c B a' w'→Kw a' w'):o.wpIn c.bt 9 c.P a w Kw Q:=by
 obtain ⟨D,E,hsw⟩:=hsim
 cases hwp with
 |yq os cargs post hdr hY hgv ha hb hrest =>
  have hyr:=(hsw.eU _ _ _ _ hY).use (ρ:=[]) hsw false (fun h=>h.mono) ⟨(fun h=>by cases h),fun _=>hsw.nU.1.since (fun n=>by simp only[aw,bF];split <;>simp)⟩ hgv ha hb (hs D E hsw)
  obtain ⟨l,rfl,fn,tmps,assign,body,h2,h3⟩:=hyr
  refine ⟨lH,?_⟩
  rw[mh hg,hrun l rfl,h2,Oper.uponIn_round]
  refine ⟨BY c,ai3 (h3.mono fun e w' he =>?_)⟩
  obtain ⟨v,r,os',D2,E2,rfl,hp,hs',hv,_⟩:=he
  rw[hd]
  exact hK _ _ _ (hrest r os' hp) ⟨D2,E2,hs'.aO hdn hv⟩
end
section
variable {c:cQ} {A:af} {o:Oper}
theorem uy{P:Program}{n:Nat}{bO:Array Oper}{g:aB}(h:oI P n bO o=some g):dx P o=some g.op∧g.dst=o.dst∧(∀ k,o.dst=some k→k<n) ∧
  ((o.guard=none∧g.guard=none)∨∃ j b t,o.guard=some (j,b)∧(bO[j]?).bind (·.dst)=some t∧g.guard=some (t,b)):=by
 unfold oI at h
 split at h
 ·cases h
 rename_i g' hg'
 split at h
 case isFalse=>cases h
 rename_i hd
 have hdst:∀ k,o.dst=some k→k<n:=by
  intro k hk
  rw[hk] at hd
  simpa[B3] using hd
 split at h
 ·rename_i hgd
  simp only[Option.some.injEq] at h
  subst h
  exact ⟨hg',rfl,hdst,.inl ⟨hgd,rfl⟩⟩
 ·rename_i j b hgd
  split at h
  ·rename_i t ht
   simp only[Option.some.injEq] at h
   subst h
   exact ⟨hg',rfl,hdst,.inr ⟨j,b,t,hgd,ht,rfl⟩⟩
  ·cases h
theorem HR{dr:Bool}{K:af→Prop}{op:b5}{dst:Option Nat}{rest:List aB}{a:Act}{w:World}{Kw:Act→World→Prop}{Q:Exit→Act→World→Prop}(hop:dx c.P o=some op)(hd:o.dst=dst)(hdn:∀ k,dst=some k→k<c.n)
  (hsim:cn c A a w) (hK:∀ B a' w',a6 c.P c.Y dr K (aC rest B)→cn c B a' w'→Kw a' w') (h:a6 c.P c.Y dr K (cL (br A op) fun v=>aC rest (A.aO dst v))):o.wpIn c.bt 9 c.P a w Kw Q:=by
 cases hv:br A op with
 |some v =>
  rw[hv] at h
  exact ((aiC hop hv).does (by rw[hd];exact hdn)).wp hop hsim (fun a' w' hs=>by rw[hd] at hs;exact hK _ a' w' h hs)
 |none=>rw[hv] at h;cases h
theorem aeN{dr:Bool}{K:af→Prop}{dst:Option Nat}{rest:List aB}{a:Act}{w:World}{Kw:Act→World→Prop}{Q:Exit→Act→World→Prop}{z:I}(hop:dx c.P o=some (.alloc z))(hd:o.dst=dst)(hdn:∀ k,dst=some k→k<c.n)
  (hwp:a6 c.P c.Y dr K (bl A dst (.alloc z) rest (aC rest))) (hsim:cn c A a w) (hK:∀ B a' w',a6 c.P c.Y dr K (aC rest B)→cn c B a' w'→Kw a' w'):o.wpIn c.bt 9 c.P a w Kw Q:=by
 have hop0:=hop
 simp only[bl] at hwp
 split at hwp
 case h_2=>cases hwp
 rename_i d
 split at hwp
 case h_2=>cases hwp
 rename_i hf
 unfold dx at hop
 split at hop <;>try (first | (simp at hop;done) | ((repeat' split at hop) <;>simp at hop;done))
 rename_i t ho
 simp only[Option.map_eq_some_iff,b5.alloc.injEq] at hop
 obtain ⟨z',hz,rfl⟩:=hop
 exact (We ho hz hd (hdn d rfl) hf).wp hop0 hsim (fun a' w' hs=>hK _ a' w' hwp hs)
theorem aeQ{dr:Bool}{K:af→Prop}{dst:Option Nat}{rest:List aB}{a:Act}{w:World}{Kw:Act→World→Prop}{Q:Exit→Act→World→Prop}{x:aJ}(hop:dx c.P o=some (.box x))(hd:o.dst=dst)(hdn:∀ k,dst=some k→k<c.n)
  (hwp:a6 c.P c.Y dr K (bl A dst (.box x) rest (aC rest))) (hsim:cn c A a w) (hK:∀ B a' w',a6 c.P c.Y dr K (aC rest B)→cn c B a' w'→Kw a' w'):o.wpIn c.bt 9 c.P a w Kw Q:=by
 have hop0:=hop
 simp only[bl] at hwp
 split at hwp
 case h_2=>cases hwp
 rename_i d
 split at hwp
 case h_2=>cases hwp
 rename_i hf
 split at hwp
 case isFalse=>cases hwp
 rename_i hv
 unfold dx at hop
 split at hop <;>try (first | (simp at hop;done) | ((repeat' split at hop) <;>simp at hop;done))
 rename_i t y ho
 simp only[Option.map_eq_some_iff,b5.box.injEq] at hop
 obtain ⟨z',hz,rfl⟩:=hop
 exact (Wj ho hz hv hd (hdn d rfl) hf).wp hop0 hsim (fun a' w' hs=>hK _ a' w' hwp hs)
theorem ae1{dr:Bool}{K:af→Prop}{dst:Option Nat}{rest:List aB}{a:Act}{w:World}{Kw:Act→World→Prop}{Q:Exit→Act→World→Prop}{s:Option Nat}{x v:aJ}(hop:dx c.P o=some (.bx s x v))(hd:o.dst=dst)(hdn:∀ k,dst=some k→k<c.n)
  (hwp:a6 c.P c.Y dr K (bl A dst (.bx s x v) rest (aC rest))) (hsim:cn c A a w) (hK:∀ B a' w',a6 c.P c.Y dr K (aC rest B)→cn c B a' w'→Kw a' w'):o.wpIn c.bt 9 c.P a w Kw Q:=by
 have hop0:=hop
 simp only[bl] at hwp
 split at hwp
 case h_2=>cases hwp
 split at hwp
 case h_2=>cases hwp
 rename_i n p hp
 split at hwp
 case h_2=>cases hwp
 rename_i b hb
 split at hwp
 case h_2=>cases hwp
 rename_i old hat
 split at hwp
 case isFalse=>cases hwp
 rename_i hok
 unfold dx at hop
 split at hop <;>try (first | (simp at hop;done) | ((repeat' split at hop) <;>simp at hop;done))
 rename_i t y z ho
 split at hop
 case h_2=>cases hop
 rename_i s' x' v' h1 h2 h3
 split at hop
 case isFalse=>cases hop
 rename_i hk
 simp only[Option.some.injEq,b5.bx.injEq] at hop
 obtain ⟨rfl,rfl,rfl⟩:=hop
 exact (Wp ho h1 hk h2 h3 hp hb hat hok.1 hok.2.1 hok.2.2 hd).wp hop0 hsim (fun a' w' hs=>hK _ a' w' hwp hs)
theorem aeR{dr:Bool}{K:af→Prop}{dst:Option Nat}{rest:List aB}{a:Act}{w:World}{Kw:Act→World→Prop}{Q:Exit→Act→World→Prop}{f:FuncId}{args:List aJ}(hop:dx c.P o=some (.call f args))(hd:o.dst=dst)(hdn:∀ k,dst=some k→k<c.n)
  (hwp:a6 c.P c.Y dr K (bl A dst (.call f args) rest (aC rest))) (hsim:cn c A a w) (hK:∀ B a' w',a6 c.P c.Y dr K (aC rest B)→cn c B a' w'→Kw a' w'):o.wpIn c.bt 9 c.P a w Kw Q:=by
 have hop0:=hop
 simp only[bl] at hwp
 unfold dx at hop
 split at hop <;>try (first | (simp at hop;done) | ((repeat' split at hop) <;>simp at hop;done))
 rename_i f' xs ts ho
 split at hop
 case isFalse=>simp at hop
 simp only[Option.map_eq_some_iff,b5.call.injEq] at hop
 obtain ⟨ys,hys,rfl,rfl⟩:=hop
 refine BB (vs:=xs.toList.map a.eval) hop0 rfl rfl (fun D E hs=>oA hs xs.toList ts.toList ys hys) hsim hwp hd hdn (fun hc =>?_) hK
 have e:xs.map a.eval=(xs.toList.map a.eval).toArray:=by apply Array.ext';simp
 simp only[execOp,ho,resolve,Act.eval,Deferred.ofValue,Sem.run_bind,Sem.run_pure,Result.andThen_ok,invoke,Array.append_empty,Array.empty_append,x2 hc]
 rw[←e]
theorem ae2{dr:Bool}{K:af→Prop}{dst:Option Nat}{rest:List aB}{a:Act}{w:World}{Kw:Act→World→Prop}{Q:Exit→Act→World→Prop}{f:FuncId}{args:List aJ}(hop:dx c.P o=some (.iX f args))(hd:o.dst=dst)(hdn:∀ k,dst=some k→k<c.n)
  (hwp:a6 c.P c.Y dr K (bl A dst (.iX f args) rest (aC rest))) (hsim:cn c A a w) (hK:∀ B a' w',a6 c.P c.Y dr K (aC rest B)→cn c B a' w'→Kw a' w'):o.wpIn c.bt 9 c.P a w Kw Q:=by
 have hop0:=hop
 simp only[bl] at hwp
 unfold dx at hop
 split at hop <;>try (first | (simp at hop;done) | ((repeat' split at hop) <;>simp at hop;done))
 rename_i f' xs ts ho
 split at hop
 case isTrue=>simp at hop
 simp only[Option.map_eq_some_iff,b5.iX.injEq] at hop
 obtain ⟨ys,hys,rfl,rfl⟩:=hop
 obtain ⟨D,E,hs⟩:=hsim
 cases hwp with
 |ext r hdr hx hw =>
  obtain ⟨v,g1,g2⟩:=hx c a w D E (xs.toList.map a.eval) rfl hs (oA hs xs.toList ts.toList ys hys)
  have e:xs.map a.eval=(xs.toList.map a.eval).toArray:=by apply Array.ext';simp
  have hrun:(execOp a.eval o).run c.P w=.ok (.value v) w:=by
   simp only[execOp,ho,resolve,Act.eval,Deferred.ofValue,Sem.run_bind,Sem.run_pure,Result.andThen_ok,invoke,Array.append_empty,Array.empty_append]
   rw[←e] at g1
   exact g1
  refine ⟨lH,?_⟩
  rw[mh hop0,hrun,Oper.uponIn_value]
  exact hK _ _ _ hw ⟨D,E,by rw[hd];exact hs.aO hdn g2⟩
theorem aeV{dr:Bool}{K:af→Prop}{dst:Option Nat}{rest:List aB}{a:Act}{w:World}{Kw:Act→World→Prop}{Q:Exit→Act→World→Prop} (hop:dx c.P o=some (.jC))(hd:o.dst=dst)(hdn:∀ k,dst=some k→k<c.n)
  (hwp:a6 c.P c.Y dr K (bl A dst (.jC) rest (aC rest))) (hsim:cn c A a w) (hK:∀ B a' w',a6 c.P c.Y dr K (aC rest B)→cn c B a' w'→Kw a' w'):o.wpIn c.bt 9 c.P a w Kw Q:=by
 have hop0:=hop
 simp only[bl] at hwp
 split at hwp
 case h_2=>cases hwp
 rename_i d
 split at hwp
 case h_2=>cases hwp
 rename_i hf
 unfold dx at hop
 split at hop <;>try (first | (simp at hop;done) | ((repeat' split at hop) <;>simp at hop;done))
 rename_i t ho
 exact (Wm ho hd (hdn d rfl) hf).wp hop0 hsim (fun a' w' hs=>hK _ a' w' hwp hs)
theorem aeW{dr:Bool}{K:af→Prop}{dst:Option Nat}{rest:List aB}{a:Act}{w:World}{Kw:Act→World→Prop}{Q:Exit→Act→World→Prop}{e:TypeId}{bytes:Nat}{z:I}{n:aJ}(hop:dx c.P o=some (.jV e bytes z n))(hd:o.dst=dst)(hdn:∀ k,dst=some k→k<c.n)
  (hwp:a6 c.P c.Y dr K (bl A dst (.jV e bytes z n) rest (aC rest))) (hsim:cn c A a w) (hK:∀ B a' w',a6 c.P c.Y dr K (aC rest B)→cn c B a' w'→Kw a' w'):o.wpIn c.bt 9 c.P a w Kw Q:=by
 have hop0:=hop
 simp only[bl] at hwp
 split at hwp
 case h_2=>cases hwp
 rename_i d
 split at hwp
 case h_2=>cases hwp
 rename_i hf
 split at hwp
 case h_2=>cases hwp
 rename_i k m hn
 split at hwp
 case isFalse=>cases hwp
 rename_i hc
 unfold dx at hop
 split at hop <;>try (first | (simp at hop;done) | ((repeat' split at hop) <;>simp at hop;done))
 rename_i t l l' ho
 split at hop
 case h_2=>cases hop
 rename_i e' n' hu hl
 split at hop
 case h_2=>cases hop
 rename_i z' hz
 split at hop
 case isFalse=>cases hop
 rename_i hc2
 simp only[Option.some.injEq,b5.jV.injEq] at hop
 obtain ⟨rfl,rfl,rfl,rfl⟩:=hop
 obtain ⟨j,rfl⟩:=Int.eq_ofNat_of_zero_le hc.1
 simp only[Int.toNat_natCast] at hc hwp
 exact (Wn ho (ai9 hc2.1) hu hl hn hz hc2.2.1 hc2.2.2 hc.2.1 hc.2.2 hd (hdn d rfl) hf).wp hop0 hsim (fun a' w' hs=>hK _ a' w' hwp hs)
theorem aeX{dr:Bool}{K:af→Prop}{dst:Option Nat}{rest:List aB}{a:Act}{w:World}{Kw:Act→World→Prop}{Q:Exit→Act→World→Prop}{ty:cK}{m k v:aJ}(hop:dx c.P o=some (.gA ty m k v))(hd:o.dst=dst)(hdn:∀ k,dst=some k→k<c.n)
  (hwp:a6 c.P c.Y dr K (bl A dst (.gA ty m k v) rest (aC rest))) (hsim:cn c A a w) (hK:∀ B a' w',a6 c.P c.Y dr K (aC rest B)→cn c B a' w'→Kw a' w'):o.wpIn c.bt 9 c.P a w Kw Q:=by
 have hop0:=hop
 simp only[bl] at hwp
 split at hwp
 case h_2=>cases hwp
 split at hwp
 case h_2=>cases hwp
 rename_i n hm
 split at hwp
 case h_2=>cases hwp
 rename_i ks vs hn
 split at hwp
 case h_2=>cases hwp
 rename_i ks' vs' hl
 unfold dx at hop
 split at hop <;>try (first | (simp at hop;done) | ((repeat' split at hop) <;>simp at hop;done))
 all_goals
  rename_i t mo ko vo ho
  split at hop
  case h_2=>cases hop
  rename_i kt et m' k' hu h1 h2
  split at hop
  case h_2=>cases hop
  rename_i ty' v' hk h3
  simp only[Option.some.injEq,b5.gA.injEq] at hop
  obtain ⟨rfl,rfl,rfl,rfl⟩:=hop
 ·exact (B1 (.inl ho) hu hk h1 h2 h3 hm hn hl hd).wp hop0 hsim (fun a' w' hs=>hK _ a' w' hwp hs)
 ·exact (B1 (.inr ho) hu hk h1 h2 h3 hm hn hl hd).wp hop0 hsim (fun a' w' hs=>hK _ a' w' hwp hs)
theorem ae0{dr:Bool}{K:af→Prop}{dst:Option Nat}{rest:List aB}{a:Act}{w:World}{Kw:Act→World→Prop}{Q:Exit→Act→World→Prop}{x:aJ}(hop:dx c.P o=some (.j0 x))(hd:o.dst=dst)(hdn:∀ k,dst=some k→k<c.n)
  (hwp:a6 c.P c.Y dr K (bl A dst (.j0 x) rest (aC rest))) (hsim:cn c A a w) (hK:∀ B a' w',a6 c.P c.Y dr K (aC rest B)→cn c B a' w'→Kw a' w'):o.wpIn c.bt 9 c.P a w Kw Q:=by
 have hop0:=hop
 simp only[bl] at hwp
 split at hwp
 case h_2=>cases hwp
 rename_i d
 split at hwp
 case h_2=>cases hwp
 rename_i hf
 split at hwp
 case h_2=>cases hwp
 rename_i ks vs hx
 unfold dx at hop
 split at hop <;>try (first | (simp at hop;done) | ((repeat' split at hop) <;>simp at hop;done))
 rename_i t y ho
 split at hop
 case h_2=>cases hop
 rename_i kt et hu
 simp only[Option.map_eq_some_iff,b5.j0.injEq] at hop
 obtain ⟨z,hz,rfl⟩:=hop
 exact (Wo ho hu hz hx hd (hdn d rfl) hf).wp hop0 hsim (fun a' w' hs=>hK _ a' w' hwp hs)
theorem aeZ{dr:Bool}{K:af→Prop}{dst:Option Nat}{rest:List aB}{a:Act}{w:World}{Kw:Act→World→Prop}{Q:Exit→Act→World→Prop}{x:aJ}(hop:dx c.P o=some (.jl x))(hd:o.dst=dst)(hdn:∀ k,dst=some k→k<c.n)
  (hwp:a6 c.P c.Y dr K (bl A dst (.jl x) rest (aC rest))) (hsim:cn c A a w) (hK:∀ B a' w',a6 c.P c.Y dr K (aC rest B)→cn c B a' w'→Kw a' w'):o.wpIn c.bt 9 c.P a w Kw Q:=by
 have hop0:=hop
 simp only[bl] at hwp
 split at hwp
 case h_2=>cases hwp
 rename_i n hx
 split at hwp
 case h_2=>cases hwp
 rename_i ks vs left cur hn
 unfold dx at hop
 split at hop <;>try (first | (simp at hop;done) | ((repeat' split at hop) <;>simp at hop;done))
 rename_i y ho
 simp only[Option.map_eq_some_iff,b5.jl.injEq] at hop
 obtain ⟨z,hz,rfl⟩:=hop
 obtain ⟨D,E,hs⟩:=hsim
 obtain ⟨w',v,hrun,hor⟩:=agW ho hz hx hn (by rw[hd];exact hdn) hs
 refine ⟨lH,?_⟩
 rw[mh hop0,hrun,Oper.uponIn_value]
 rw[hd] at hor
 split at hwp
 ·rename_i hl
  rcases hor with ⟨_,hor⟩ | ⟨i,k,x,hi,_⟩
  ·exact hK _ _ _ hwp (by rw[hd];exact hor)
  ·rw[hl] at hi;cases hi
 ·rename_i hl
  rcases hor with ⟨h,_⟩ | ⟨i,k,x,hi,hk,hx,hor⟩
  ·exact absurd h hl
  ·cases hwp with
   |any hdr hall =>
    have:=hall i hi
    simp only[hk,hx] at this
    exact hK _ _ _ this (by rw[hd];exact hor)
theorem aeS{dr:Bool}{K:af→Prop}{dst:Option Nat}{rest:List aB}{a:Act}{w:World}{Kw:Act→World→Prop}{Q:Exit→Act→World→Prop}{x:aJ}{args:List aJ}(hop:dx c.P o=some (.en x args))(hd:o.dst=dst)(hdn:∀ k,dst=some k→k<c.n)
  (hwp:a6 c.P c.Y dr K (bl A dst (.en x args) rest (aC rest))) (hsim:cn c A a w) (hK:∀ B a' w',a6 c.P c.Y dr K (aC rest B)→cn c B a' w'→Kw a' w'):o.wpIn c.bt 9 c.P a w Kw Q:=by
 have hop0:=hop
 simp only[bl] at hwp
 unfold dx at hop
 split at hop <;>try (first | (simp at hop;done) | ((repeat' split at hop) <;>simp at hop;done))
 rename_i y xs ts _ ho
 split at hop
 case h_2=>cases hop
 rename_i y' ys h1 h2
 simp only[Option.some.injEq,b5.en.injEq] at hop
 obtain ⟨rfl,rfl⟩:=hop
 obtain ⟨D,E,hs⟩:=hsim
 have hv:=b7 hs h1
 split at hwp
 ·rename_i f caps hx
  rw[hx] at hv
  obtain ⟨cs,q1,q2⟩:=hv
  simp only[ah] at q2
  obtain ⟨vs,q3,q4⟩:=q2
  have hval:a.eval y=.func (.func f) #[] vs.toArray:=by simpa[bJ,I.isAgg,q3] using q1.symm
  refine BB (vs:=xs.toList.map a.eval++vs) hop0 rfl rfl (fun D' E' hs'=>(oA hs' xs.toList ts.toList ys h2).append ?_) ⟨D,E,hs⟩ hwp hd hdn (fun hc =>?_) hK
  ·have hv':=b7 hs' h1
   rw[hx] at hv'
   obtain ⟨cs',q1',q2'⟩:=hv'
   simp only[ah] at q2'
   obtain ⟨vs',q3',q4'⟩:=q2'
   have hval':a.eval y=.func (.func f) #[] vs'.toArray:=by simpa[bJ,I.isAgg,q3'] using q1'.symm
   rw[hval] at hval'
   simp only[Value.func.injEq,true_and,Array.mk.injEq] at hval'
   subst hval'
   exact x6 q4'
  ·have e:xs.map a.eval=(xs.toList.map a.eval).toArray:=by apply Array.ext';simp
   simp only[execOp,ho,resolve,hval,Deferred.ofValue,Sem.run_bind,Sem.run_pure,Result.andThen_ok,invoke,Array.empty_append,x2 hc]
   rw[e]
   simp
 ·rename_i aq hx
  rw[hx] at hv
  obtain ⟨cs,q1,q2⟩:=hv
  simp only[ah] at q2
  have hval:a.eval y=aq:=by simpa[bJ,I.isAgg,q2.1] using q1.symm
  refine Rb (vs:=xs.toList.map a.eval) hop0 (fun D' E' hs'=>oA hs' xs.toList ts.toList ys h2) ⟨D,E,hs⟩ hwp hd hdn (fun l hl =>?_) hK
  subst hl
  have e:xs.map a.eval=(xs.toList.map a.eval).toArray:=by apply Array.ext';simp
  simp only[execOp,ho,resolve,hval,Deferred.ofValue,Sem.run_bind,Sem.run_pure,Result.andThen_ok,invoke,Array.empty_append]
  rw[e]
 ·cases hwp
theorem aeY{dr:Bool}{K:af→Prop}{dst:Option Nat}{rest:List aB}{a:Act}{w:World}{Kw:Act→World→Prop}{Q:Exit→Act→World→Prop}{neg:Bool}{x:aJ}(hop:dx c.P o=some (.nilS neg x))(hd:o.dst=dst)(hdn:∀ k,dst=some k→k<c.n)
  (hwp:a6 c.P c.Y dr K (bl A dst (.nilS neg x) rest (aC rest))) (hsim:cn c A a w) (hK:∀ B a' w',a6 c.P c.Y dr K (aC rest B)→cn c B a' w'→Kw a' w'):o.wpIn c.bt 9 c.P a w Kw Q:=by
 have hop0:=hop
 simp only[bl] at hwp
 split at hwp
 case isFalse=>exact HR hop hd hdn hsim hK hwp
 rename_i hu
 cases hwp with
 |any hdr hall =>
 unfold dx at hop
 split at hop <;>try (first | (simp at hop;done) | ((repeat' split at hop) <;>simp at hop;done))
 rename_i bop t y z yt ho
 split at hop
 ·simp at hop
 ·simp at hop
 ·rename_i e y' z' hut h1 h2
  split at hop
  ·rename_i s
   split at hop
   ·rename_i hopp
    simp only[Option.some.injEq,b5.nilS.injEq] at hop
    obtain ⟨rfl,rfl⟩:=hop
    have ho':o.op=.binOp (if (bop==.neq)=true then .neq else .eql) t y z yt:=by
     rcases hopp with rfl | rfl <;>simpa using ho
    obtain ⟨D,E,hs⟩:=hsim
    have hund:∃ sz,ae A y'=.slice sz []∨ae A y'=.c0 sz:=by
     generalize ae A y'=q at hu
     cases q <;>simp only[jK,Bool.false_eq_true,List.isEmpty_iff] at hu
     ·rename_i sz;exact ⟨sz,.inr rfl⟩
     ·rename_i sz es;subst hu;exact ⟨sz,.inl rfl⟩
    obtain ⟨b,hrun⟩:=agX ho' hut h1 h2 hund hs
    refine ⟨lH,?_⟩
    rw[mh hop0,hrun,Oper.uponIn_value]
    have hb:=hall (if b then 0 else 1) (by cases b <;>simp)
    refine hK _ _ _ hb ⟨D,E,?_⟩
    rw[hd]
    have e:((if b=true then (0:Nat) else 1)==0)=b:=by cases b <;>rfl
    rw[e]
    exact hs.aO hdn (mV b)
   ·cases hop
  ·cases hop
 ·split at hop <;>simp at hop
 ·split at hop <;>simp at hop
 ·cases hop
theorem aeO{dr:Bool}{K:af→Prop}{dst:Option Nat}{rest:List aB}{a:Act}{w:World}{Kw:Act→World→Prop}{Q:Exit→Act→World→Prop}{e:TypeId}{esz bytes:Nat}{z:I}{s x:aJ}(hop:dx c.P o=some (.dq e esz bytes z s x))(hd:o.dst=dst)(hdn:∀ k,dst=some k→k<c.n)
  (hwp:a6 c.P c.Y dr K (bl A dst (.dq e esz bytes z s x) rest (aC rest))) (hsim:cn c A a w) (hK:∀ B a' w',a6 c.P c.Y dr K (aC rest B)→cn c B a' w'→Kw a' w'):o.wpIn c.bt 9 c.P a w Kw Q:=by
 have hop0:=hop
 simp only[bl] at hwp
 unfold dx at hop
 split at hop <;>try (first | (simp at hop;done) | ((repeat' split at hop) <;>simp at hop;done))
 rename_i args tys ho
 split at hop
 case h_2=>cases hop
 rename_i y q t t' ha ht
 split at hop
 case h_2=>cases hop
 rename_i e' s' x' k1 k2 k3
 split at hop
 case isFalse=>split at hop <;>simp at hop
 rename_i hk
 simp only[Option.map_eq_some_iff,b5.dq.injEq] at hop
 obtain ⟨zz,hz1,rfl,rfl,rfl,rfl,rfl,rfl⟩:=hop
 obtain ⟨rfl,hk2,hk3⟩:=hk
 have ha':args = #[y,q]:=by apply Array.ext';simpa using ha
 have ht':tys = #[t,t]:=by apply Array.ext';simpa using ht
 subst ha' ht'
 rw[hz1] at hk3
 simp only[Option.map_some,Option.some.injEq] at hk3
 have hinfo:(c.P.info? e').isSome=true:=by
  obtain ⟨ti,_,hti,_⟩:=lF hz1
  rw[hti];rfl
 have grow:∀ es ys,ec A (c.P.cellsOf e') (ae A s')=some es→ec A (c.P.cellsOf e') (ae A x')=some ys→ys≠[]→(∀ a w D E,aU c A a w D E→∀ ad l cp,a.eval y=.slice ad l cp→cp<l+ys.length) →
   a6 c.P c.Y dr K (fM A dst (c.P.cellsOf e') (c.P.bytesOf e') zz es ys (aC rest))→o.wpIn c.bt 9 c.P a w Kw Q:=fun es ys hse hsx hne hfull h=>by
  simp only[fM] at h
  split at h
  case h_2=>cases h
  rename_i d
  split at h
  case h_2=>cases h
  rename_i hf
  split at h
  case isFalse=>cases h
  rename_i hb
  cases h with
  |any hdr hall =>
   obtain ⟨D,E,hs⟩:=hsim
   obtain ⟨v,w',m,g1,g2,g3⟩:=OA ho k1 k2 k3 hz1 hk3 hse hsx hb.1 hd (hdn d rfl) hf hne hs (hfull a w D E hs) hb.2
   refine ⟨lH,?_⟩
   rw[mh hop0,g1,Oper.uponIn_value,hd]
   rw[hd] at g3
   exact hK _ _ _ (hall m g2) g3
 split at hwp
 ·rename_i n l hs'
  split at hwp
  case h_2=>cases hwp
  rename_i sz ys hx'
  split at hwp
  case h_3=>cases hwp
  case h_2 =>
   rename_i T xs hn
   split at hwp
   case isFalse=>cases hwp
   rename_i hok
   obtain ⟨h1,h2,h3,h4,h5,h6,h7,h8⟩:=hok
   subst h3 h4
   have hl5:ys.length=(qd ys).length:=(congrArg List.length h5).trans (by simp)
   rw[hl5] at h7 h8 hwp
   rw[h5] at hx'
   have hd':=Wg (o:=o) ho k1 k2 k3 hz1 h2 hs' hn h1 hx' (fun e=>h6 (by rw[h5,e];rfl)) h7 h8 (by rw[hd];exact hdn)
   exact hd'.wp hop0 hsim (fun a' w' hs=>by rw[hd] at hs;exact hK _ a' w' hwp hs)
  rename_i T sz' es hn
  split at hwp
  case isFalse=>cases hwp
  rename_i hok
  obtain ⟨h1,h2,h3,h4,h5,h6,h7⟩:=hok
  subst h2 h3 h4
  have hd':=Wf (o:=o) ho k1 k2 k3 hz1 hk3 hk2 hs' hn h1 hx' rfl h5 h6 h7 (by rw[hd];exact hdn)
  exact hd'.wp hop0 hsim (fun a' w' hs=>by rw[hd] at hs;exact hK _ a' w' hwp hs)
 ·simp only[eY] at hwp
  split at hwp
  case h_2=>cases hwp
  rename_i es ys hse hsx
  split at hwp
  ·rename_i hne
   subst hne
   exact ((Wi ho k1 hinfo k2 k3 hse hsx).does (by rw[hd];exact hdn)).wp hop0 hsim (fun a' w' hs=>by rw[hd] at hs;exact hK _ a' w' hwp hs)
  ·rename_i hne
   have hpos:0<ys.length:=List.length_pos_iff.2 hne
   split at hwp
   ·rename_i z0 hsv
    refine grow es ys hse hsx hne (fun a w D E hs ad l cp hv =>?_) hwp
    have h0:=b7 hs k2
    rw[hsv] at h0
    obtain ⟨cs,q1,q2⟩:=h0
    simp only[ah] at q2
    have:a.eval y=.slice none 0 0:=by simpa[bJ,I.isAgg,q2] using q1.symm
    rw[this] at hv
    simp only[Value.slice.injEq] at hv
    omega
   ·rename_i z0 hsv
    refine grow es ys hse hsx hne (fun a w D E hs ad l cp hv =>?_) hwp
    have h0:=b7 hs k2
    rw[hsv] at h0
    obtain ⟨cs,q1,q2⟩:=h0
    simp only[ah] at q2
    obtain ⟨ad',q2⟩:=q2
    have:a.eval y=.slice ad' 0 0:=by simpa[bJ,I.isAgg,q2] using q1.symm
    rw[this] at hv
    simp only[Value.slice.injEq] at hv
    omega
   ·rename_i n p sz lo l hsv
    split at hwp
    case h_2=>cases hwp
    rename_i b hn
    split at hwp
    case h_2=>cases hwp
    rename_i fs hat
    split at hwp
    ·rename_i hroom
     split at hwp
     case isFalse=>cases hwp
     rename_i hok
     obtain ⟨rfl,hsh⟩:=hok
     exact (Wh ho k1 hinfo k2 k3 hsv hn hat hsx hroom hsh (by rw[hd];exact hdn)).wp hop0 hsim (fun a' w' hs=>by rw[hd] at hs;exact hK _ a' w' hwp hs)
    ·rename_i hroom
     refine grow es ys hse hsx hne (fun a w D E hs ad l' cp hv =>?_) hwp
     have h0:=b7 hs k2
     rw[hsv] at h0
     obtain ⟨_,bb,cs,T,off,c1,c2,c3,_,_,_,_,_,_,_,_,_,_,r1,dN,tc⟩:=hs.view (fs:=fs) h0 (by simp only[cv,hn,hat])
     rw[tc] at hv
     simp only[Value.slice.injEq] at hv
     omega
   ·cases hwp
theorem aeP{dr:Bool}{K:af→Prop}{dst:Option Nat}{rest:List aB}{a:Act}{w:World}{Kw:Act→World→Prop}{Q:Exit→Act→World→Prop}{e:TypeId}{esz bytes:Nat}{z:I}{s n:aJ}(hop:dx c.P o=some (.ka e esz bytes z s n))(hd:o.dst=dst)(hdn:∀ k,dst=some k→k<c.n)
  (hwp:a6 c.P c.Y dr K (bl A dst (.ka e esz bytes z s n) rest (aC rest))) (hsim:cn c A a w) (hK:∀ B a' w',a6 c.P c.Y dr K (aC rest B)→cn c B a' w'→Kw a' w'):o.wpIn c.bt 9 c.P a w Kw Q:=by
 have hop0:=hop
 simp only[bl] at hwp
 unfold dx at hop
 split at hop <;>try (first | (simp at hop;done) | ((repeat' split at hop) <;>simp at hop;done))
 rename_i args tys ho
 split at hop
 case h_2=>cases hop
 rename_i y q t t' ha ht
 split at hop
 case h_2=>cases hop
 rename_i e' s' x' k1 k2 k3
 split at hop
 case isTrue=>simp at hop
 split at hop
 case isFalse=>cases hop
 rename_i hk
 simp only[Option.map_eq_some_iff,b5.ka.injEq] at hop
 obtain ⟨zz,hz1,rfl,rfl,rfl,rfl,rfl,rfl⟩:=hop
 obtain ⟨hint,hk2,hk3⟩:=hk
 have ha':args = #[y,q]:=by apply Array.ext';simpa using ha
 have ht':tys = #[t,t']:=by apply Array.ext';simpa using ht
 subst ha' ht'
 rw[hz1] at hk3
 simp only[Option.map_some,Option.some.injEq] at hk3
 obtain ⟨kt,hkt⟩:∃ kt,c.P.underlying t'=some (.int kt):=by
  cases hu:c.P.underlying t' with
  |none=>rw[hu] at hint;cases hint
  |some dsc=>cases dsc <;>rw[hu] at hint <;>first | exact ⟨_,rfl⟩ | cases hint
 split at hwp
 case h_2=>cases hwp
 rename_i kx aV hx'
 simp only[pQ] at hwp
 split at hwp
 case h_2=>cases hwp
 rename_i es hse
 split at hwp
 case h_2=>cases hwp
 rename_i nn p sz lo l hsv
 split at hwp
 case h_2=>cases hwp
 rename_i bb hn
 split at hwp
 case h_2=>cases hwp
 rename_i fs hat
 split at hwp
 case isFalse=>cases hwp
 rename_i hroom
 simp only[fM] at hwp
 split at hwp
 case h_2=>cases hwp
 rename_i d
 split at hwp
 case h_2=>cases hwp
 rename_i hf
 split at hwp
 case isFalse=>cases hwp
 rename_i hb
 rw[List.length_replicate] at hb
 cases hwp with
 |any hdr hall =>
  obtain ⟨D,E,hs⟩:=hsim
  obtain ⟨v,w',m,g1,g2,g3⟩:=OE ho k1 k2 k3 hkt hx' rfl hroom.1 hk2 hz1 hk3 hse hb.1 hd (hdn d rfl) hf hs (fun ad l' cp hv=>by
   have h0:=b7 hs k2
   rw[hsv] at h0
   have hsv':=hse
   obtain ⟨_,b1,cs,T,off,c1,c2,c3,_,_,_,_,_,_,_,_,_,_,r1,dN,tc⟩:=hs.view (fs:=fs) h0 (by simp only[cv,hn,hat])
   rw[tc] at hv
   simp only[Value.slice.injEq] at hv
   have hel:es.length=l:=by
    rw[hsv] at hse
    simp only[ec,cv,hn,hat] at hse
    split at hse
    ·simp only[Option.some.injEq] at hse
     rw[←hse,List.length_take,List.length_drop]
     omega
    ·cases hse
   omega) hb.2
  refine ⟨lH,?_⟩
  rw[mh hop0,g1,Oper.uponIn_value,hd]
  rw[hd] at g3
  have:=hall m (by rw[List.length_replicate];exact g2)
  rw[List.length_replicate] at this
  exact hK _ _ _ this g3
theorem aeT{dr:Bool}{K:af→Prop}{dst:Option Nat}{rest:List aB}{a:Act}{w:World}{Kw:Act→World→Prop}{Q:Exit→Act→World→Prop}{esz:Nat}{z:I}{x:aJ}(hop:dx c.P o=some (.jb esz z x))(hd:o.dst=dst)(hdn:∀ k,dst=some k→k<c.n)
  (hwp:a6 c.P c.Y dr K (bl A dst (.jb esz z x) rest (aC rest))) (hsim:cn c A a w) (hK:∀ B a' w',a6 c.P c.Y dr K (aC rest B)→cn c B a' w'→Kw a' w'):o.wpIn c.bt 9 c.P a w Kw Q:=by
 have hop0:=hop
 simp only[bl] at hwp
 split at hwp
 case h_2=>cases hwp
 unfold dx at hop
 split at hop <;>try (first | (simp at hop;done) | ((repeat' split at hop) <;>simp at hop;done))
 rename_i args tys ho
 split at hop
 case h_2=>cases hop
 rename_i y t ha ht
 split at hop
 case h_2=>cases hop
 rename_i e' x' k1 k2
 simp only[Option.map_eq_some_iff,b5.jb.injEq] at hop
 obtain ⟨zz,hz1,rfl,rfl,rfl⟩:=hop
 have ha':args = #[y]:=by apply Array.ext';simpa using ha
 have ht':tys = #[t]:=by apply Array.ext';simpa using ht
 subst ha' ht'
 have nothing:a6 c.P c.Y dr K (aC rest A)→(∀ a w D E,aU c A a w D E→∃ ad cp,a.eval y=.slice ad 0 cp)→o.wpIn c.bt 9 c.P a w Kw Q:=fun h hv=>by
  obtain ⟨D,E,hs⟩:=hsim
  obtain ⟨ad,cp,hv⟩:=hv a w D E hs
  refine ⟨lH,?_⟩
  have hrun:(execOp a.eval o).run c.P w=.ok (.value (.tuple #[])) w:=by
   cases ad <;>simp[execOp,ho,resolve,invoke,builtin,Builtin.clear_,run_underlying k1,hv]
  rw[mh hop0,hrun,Oper.uponIn_value,hd]
  exact hK _ _ _ h ⟨D,E,hs⟩
 unfold mF at hwp
 split at hwp
 ·rename_i n p sz lo l hv
  split at hwp
  case h_2=>cases hwp
  rename_i b hn
  split at hwp
  case h_2=>cases hwp
  rename_i fs hat
  split at hwp
  case isFalse=>cases hwp
  rename_i hok
  obtain ⟨rfl,hsh⟩:=hok
  exact (Wk ho k1 k2 hz1 hv hn hat hsh hd).wp hop0 hsim (fun a' w' hs=>hK _ a' w' hwp hs)
 ·rename_i z0 hv
  refine nothing hwp fun a w D E hs =>?_
  have h0:=b7 hs k2
  rw[hv] at h0
  obtain ⟨cs,q1,q2⟩:=h0
  simp only[ah] at q2
  exact ⟨none,0,by simpa[bJ,I.isAgg,q2] using q1.symm⟩
 ·rename_i z0 hv
  refine nothing hwp fun a w D E hs =>?_
  have h0:=b7 hs k2
  rw[hv] at h0
  obtain ⟨cs,q1,q2⟩:=h0
  simp only[ah] at q2
  obtain ⟨ad,q2⟩:=q2
  exact ⟨ad,0,by simpa[bJ,I.isAgg,q2] using q1.symm⟩
 ·cases hwp
theorem aeU{dr:Bool}{K:af→Prop}{dst:Option Nat}{rest:List aB}{a:Act}{w:World}{Kw:Act→World→Prop}{Q:Exit→Act→World→Prop}{esz:Nat}{x y:aJ}(hop:dx c.P o=some (.ib esz x y))(hd:o.dst=dst)(hdn:∀ k,dst=some k→k<c.n)
  (hwp:a6 c.P c.Y dr K (bl A dst (.ib esz x y) rest (aC rest))) (hsim:cn c A a w) (hK:∀ B a' w',a6 c.P c.Y dr K (aC rest B)→cn c B a' w'→Kw a' w'):o.wpIn c.bt 9 c.P a w Kw Q:=by
 have hop0:=hop
 simp only[bl] at hwp
 unfold dx at hop
 split at hop <;>try (first | (simp at hop;done) | ((repeat' split at hop) <;>simp at hop;done))
 rename_i args tys ho
 split at hop
 case h_2=>cases hop
 rename_i aq v t t' ha ht
 split at hop
 case h_2=>cases hop
 rename_i e' x' y' k1 k2 k3
 split at hop
 case isFalse=>cases hop
 rename_i hk
 simp only[Option.some.injEq,b5.ib.injEq] at hop
 obtain ⟨rfl,rfl,rfl⟩:=hop
 obtain ⟨rfl,hinfo⟩:=hk
 have ha':args = #[aq,v]:=by apply Array.ext';simpa using ha
 have ht':tys = #[t,t]:=by apply Array.ext';simpa using ht
 subst ha' ht'
 unfold nk at hwp
 split at hwp
 ·rename_i n p sz lo l ys hv hsx
  split at hwp
  case h_2=>cases hwp
  rename_i b hn
  split at hwp
  case h_2=>cases hwp
  rename_i fs hat
  split at hwp
  case isFalse=>cases hwp
  rename_i hok
  obtain ⟨rfl,hsh⟩:=hok
  exact (Wl ho k1 hinfo k2 k3 hv hn hat hsx rfl hsh (by rw[hd];exact hdn)).wp hop0 hsim (fun a' w' hs=>by rw[hd] at hs;exact hK _ a' w' hwp hs)
 ·cases hwp
theorem wg{dr:Bool}{K:af→Prop}{op:b5}{dst:Option Nat}{rest:List aB}{a:Act}{w:World}{Kw:Act→World→Prop}{Q:Exit→Act→World→Prop}(hop:dx c.P o=some op)(hd:o.dst=dst)(hdn:∀ k,dst=some k→k<c.n)
  (hwp:a6 c.P c.Y dr K (bl A dst op rest (aC rest))) (hsim:cn c A a w) (hK:∀ B a' w',a6 c.P c.Y dr K (aC rest B)→cn c B a' w'→Kw a' w'):o.wpIn c.bt 9 c.P a w Kw Q:=by
 cases op with
 |alloc z=>exact aeN hop hd hdn hwp hsim hK
 |box x=>exact aeQ hop hd hdn hwp hsim hK
 |bx s x v=>exact ae1 hop hd hdn hwp hsim hK
 |call f args=>exact aeR hop hd hdn hwp hsim hK
 |iX f args=>exact ae2 hop hd hdn hwp hsim hK
 |jC=>exact aeV hop hd hdn hwp hsim hK
 |jV e bytes z n=>exact aeW hop hd hdn hwp hsim hK
 |gA ty m k v=>exact aeX hop hd hdn hwp hsim hK
 |j0 x=>exact ae0 hop hd hdn hwp hsim hK
 |jl x=>exact aeZ hop hd hdn hwp hsim hK
 |en x args=>exact aeS hop hd hdn hwp hsim hK
 |nilS neg x=>exact aeY hop hd hdn hwp hsim hK
 |dq e esz bytes z s x=>exact aeO hop hd hdn hwp hsim hK
 |ka e esz bytes z s n=>exact aeP hop hd hdn hwp hsim hK
 |jb esz z x=>exact aeT hop hd hdn hwp hsim hK
 |ib esz x y=>exact aeU hop hd hdn hwp hsim hK
 |_=>exact HR hop hd hdn hsim hK (by simpa only[bl] using hwp)
theorem wu{j t:Nat}{bO:Array Oper}{a:Act}{w:World}{b b':Bool}(hs:cn c A a w)(hg:o.guard=some (j,b))(ht:(bO[j]?).bind (·.dst)=some t)(hv:A.t t=.bool b'):Region.wanted o (yielded bO a.tmps)=(b'==b):=by
 obtain ⟨D,E,hs⟩:=hs
 have h:=hs.ed t
 rw[hv] at h
 have h:=lA h
 have hy:yielded bO a.tmps j=some b':=by
  unfold yielded
  rw[ht]
  simp only[Option.bind_some]
  simp only[Array.getD_eq_getD_getElem?] at h
  cases hh:a.tmps[t]? with
  |none=>simp[hh,undef] at h
  |some v=>simp only[hh,Option.getD_some] at h;subst h;rfl
 unfold Region.wanted
 rw[hg]
 simp only[hy]
 cases b <;>cases b' <;>rfl
theorem wv{j t:Nat}{bO:Array Oper}{a:Act}{w:World}{b:Bool}(hs:cn c A a w)(hg:o.guard=some (j,b))(ht:(bO[j]?).bind (·.dst)=some t)(hv:A.t t=.undef):Region.wanted o (yielded bO a.tmps)=false:=by
 obtain ⟨D,E,hs⟩:=hs
 have h:=hs.ed t
 rw[hv] at h
 simp only[aW] at h
 have hy:yielded bO a.tmps j=none:=by
  unfold yielded
  rw[ht]
  simp only[Option.bind_some]
  simp only[Array.getD_eq_getD_getElem?] at h
  cases hh:a.tmps[t]? with
  |none=>rfl
  |some v=>simp only[hh,Option.getD_some] at h;subst h;rfl
 unfold Region.wanted
 rw[hg]
 simp only[hy]
 rfl
theorem cn.pt{a:Act}{w:World}(h:cn c A a w){d:Option Nat}(hd:∀ k,d=some k→k<c.n):cn c (A.aO d .undef) (a.put d undef) w:=by
 obtain ⟨D,E,h⟩:=h
 exact ⟨D,E,h.aO hd (by simp[aW])⟩
theorem sh{dr:Bool}{K:af→Prop}{bO:Array Oper}{Q:Exit→Act→World→Prop}(hQ:∀ B a w,K B→cn c B a w→Q .normal a w):∀ (l:List Oper) (gs:List aB) (A:af) (a:Act) (w:World),kd c.P c.n bO l=some gs→a6 c.P c.Y dr K (aC gs A) →
  cn c A a w→wpListIn c.bt 9 c.P bO Q l a w
 | [],gs,A,a,w,hc,hwp,hs=>by
  simp only[kd,Option.some.injEq] at hc
  subst hc
  simp only[aC] at hwp
  cases hwp with
  |done hk=>exact hQ A a w hk hs
 |o::l,gs,A,a,w,hc,hwp,hs=>by
  simp only[kd] at hc
  split at hc
  case h_2=>cases hc
  rename_i g gs' hg hgs
  simp only[Option.some.injEq] at hc
  subst hc
  obtain ⟨h1,h2,h3,h4⟩:=uy hg
  have step:a6 c.P c.Y dr K (bl A g.dst g.op gs' (aC gs'))→o.wpIn c.bt 9 c.P a w (wpListIn c.bt 9 c.P bO Q l) Q:=fun h =>
   wg h1 h2.symm (by rw[h2];exact h3) h hs (fun B a' w' hw hs'=>sh hQ l gs' B a' w' hgs hw hs')
  simp only[wpListIn]
  simp only[aC] at hwp
  rcases h4 with ⟨h5,h6⟩ | ⟨j,b,t,h5,h6,h7⟩
  ·rw[h6] at hwp
   have hw:Region.wanted o (yielded bO a.tmps)=true:=by simp[Region.wanted,h5]
   rw[hw,if_pos rfl]
   exact step hwp
  ·rw[h7] at hwp
   simp only at hwp
   split at hwp
   ·rename_i b' hb'
    rw[wu hs h5 h6 hb']
    split at hwp
    ·rename_i hbb
     subst hbb
     simp only[BEq.rfl,if_true]
     exact step hwp
    ·rename_i hbb
     have:(b'==b)=false:=by simpa using hbb
     rw[this]
     simp only[Bool.false_eq_true,if_false]
     exact ⟨fun f _=>nq c f,sh hQ l gs' _ _ w hgs hwp (by rw[h2];exact hs.pt h3)⟩
   ·rename_i hb'
    rw[wv hs h5 h6 hb']
    simp only[Bool.false_eq_true,if_false]
    exact ⟨fun f _=>nq c f,sh hQ l gs' _ _ w hgs hwp (by rw[h2];exact hs.pt h3)⟩
   ·cases hwp
end
def aJ.sl:aJ→List Nat
 | .t n=>[n]
 | .c _=>[]
def sQ:Option aJ→List Nat
 |some x=>x.sl
 |none=>[]
def jI(l:List aJ):List Nat:=l.flatMap aJ.sl
def b5.cY:b5→List Nat
 | .mv x=>x.sl
 | .pick c a b=>c.sl++(a.sl++b.sl)
 | .bin _ x y=>x.sl++y.sl
 | .eqv _ _ x y=>x.sl++y.sl
 | .nilS _ x=>x.sl
 | .conv _ x=>x.sl
 | .un _ x=>x.sl
 | .ld _ x=>x.sl
 | .fa _ _ x=>x.sl
 | .fl _ _ _ x=>x.sl
 | .ia _ _ x i=>x.sl++i.sl
 | .is _ x i=>x.sl++i.sl
 | .ix _ _ _ x i=>x.sl++i.sl
 | .len x=>x.sl
 | .lenT x=>x.sl
 | .va _ _ x=>x.sl
 | .sl _ x lo hi mx=>x.sl++(sQ lo++(sQ hi++sQ mx))
 | .bld _ ps=>jI (ps.map (·.2))
 | .bs _ ps=>jI ps
 | .ext x _=>x.sl
 | .mk _ caps=>jI caps
 | .alloc _=>[]
 | .box x=>x.sl
 | .bx _ x v=>x.sl++v.sl
 | .dq _ _ _ _ s x=>s.sl++x.sl
 | .ka _ _ _ _ s x=>s.sl++x.sl
 | .cap x=>x.sl
 | .bs0 _=>[]
 | .jb _ _ x=>x.sl
 | .ib _ x y=>x.sl++y.sl
 | .call _ args=>jI args
 | .en x args=>x.sl++jI args
 | .iX _ args=>jI args
 | .nilC x=>x.sl
 | .ptrE _ x y=>x.sl++y.sl
 | .jV _ _ _ n=>n.sl
 | .jC=>[]
 | .lk _ _ _ m k=>m.sl++k.sl
 | .gA _ m k v=>m.sl++(k.sl++v.sl)
 | .j0 x=>x.sl
 | .jl x=>x.sl
 | .ent x=>x.sl
def aB.cY(g:aB):List Nat:=g.op.cY++(match g.guard with | some (t,_)=>[t] | none=>[])
def b5.gl:b5→Nat
 | .mv _ | .pick .. | .bin .. | .eqv .. | .nilS .. | .conv .. | .un .. | .fl .. | .ix .. | .lenT _ | .bld .. | .ext .. | .mk .. | .nilC _ | .ptrE .. =>0
 | .ld .. | .fa .. | .ia .. | .is .. | .len _ | .va .. | .bs .. | .sl .. | .cap _ | .bs0 _ | .lk .. | .ent _=>1
 | .call .. | .en .. =>2
 | .alloc _ | .box _=>3
 | .bx .. =>4
 | .dq .. | .ka .. | .jb .. | .ib .. | .iX .. | .jV .. | .jC | .gA .. | .j0 _ | .jl _=>5
def uM(a b:Nat):Bool:=(decide (a≤2)&&decide (b≤3))||(a==0&&b==4)
def mP(g h:aB):Bool:=uM g.op.gl h.op.gl&&(match g.dst with
  |some d => !h.cY.contains d&&h.dst != some d
  |none=>true)&&(match h.dst with
  |some d => !g.cY.contains d
  |none=>true)
def dZ(A A':af)(l:List Nat):Prop:=∀ k∈l,A'.t k=A.t k
section
variable {A A':af}
theorem da{x:aJ}(h:dZ A A' x.sl):ae A' x=ae A x:=by
 cases x with
 |t n=>exact h n (by simp[aJ.sl])
 |c x=>rfl
theorem dZ.l{l m:List Nat}(h:dZ A A' (l++m)):dZ A A' l:=fun k hk=>h k (List.mem_append_left _ hk)
theorem dZ.r{l m:List Nat}(h:dZ A A' (l++m)):dZ A A' m:=fun k hk=>h k (List.mem_append_right _ hk)
theorem lO:∀ {l:List aJ},dZ A A' (jI l)→l.map (ae A')=l.map (ae A)
 | [],_=>rfl
 |x::l,h=>by
  simp only[jI,List.flatMap_cons] at h
  simp only[List.map_cons,da h.l,lO (l:=l) h.r]
theorem oN{x:Option aJ}(h:dZ A A' (sQ x)):x.map (ae A')=x.map (ae A):=by
 cases x with
 |none=>rfl
 |some x=>simp only[Option.map_some,da (x:=x) h]
theorem Ci:∀ {l:List (Nat×aJ)},dZ A A' (jI (l.map (·.2)))→(l.map fun p=>(p.1,ae A' p.2))=l.map fun p=>(p.1,ae A p.2)
 | [],_=>rfl
 |x::l,h=>by
  simp only[jI,List.map_cons,List.flatMap_cons] at h
  simp only[List.map_cons,da h.l,Ci (l:=l) h.r]
theorem qp{f g:I→Option I}(h:∀ x v,f x=some v→g x=some v):∀ {xs vs:List I},fE f xs=some vs→fE g xs=some vs
 | [],vs,hx=>by simpa only[fE] using hx
 |x::xs,vs,hx=>by
  simp only[fE] at hx ⊢
  cases h1:f x with
  |none=>rw[h1] at hx;cases hx
  |some y=>cases h2:fE f xs with
   |none=>rw[h1,h2] at hx;cases hx
   |some ys=>rw[h1,h2] at hx;rw[h x y h1,qp h h2];exact hx
theorem vj(hu:ee A A'):∀ (k:Nat) (x v:I),dU A k x=some v→dU A' k x=some v
 |0,_,_,h=>by simp[dU] at h
 |k+1,x,v,h=>by
  have ih:=vj hu k
  simp only[dU] at h ⊢
  split at h
  ·rename_i hc;rw[if_pos hc];exact h
  ·rename_i hc
   rw[if_neg hc]
   cases x <;>simp only[] at h ⊢ <;>try (cases h;done)
   case agg fs =>
    simp only[Option.map_eq_some_iff] at h ⊢
    obtain ⟨a,h1,h2⟩:=h
    exact ⟨a,qp ih h1,h2⟩
   case func f fs =>
    simp only[Option.map_eq_some_iff] at h ⊢
    obtain ⟨a,h1,h2⟩:=h
    exact ⟨a,qp ih h1,h2⟩
   case ptr n p =>
    cases hd:cv A (.ptr n p) with
    |none=>rw[hd] at h;cases h
    |some y =>
     rw[hd] at h;rw[jz hu hd]
     simp only[Option.map_eq_some_iff] at h ⊢
     obtain ⟨a,h1,h2⟩:=h
     exact ⟨a,ih _ _ h1,h2⟩
   case view n p sz lo l =>
    cases hd:cv A (.ptr n p) with
    |none=>rw[hd] at h;cases h
    |some y=>rw[hd] at h;rw[jz hu hd];exact h
   case mref n =>
    cases ho:A.o n with
    |none=>rw[ho] at h;cases h
    |some y =>
     rw[ho] at h;rw[hu n y ho]
     cases y <;>try (cases h;done)
     simp only at h ⊢
     split at h
     ·rename_i hk
      rw[if_pos hk]
      simp only[Option.map_eq_some_iff] at h ⊢
      obtain ⟨a,h1,h2⟩:=h
      exact ⟨a,qp ih h1,h2⟩
     ·cases h
   case own n l =>
    cases ho:A.o n with
    |none=>rw[ho] at h;cases h
    |some y=>rw[ho] at h;rw[hu n y ho];exact h
mutual
theorem Cv(hu:ee A A'){aD:Bool} : ∀ {x v:I},bp aD A x=some v→bp aD A' x=some v
 | .ptr n p,v,h=>by
  simp only[bp] at h ⊢
  cases aD <;>simp only[Bool.false_eq_true,if_false,if_true] at h ⊢
  ·exact h
  ·cases hd:cv A (.ptr n p) with
   |none=>rw[hd] at h;cases h
   |some y =>
    rw[hd] at h;rw[jz hu hd]
    simp only at h ⊢
    split at h
    ·rename_i hc;rw[if_pos hc];exact h
    ·rename_i hc
     rw[if_neg hc]
     simp only[Option.map_eq_some_iff] at h ⊢
     obtain ⟨a,h1,h2⟩:=h
     exact ⟨a,vj hu 9 _ _ h1,h2⟩
 | .mref n,v,h=>by
  simp only[bp] at h ⊢
  cases aD <;>simp only[Bool.false_eq_true,if_false,if_true] at h ⊢
  ·exact h
  ·cases ho:A.o n with
   |none=>rw[ho] at h;cases h
   |some y =>
    rw[ho] at h;rw[hu n y ho]
    cases y <;>try (cases h;done)
    simp only at h ⊢
    split at h
    ·rename_i hk
     rw[if_pos hk]
     simp only[Option.map_eq_some_iff] at h ⊢
     obtain ⟨a,h1,h2⟩:=h
     exact ⟨a,qp (vj hu 9) h1,h2⟩
    ·cases h
 | .dj _,_,h=>by simp[bp] at h
 | .cS _ _,_,h=>by simpa only[bp] using h
 | .own n k,v,h=>by
  simp only[bp] at h ⊢
  cases ho:A.o n with
  |none=>rw[ho] at h;cases h
  |some y=>rw[ho] at h;rw[hu n y ho];exact h
 | .view n p sz lo k,v,h=>by
  simp only[bp] at h ⊢
  cases aD <;>simp only[Bool.false_eq_true,if_false,if_true] at h ⊢
  ·exact h
  ·cases hd:cv A (.ptr n p) with
   |none=>rw[hd] at h;cases h
   |some y=>rw[hd] at h;rw[jz hu hd];exact h
 | .func f caps,v,h=>by
  simp only[bp,Option.map_eq_some_iff] at h ⊢
  obtain ⟨a,h1,h2⟩:=h
  exact ⟨a,kX hu h1,h2⟩
 | .agg fs,v,h=>by
  simp only[bp,Option.map_eq_some_iff] at h ⊢
  obtain ⟨a,h1,h2⟩:=h
  exact ⟨a,kX hu h1,h2⟩
 | .nils _,_,h | .c0 _,_,h | .tuple _,_,h | .undef,_,h | .db,_,h | .bool _,_,h | .int _ _,_,h | .cX _,_,h | .nilp,_,h | .de,_,h | .dQ,_,h | .raw _,_,h | .slice _ _,_,h | .ref _,_,h | .iface _ _,_,h=>by simpa only[bp] using h
theorem kX(hu:ee A A'){aD:Bool} : ∀ {xs vs:List I},bY aD A xs=some vs→bY aD A' xs=some vs
 | [],vs,h=>by simpa only[bY] using h
 |x::xs,vs,h=>by
  simp only[bY] at h ⊢
  cases h1:bp aD A x with
  |none=>rw[h1] at h;cases h
  |some y=>cases h2:bY aD A xs with
   |none=>rw[h1,h2] at h;cases h
   |some ys=>rw[h1,h2] at h;rw[Cv hu h1,kX hu h2];exact h
end
theorem xM{op:b5}(hc:op.gl=0)(h:dZ A A' op.cY):br A' op=br A op:=by
 cases op <;>simp only[b5.gl] at hc <;>try (cases hc;done)
 all_goals simp only[b5.cY] at h
 case mv x=>simp only[br,da h]
 case pick c a b=>simp only[br,da h.l,da h.r.l,da h.r.r]
 case bin _ x y=>simp only[br,da h.l,da h.r]
 case eqv _ _ x y=>simp only[br,da h.l,da h.r]
 case nilS x=>simp only[br,da h]
 case conv x=>simp only[br,da h]
 case un x=>simp only[br,da h]
 case fl x=>simp only[br,da h]
 case ix x i=>simp only[br,da h.l,da h.r]
 case lenT x=>simp only[br,da h]
 case bld zs ps=>simp only[br,Ci h]
 case ext x i=>simp only[br,da h]
 case mk f caps=>simp only[br,lO h]
 case nilC x=>simp only[br,da h]
 case ptrE neg x y=>simp only[br,da h.l,da h.r]
theorem agC(hu:ee A A'){m:I}{q:List I×List I}(h:fZ A m=some q):fZ A' m=some q:=by
 cases m with
 |mref n =>
  simp only[fZ] at h ⊢
  cases hd:A.o n with
  |none=>simp only[hd] at h;cases h
  |some y=>simp only[hd] at h;simp only[hu n y hd];exact h
 |raw v=>cases v <;>first | (cases h;done) | (rename_i m;cases m <;>first | exact h | cases h)
 |cS ks vs=>exact h
 |_=>simp only[fZ] at h;cases h
theorem Jq{op:b5}(hu:ee A A')(h:dZ A A' op.cY){v:I}(hv:br A op=some v):br A' op=some v:=by
 by_cases hc:op.gl=0
 ·rw[xM hc h];exact hv
 cases op <;>try (exact absurd rfl hc)
 all_goals simp only[b5.cY] at h
 case ld s x =>
  simp only[br,da h] at hv ⊢
  cases hd:cv A (ae A x) with
  |none=>rw[hd] at hv;cases hv
  |some y=>rw[hd] at hv;rw[jz hu hd];exact hv
 case fa f off x =>
  simp only[br,da h] at hv ⊢
  generalize ae A x=z at *
  cases z <;>try (first | exact hv | (rename_i y;cases y <;>exact hv))
  rename_i n p
  cases hd:cv A (.ptr n p) with
  |none=>simp only[hd] at hv;cases hv
  |some y=>simp only[hd] at hv;simp only[jz hu hd];exact hv
 case ia n esz x i =>
  simp only[br,da h.l,da h.r] at hv ⊢
  generalize ae A x=z at *
  cases z <;>try (first | exact hv | (rename_i y;cases y <;>exact hv))
  rename_i n p
  cases hd:cv A (.ptr n p) with
  |none=>simp only[hd] at hv;(repeat' split at hv) <;>cases hv
  |some y=>simp only[hd] at hv;simp only[jz hu hd];exact hv
 case is esz x i =>
  simp only[br,da h.l,da h.r] at hv ⊢
  generalize ae A i=q at *
  cases q <;>try (exact hv)
  simp only at hv ⊢
  generalize ae A x=z at *
  cases z <;>try (first | exact hv | (rename_i y;cases y <;>exact hv))
  ·rename_i n p
   cases hd:A.o n with
   |none=>simp only[hd] at hv;cases hv
   |some y=>simp only[hd] at hv;simp only[hu n y hd];exact hv
  ·rename_i n p sz lo k
   simp only at hv ⊢
   cases hd:cv A (.ptr n p) with
   |none=>simp only[hd] at hv;cases hv
   |some y=>simp only[hd] at hv;simp only[jz hu hd];exact hv
 case len x =>
  simp only[br,da h] at hv ⊢
  generalize ae A x=z at *
  cases z <;>try (first | exact hv | (rename_i y;cases y <;>exact hv))
  rename_i n p
  cases hd:A.o n with
  |none=>simp only[hd] at hv;cases hv
  |some y=>simp only[hd] at hv;simp only[hu n y hd];exact hv
 case cap x =>
  simp only[br,da h] at hv ⊢
  generalize ae A x=z at *
  cases z <;>try (first | exact hv | (rename_i y;cases y <;>exact hv))
  rename_i n p sz lo k
  simp only at hv ⊢
  cases hd:cv A (.ptr n p) with
  |none=>simp only[hd] at hv;cases hv
  |some y=>simp only[hd] at hv;simp only[jz hu hd];exact hv
 case bs0 esz=>exact hv
 case sl esz x lo hi mx =>
  simp only[br,da h.l,oN h.r.l,oN h.r.r.l,oN h.r.r.r] at hv ⊢
  generalize ae A x=z at *
  cases z <;>try (first | exact hv | (rename_i y;cases y <;>exact hv))
  rename_i n p sz l0 k
  simp only at hv ⊢
  cases hd:cv A (.ptr n p) with
  |none=>simp only[hd] at hv;cases hv
  |some y=>simp only[hd] at hv;simp only[jz hu hd];exact hv
 case va n esz x =>
  simp only[br,da h] at hv ⊢
  generalize ae A x=z at *
  cases z <;>try (first | exact hv | (rename_i y;cases y <;>exact hv))
  rename_i n p
  cases hd:cv A (.ptr n p) with
  |none=>simp only[hd] at hv;cases hv
  |some y=>simp only[hd] at hv;simp only[jz hu hd];exact hv
 case lk ty z ok m k =>
  simp only[br,da h.l,da h.r] at hv ⊢
  cases hd:fZ A (ae A m) with
  |none=>rw[hd] at hv;cases hv
  |some y=>rw[hd] at hv;rw[agC hu hd];exact hv
 case ent x =>
  simp only[br,da h] at hv ⊢
  generalize ae A x=z at *
  cases z <;>try (exact hv)
  rename_i n
  simp only at hv ⊢
  cases hd:A.o n with
  |none=>simp only[hd] at hv;cases hv
  |some y=>simp only[hd] at hv;simp only[hu n y hd];exact hv
 case bs esz ps =>
  simp only[br,lO h] at hv ⊢
  cases hd:bY false A (ps.map (ae A)) with
  |none=>rw[hd] at hv;cases hv
  |some y=>rw[hd] at hv;rw[kX hu hd];exact hv
 all_goals (simp only[br] at hv;cases hv)
end
def pass(A:af)(g:aB):Prop:=match g.guard with | none=>True | some (t,b)=>A.t t=.bool b
def ga(A:af)(g:aB):Prop:=match g.guard with | none=>False | some (t,b)=>A.t t=.bool (!b)∨A.t t=.undef
inductive ju (P:Program) (A:af):b5→I→Prop where
 |pure {op:b5} {v:I} : br A op=some v→ju P A op v
 |flat {f:FuncId} {args:List aJ} {cargs:List I} {r:I} : bY true A (args.map (ae A))=some cargs→az P f cargs r→r.flat=true→ju P A (.call f args) r
 |lead {f:FuncId} {args:List aJ} {cargs:List I} {r:I} : bY false A (args.map (ae A))=some cargs→az P f cargs r→ju P A (.call f args) r
 |tH {x:aJ} {f:FuncId} {caps:List I} {args:List aJ} {cargs:List I} {r:I} : ae A x=.func f caps→bY true A (args.map (ae A)++caps)=some cargs→az P f cargs r→r.flat=true→ju P A (.en x args) r
 |tI {x:aJ} {f:FuncId} {caps:List I} {args:List aJ} {cargs:List I} {r:I} : ae A x=.func f caps→bY false A (args.map (ae A)++caps)=some cargs→az P f cargs r→ju P A (.en x args) r
def rj(A:af)(op:b5)(x:I):Prop:=op=.alloc x∨∃ y,op=.box y∧(ae A y).cq=true∧x=ae A y
def rl(A:af)(op:b5)(n:Nat)(z:ai):Prop:=∃ s x v p b old,op=.bx s x v∧ae A x=.ptr n p∧A.o n=some (.box b)∧b.at p=some old∧xy s (ae A v) old∧z=.box (b.dK p (ae A v))
def NZ(A:af)(dst:Option Nat)(op:b5)(B:af):Prop:=op.gl=5∧∀ (rest:List aB) (k:af→cE),bl A dst op rest k=k B
theorem ajQ{A:af}{neg:Bool}{x:aJ}{v:I}(h:br A (.nilS neg x)=some v):jK (ae A x)=false:=by
 simp only[br] at h
 generalize ae A x=q at *
 cases q <;>simp only[jK] <;>simp only at h <;>try (cases h;done)
 rename_i sz es
 cases es with
 |nil=>simp at h
 |cons=>rfl
inductive fe (P:Program) (g:aB) (A:af):af→Prop where
 |skip:ga A g→fe P g A (A.aO g.dst .undef)
 |val {v:I} : pass A g→ju P A g.op v→fe P g A (A.aO g.dst v)
 |jk {d:Nat} {x:I} : pass A g→g.dst=some d→rj A g.op x→A.o d=none→fe P g A ((A.aR d (.box x)).put d (.ptr d []))
 |bx {n:Nat} {z:ai} : pass A g→g.dst=none→rl A g.op n z→fe P g A (A.aR n z)
 |ig {B:af} : pass A g→NZ A g.dst g.op B→fe P g A B
theorem ur{b' b:Bool}(h:b'≠b):b' = !b:=by cases b <;>cases b' <;>simp_all
section
variable {P:Program} {Y:Value→List I→List (Nat×ai)→cR→Prop} {K:af→Prop}
theorem fe.IT{A:af}{g:aB}{rest:List aB}(hp:pass A g)(h:a6 P Y true K (bl A g.dst g.op rest (aC rest))):∃ B,fe P g A B∧a6 P Y true K (aC rest B):=by
 have pure:a6 P Y true K (cL (br A g.op) fun v=>aC rest (A.aO g.dst v))→∃ B,fe P g A B∧a6 P Y true K (aC rest B):=by
  intro h
  cases hv:br A g.op with
  |none=>rw[hv] at h;cases h
  |some v=>rw[hv] at h;exact ⟨_,.val hp (.pure hv),h⟩
 obtain ⟨dst,op,gd⟩:=g
 cases op with
 |alloc z =>
  simp only[bl] at h
  split at h
  case h_2=>cases h
  split at h
  case h_2=>cases h
  rename_i hd _ ho
  exact ⟨_,.jk hp rfl (.inl rfl) ho,h⟩
 |box x =>
  simp only[bl] at h
  split at h
  case h_2=>cases h
  split at h
  case h_2=>cases h
  rename_i hd _ ho
  split at h
  case isFalse=>cases h
  rename_i hv
  exact ⟨_,.jk hp rfl (.inr ⟨x,rfl,hv,rfl⟩) ho,h⟩
 |bx s x v =>
  simp only[bl] at h
  split at h
  case h_2=>cases h
  split at h
  case h_2=>cases h
  rename_i n p hx
  split at h
  case h_2=>cases h
  rename_i b hb
  split at h
  case h_2=>cases h
  rename_i old hat
  split at h
  case isFalse=>cases h
  rename_i hok
  exact ⟨_,.bx hp rfl ⟨s,x,v,p,b,old,rfl,hx,hb,hat,hok,rfl⟩,h⟩
 |nilS neg x =>
  simp only[bl] at h
  split at h
  ·cases h with | any hdr=>cases hdr
  ·exact pure h
 |dq e esz bytes z s x =>
  simp only[bl] at h
  split at h
  ·rename_i n l hs'
   split at h
   case h_2=>cases h
   rename_i sz ys hx'
   split at h
   case h_3=>cases h
   case h_2 =>
    rename_i T xs hn
    split at h
    case isFalse=>cases h
    rename_i hok
    exact ⟨_,.ig hp ⟨rfl,fun rest k=>by simp only[bl,hs',hx',hn,if_pos hok]⟩,h⟩
   rename_i T sz' es hn
   split at h
   case isFalse=>cases h
   rename_i hok
   exact ⟨_,.ig hp ⟨rfl,fun rest k=>by simp only[bl,hs',hx',hn,if_pos hok]⟩,h⟩
  ·rename_i hno
   have hg:∀ (rest:List aB) (k:af→cE),bl A dst (.dq e esz bytes z s x) rest k=eY A dst esz bytes z (ae A s) (ec A esz (ae A s)) (ec A esz (ae A x)) k:=fun rest k=>by
    simp only[bl]
   simp only[eY] at h hg
   split at h
   case h_2=>cases h
   rename_i es ys hse hsx
   simp only[hse,hsx] at hg
   have grow:¬ a6 P Y true K (fM A dst esz bytes z es ys (aC rest)):=fun h=>by
    simp only[fM] at h
    split at h
    case h_2=>cases h
    split at h
    case h_2=>cases h
    split at h
    case isFalse=>cases h
    cases h with | any hdr=>cases hdr
   split at h
   ·rename_i hne
    simp only[if_pos hne] at hg
    exact ⟨_,.ig hp ⟨rfl,hg⟩,h⟩
   ·rename_i hne
    simp only[if_neg hne] at hg
    split at h
    ·exact absurd h grow
    ·exact absurd h grow
    ·rename_i n p sz lo l hsv
     split at h
     case h_2=>cases h
     rename_i b hn
     split at h
     case h_2=>cases h
     rename_i fs hat
     split at h
     ·rename_i hroom
      split at h
      case isFalse=>cases h
      rename_i hok
      simp only[hsv,hn,hat,if_pos hroom,if_pos hok] at hg
      exact ⟨_,.ig hp ⟨rfl,hg⟩,h⟩
     ·exact absurd h grow
    ·cases h
 |iX f args =>
  simp only[bl] at h
  cases h with | ext r hdr=>cases hdr
 |ka e esz bytes z s n =>
  exfalso
  simp only[bl] at h
  split at h
  case h_2=>cases h
  simp only[pQ] at h
  split at h
  case h_2=>cases h
  split at h
  case h_2=>cases h
  split at h
  case h_2=>cases h
  split at h
  case h_2=>cases h
  split at h
  case isFalse=>cases h
  simp only[fM] at h
  split at h
  case h_2=>cases h
  split at h
  case h_2=>cases h
  split at h
  case isFalse=>cases h
  cases h with | any hdr=>cases hdr
 |jC =>
  simp only[bl] at h
  split at h
  case h_2=>cases h
  rename_i d
  split at h
  case h_2=>cases h
  rename_i hf
  exact ⟨_,.ig hp ⟨rfl,fun rest k=>by simp only[bl,hf]⟩,h⟩
 |jV e bytes z n =>
  simp only[bl] at h
  split at h
  case h_2=>cases h
  rename_i d
  split at h
  case h_2=>cases h
  rename_i hf
  split at h
  case h_2=>cases h
  rename_i k m hn
  split at h
  case isFalse=>cases h
  rename_i hc
  exact ⟨_,.ig hp ⟨rfl,fun rest k=>by simp only[bl,hf,hn,if_pos hc]⟩,h⟩
 |gA ty m key v =>
  simp only[bl] at h
  split at h
  case h_2=>cases h
  split at h
  case h_2=>cases h
  rename_i n hm
  split at h
  case h_2=>cases h
  rename_i ks vs hn
  split at h
  case h_2=>cases h
  rename_i ks' vs' hl
  exact ⟨_,.ig hp ⟨rfl,fun rest k=>by simp only[bl,hm,hn,hl]⟩,h⟩
 |j0 x =>
  simp only[bl] at h
  split at h
  case h_2=>cases h
  rename_i d
  split at h
  case h_2=>cases h
  rename_i hf
  split at h
  case h_2=>cases h
  rename_i ks vs hx
  exact ⟨_,.ig hp ⟨rfl,fun rest k=>by simp only[bl,hf,hx]⟩,h⟩
 |jl x =>
  simp only[bl] at h
  split at h
  case h_2=>cases h
  rename_i n hx
  split at h
  case h_2=>cases h
  rename_i ks vs left cur hn
  split at h
  ·rename_i hl
   exact ⟨_,.ig hp ⟨rfl,fun rest k=>by simp only[bl,hx,hn,if_pos hl]⟩,h⟩
  ·cases h with | any hdr=>cases hdr
 |jb esz z x =>
  simp only[bl] at h
  split at h
  case h_2=>cases h
  have hg:∀ (rest:List aB) (k:af→cE),bl A none (.jb esz z x) rest k=mF A esz z k (ae A x):=fun rest k=>rfl
  simp only[mF] at h hg
  split at h
  ·rename_i n p sz lo l hv
   split at h
   case h_2=>cases h
   rename_i b hn
   split at h
   case h_2=>cases h
   rename_i fs hat
   split at h
   case isFalse=>cases h
   rename_i hok
   simp only[hv,hn,hat,if_pos hok] at hg
   exact ⟨_,.ig hp ⟨rfl,hg⟩,h⟩
  ·rename_i z0 hv
   simp only[hv] at hg
   exact ⟨_,.ig hp ⟨rfl,hg⟩,h⟩
  ·rename_i z0 hv
   simp only[hv] at hg
   exact ⟨_,.ig hp ⟨rfl,hg⟩,h⟩
  ·cases h
 |ib esz x y =>
  have hg:∀ (rest:List aB) (k:af→cE),bl A dst (.ib esz x y) rest k=nk A dst esz k (ae A x) (ec A esz (ae A y)):=fun rest k=>rfl
  simp only[bl] at h
  simp only[nk] at h hg
  split at h
  ·rename_i n p sz lo l ys hv hsx
   split at h
   case h_2=>cases h
   rename_i b hn
   split at h
   case h_2=>cases h
   rename_i fs hat
   split at h
   case isFalse=>cases h
   rename_i hok
   simp only[hv,hsx,hn,hat,if_pos hok] at hg
   exact ⟨_,.ig hp ⟨rfl,hg⟩,h⟩
  ·cases h
 |call f args =>
  simp only[bl] at h
  generalize h1:bY true A (args.map (ae A))=a1 at h
  generalize h2:bY false A (args.map (ae A))=a2 at h
  cases h with
  |flat r hc hf hw=>exact ⟨_,.val hp (.flat h1 hc hf),hw⟩
  |lead r hc hw=>exact ⟨_,.val hp (.lead h2 hc),hw⟩
  |ik ns r hdr=>cases hdr
  |bQ aD ρ os cargs post hdr=>cases hdr
 |en x args =>
  simp only[bl] at h
  split at h
  case h_3=>cases h
  case h_2=>cases h with | yq os cargs post hdr=>cases hdr
  rename_i f caps hx
  generalize h1:bY true A (args.map (ae A)++caps)=a1 at h
  generalize h2:bY false A (args.map (ae A)++caps)=a2 at h
  cases h with
  |flat r hc hf hw=>exact ⟨_,.val hp (.tH hx h1 hc hf),hw⟩
  |lead r hc hw=>exact ⟨_,.val hp (.tI hx h2 hc),hw⟩
  |ik ns r hdr=>cases hdr
  |bQ aD ρ os cargs post hdr=>cases hdr
 |_=>exact pure (by simpa only[bl] using h)
theorem fe.xm{A:af}{g:aB}{rest:List aB}(h:a6 P Y true K (aC (g::rest) A)):∃ B,fe P g A B∧a6 P Y true K (aC rest B):=by
 simp only[aC] at h
 split at h
 ·rename_i hg
  exact fe.IT (by simp only[pass,hg]) h
 ·rename_i t b hg
  split at h
  ·rename_i b' hb
   split at h
   ·rename_i hbb
    subst hbb
    exact fe.IT (by simp only[pass,hg];exact hb) h
   ·rename_i hbb
    refine ⟨_,.skip (by simp only[ga,hg];exact .inl (by rw[hb,ur hbb])),h⟩
  ·rename_i hb
   exact ⟨_,.skip (by simp only[ga,hg];exact .inr hb),h⟩
  ·cases h
theorem nf{A:af}{g:aB}{rest:List aB}(hp:pass A g):aC (g::rest) A=bl A g.dst g.op rest (aC rest):=by
 simp only[aC]
 cases hg:g.guard with
 |none=>rfl
 |some tb =>
  obtain ⟨t,b⟩:=tb
  simp only[pass,hg] at hp
  simp only[hp,if_true]
theorem fe.yn{A B:af}{g:aB}{rest:List aB}(h:fe P g A B)(hw:a6 P Y true K (aC rest B)):a6 P Y true K (aC (g::rest) A):=by
 cases h with
 |skip hn =>
  simp only[aC]
  cases hg:g.guard with
  |none=>simp only[ga,hg] at hn
  |some tb =>
   obtain ⟨t,b⟩:=tb
   simp only[ga,hg] at hn
   rcases hn with hn | hn
   ·simp only[hn];rw[if_neg (by cases b <;>simp)];exact hw
   ·simp only[hn];exact hw
 |val hp hv =>
  rw[nf hp]
  obtain ⟨dst,op,gd⟩:=g
  cases hv with
  |pure hv =>
   have hv':br A op=some _:=hv
   cases op <;>try (simp only[bl,hv',cL] <;>first | exact hw | (simp only[br] at hv';cases hv');done)
   all_goals first
    |(simp only[br] at hv';cases hv';done)
    |(simp only[bl,ajQ hv',Bool.false_eq_true,if_false,hv',cL];exact hw)
  |flat h1 h2 h3=>simp only[bl,h1];exact .flat _ h2 h3 hw
  |lead h1 h2=>simp only[bl,h1];exact .lead _ h2 hw
  |tH h0 h1 h2 h3=>simp only[bl,h0,h1];exact .flat _ h2 h3 hw
  |tI h0 h1 h2=>simp only[bl,h0,h1];exact .lead _ h2 hw
 |jk hp hd hm ho =>
  rw[nf hp]
  obtain ⟨dst,op,gd⟩:=g
  simp only at hd
  subst hd
  rcases hm with hm | ⟨y,hm,hv,rfl⟩ <;>simp only at hm <;>subst hm
  ·simp only[bl,ho];exact hw
  ·simp only[bl,ho,hv,if_true];exact hw
 |bx hp hd hm =>
  rw[nf hp]
  obtain ⟨dst,op,gd⟩:=g
  simp only at hd
  subst hd
  obtain ⟨s,x,v,p,b,old,h1,h2,h3,h4,h5,rfl⟩:=hm
  simp only at h1
  subst h1
  simp only[bl,h2,h3,h4,if_pos h5]
  exact hw
 |ig hp hm =>
  rw[nf hp,hm.2]
  exact hw
theorem ju.cJ{A A':af}{op:b5}{v:I}(h:ju P A op v)(hu:ee A A')(ha:dZ A A' op.cY):ju P A' op v:=by
 cases h with
 |pure h=>exact .pure (Jq hu ha h)
 |flat h1 h2 h3=>exact .flat (by rw[lO ha];exact kX hu h1) h2 h3
 |lead h1 h2=>exact .lead (by rw[lO ha];exact kX hu h1) h2
 |tH h0 h1 h2 h3=>simp only[b5.cY] at ha;exact .tH (by rw[da ha.l];exact h0) (by rw[lO ha.r];exact kX hu h1) h2 h3
 |tI h0 h1 h2=>simp only[b5.cY] at ha;exact .tI (by rw[da ha.l];exact h0) (by rw[lO ha.r];exact kX hu h1) h2
theorem ju.ik{A A':af}{op:b5}{v:I}(h:ju P A op v)(hc:op.gl=0)(ha:dZ A A' op.cY):ju P A' op v:=by
 cases h with
 |pure h=>exact .pure (by rw[xM hc ha];exact h)
 |_=>simp[b5.gl] at hc
theorem mY{A A':af}{g:aB}(ha:dZ A A' g.cY)(h:pass A g):pass A' g:=by
 unfold pass at *
 cases hg:g.guard with
 |none=>trivial
 |some tb=>simp only[hg] at h ⊢;rw[ha tb.1 (by simp[aB.cY,hg])];exact h
theorem pd{A A':af}{g:aB}(ha:dZ A A' g.cY)(h:ga A g):ga A' g:=by
 unfold ga at *
 cases hg:g.guard with
 |none=>simp only[hg] at h
 |some tb=>simp only[hg] at h ⊢;rw[ha tb.1 (by simp[aB.cY,hg])];exact h
theorem aB.jY{A A':af}{g:aB}(ha:dZ A A' g.cY):dZ A A' g.op.cY:=fun k hk=>ha k (List.mem_append_left _ hk)
def kI(P:Program)(g:aB)(A:af)(v:I):Prop:=(ga A g∧v=.undef)∨(pass A g∧ju P A g.op v)
theorem kI.step{A:af}{g:aB}{v:I}(h:kI P g A v):fe P g A (A.aO g.dst v):=by
 rcases h with ⟨h,rfl⟩ | ⟨h,k⟩
 ·exact .skip h
 ·exact .val h k
theorem kI.cJ{A A':af}{g:aB}{v:I}(h:kI P g A v)(hu:ee A A')(ha:dZ A A' g.cY):kI P g A' v:=by
 rcases h with ⟨h,rfl⟩ | ⟨h,k⟩
 ·exact .inl ⟨pd ha h,rfl⟩
 ·exact .inr ⟨mY ha h,k.cJ hu (aB.jY ha)⟩
theorem kI.ik{A A':af}{g:aB}{v:I}(h:kI P g A v)(hc:g.op.gl=0)(ha:dZ A A' g.cY):kI P g A' v:=by
 rcases h with ⟨h,rfl⟩ | ⟨h,k⟩
 ·exact .inl ⟨pd ha h,rfl⟩
 ·exact .inr ⟨mY ha h,k.ik hc (aB.jY ha)⟩
theorem fe.yk{A B:af}{g:aB}(h:fe P g A B)(hc:g.op.gl≤2):∃ v,kI P g A v∧B=A.aO g.dst v:=by
 cases h with
 |skip h=>exact ⟨_,.inl ⟨h,rfl⟩,rfl⟩
 |val h k=>exact ⟨_,.inr ⟨h,k⟩,rfl⟩
 |jk h1 h2 h3 h4=>rcases h3 with h3 | ⟨y,h3,_⟩ <;>(rw[h3] at hc;simp[b5.gl] at hc)
 |bx h1 h2 h3=>obtain ⟨s,x,v,p,b,old,h4,_⟩:=h3;rw[h4] at hc;simp[b5.gl] at hc
 |ig h1 h3=>rw[h3.1] at hc;omega
theorem pw{A:af}{a b:Option Nat}{v aq:I}(h:∀ d,a=some d→b≠some d):(A.aO a v).aO b aq=(A.aO b aq).aO a v:=by
 cases a with
 |none=>rfl
 |some d=>cases b with
  |none=>rfl
  |some e =>
   have hne:d≠e:=fun he=>h d rfl (by rw[he])
   simp only[af.aO,af.put,af.mk.injEq,and_true]
   funext k
   by_cases h1:k=e <;>by_cases h2:k=d <;>simp_all
theorem iu{A:af}{d:Option Nat}{v:I} : (A.aO d v).o=A.o:=by cases d <;>rfl
theorem l7{A:af}{d:Option Nat}{v:I}{l:List Nat}(h:∀ k,d=some k→k∉l):dZ A (A.aO d v) l:=by
 cases d with
 |none=>exact fun _ _=>rfl
 |some e =>
  intro k hk
  have:k≠e:=fun he=>h e rfl (he▸hk)
  simp[af.aO,af.put,this]
theorem dZ.symm{A A':af}{l:List Nat}(h:dZ A A' l):dZ A' A l:=fun k hk=>(h k hk).symm
theorem rj.same{A A':af}{op:b5}{x:I}(h:rj A op x)(ha:dZ A A' op.cY):rj A' op x:=by
 rcases h with h | ⟨y,h1,h2,h3⟩
 ·exact .inl h
 ·subst h1
  have:=da (x:=y) ha
  exact .inr ⟨y,rfl,by rw[this];exact h2,by rw[this];exact h3⟩
theorem rl.same{A A':af}{op:b5}{n:Nat}{z:ai}(h:rl A op n z)(ho:A'.o=A.o)(ha:dZ A A' op.cY):rl A' op n z:=by
 obtain ⟨s,x,v,p,b,old,h1,h2,h3,h4,h5,h6⟩:=h
 subst h1
 simp only[b5.cY] at ha
 have e1:=da ha.l
 have e2:=da ha.r
 exact ⟨s,x,v,p,b,old,rfl,by rw[e1];exact h2,by rw[ho];exact h3,h4,by rw[e2];exact h5,by rw[e2];exact h6⟩
theorem afK{g h:aB}(hi:mP g h=true):uM g.op.gl h.op.gl=true∧(∀ d,g.dst=some d→d∉h.cY)∧(∀ d,g.dst=some d→h.dst≠some d)∧(∀ d,h.dst=some d→d∉g.cY):=by
 simp only[mP,Bool.and_eq_true] at hi
 obtain ⟨⟨h1,h2⟩,h3⟩:=hi
 refine ⟨h1,fun d hd =>?_,fun d hd =>?_,fun d hd =>?_⟩
 ·rw[hd] at h2;simp at h2;exact h2.1
 ·rw[hd] at h2;simp at h2;exact h2.2
 ·rw[hd] at h3;simpa using h3
theorem fe.swap{A B C:af}{g h:aB}(hi:mP g h=true)(h1:fe P g A B)(h2:fe P h B C):∃ B',fe P h A B'∧fe P g B' C:=by
 obtain ⟨hc,i1,i2,i3⟩:=afK hi
 simp only[uM,Bool.or_eq_true,Bool.and_eq_true,decide_eq_true_eq,beq_iff_eq] at hc
 have hg2:g.op.gl≤2:=by rcases hc with hc | hc <;>omega
 obtain ⟨v,hv,rfl⟩:=h1.yk hg2
 have ag:dZ (A.aO g.dst v) A h.cY:=(l7 i1).symm
 have cJ:ee (A.aO g.dst v) A:=fun n x hx=>by rwa [iu] at hx
 cases h2 with
 |skip hn =>
  exact ⟨_,.skip (pd ag hn),by
   rw[pw i2];exact (hv.cJ (by intro n x hx;rwa [iu]) (l7 i3)).step⟩
 |val hp hu =>
  exact ⟨_,.val (mY ag hp) (hu.cJ cJ (aB.jY ag)),by
   rw[pw i2];exact (hv.cJ (by intro n x hx;rwa [iu]) (l7 i3)).step⟩
 |jk hp hd hm ho =>
  rename_i d x
  rw[iu] at ho
  refine ⟨_,.jk (mY ag hp) hd (hm.same (aB.jY ag)) ho,?_⟩
  have e:((A.aO g.dst v).aR d (.box x)).put d (.ptr d [])=((A.aR d (.box x)).put d (.ptr d [])).aO g.dst v:=by
   cases hgd:g.dst with
   |none=>rfl
   |some e =>
    have hne:e≠d:=fun he=>i2 e hgd (by rw[hd,he])
    simp only[af.aO,af.put,af.aR,af.mk.injEq,and_true]
    funext k
    by_cases h1:k=e <;>by_cases h2:k=d <;>simp_all
  rw[e]
  refine (hv.cJ (fun n y hy =>?_) (fun k hk =>?_)).step
  ·have:n≠d:=fun he=>by rw[he,ho] at hy;cases hy
   simp only[af.put,af.aR,this,if_false];exact hy
  ·have:k≠d:=fun he=>i3 d hd (he▸hk)
   simp only[af.put,af.aR,this,if_false]
 |bx hp hd hm =>
  rename_i n z
  have hc0:g.op.gl=0:=by
   obtain ⟨s,x,v,p,b,old,h4,_⟩:=hm
   rcases hc with hc | hc
   ·rw[h4] at hc;exact absurd hc.2 (by simp[b5.gl])
   ·exact hc.1
  refine ⟨_,.bx (mY ag hp) hd (hm.same iu.symm (aB.jY ag)),?_⟩
  have e:(A.aO g.dst v).aR n z=(A.aR n z).aO g.dst v:=by cases g.dst <;>rfl
  rw[e]
  exact (kI.ik (A':=A.aR n z) hv hc0 (fun _ _=>rfl)).step
 |ig hp hm =>
  exfalso
  rw[hm.1] at hc
  omega
theorem a6.swap{A:af}{g h:aB}{rest:List aB}(hi:mP g h=true)(hw:a6 P Y true K (aC (g::h::rest) A)):a6 P Y true K (aC (h::g::rest) A):=by
 obtain ⟨B,h1,h2⟩:=fe.xm hw
 obtain ⟨C,h3,h4⟩:=fe.xm h2
 obtain ⟨B',h5,h6⟩:=fe.swap hi h1 h3
 exact h5.yn (h6.yn h4)
theorem a6.pR{g:aB} : ∀ {l:List aB} {r:List aB} {A:af},(∀ j∈l,mP j g=true)→a6 P Y true K (aC (l++g::r) A)→a6 P Y true K (aC (g::(l++r)) A)
 | [],r,A,_,h=>h
 |j::l,r,A,hi,h=>by
  obtain ⟨B,h1,h2⟩:=fe.xm (g:=j) (rest:=l++g::r) h
  have h3:=a6.pR (l:=l) (r:=r) (fun k hk=>hi k (by simp[hk])) h2
  exact a6.swap (hi j (by simp)) (h1.yn h3)
end
def er(o:Oper):List Nat:=(o.after.toList.filter fun e=>Region.binds .any e).map (·.on)
def oa(cl:List Nat):List Nat→Nat
 | []=>0
 |k::ks=>(2^k ||| cl.getD k 0) ||| oa cl ks
def rM(on:List (List Nat))(gs:List aB)(cl:List Nat):Bool :=
 (List.range gs.length).all fun i=>(on.getD i []).all (fun k=>decide (k<i))&&Nat.beq (cl.getD i 0) (oa cl (on.getD i [])) &&
  (List.range i).all fun j=>(cl.getD i 0).testBit j||mP (gs.getD j default) (gs.getD i default)
theorem yp{cl:List Nat}{j:Nat} : ∀ {l:List Nat},(oa cl l).testBit j=true→j∈l∨∃ k∈l,(cl.getD k 0).testBit j=true
 | [],h=>by simp[oa] at h
 |k::ks,h=>by
  simp only[oa,Nat.testBit_or,Bool.or_eq_true,Nat.testBit_two_pow,decide_eq_true_eq] at h
  rcases h with (h | h) | h
  ·exact .inl (by simp[h])
  ·exact .inr ⟨k,by simp,h⟩
  ·rcases yp h with h | ⟨m,h1,h2⟩
   ·exact .inl (by simp[h])
   ·exact .inr ⟨m,by simp[h1],h2⟩
structure tM (l:List Oper) (gs:List aB):Prop where
 oE:∀ i o,l[i]?=some o→∀ k∈er o,k<i
 wH:∀ (S:Nat→Prop),(∀ i o,l[i]?=some o→S i→∀ k∈er o,S k)→∀ i o g j,l[i]?=some o→gs[i]?=some g→(∀ k∈er o,S k)→j<i→¬ S j→mP (gs.getD j default) g=true
theorem Ws{l:List Oper}{gs:List aB}{cl:List Nat}(hlen:gs.length=l.length)(h:rM (l.map er) gs cl=true):tM l gs:=by
 simp only[rM,List.all_eq_true,List.mem_range] at h
 have bj:∀ i o,l[i]?=some o→∃ g,gs[i]?=some g∧(∀ k∈er o,k<i)∧(∀ j,(cl.getD i 0).testBit j=true→j∈er o∨∃ k∈er o,(cl.getD k 0).testBit j=true)∧∀ j,j<i→(cl.getD i 0).testBit j=true∨mP (gs.getD j default) g=true:=by
  intro i o ho
  have hi:i<l.length:=(List.getElem?_eq_some_iff.1 ho).1
  have h1:=h i (by omega)
  have hon:(l.map er).getD i []=er o:=by simp[List.getD_eq_getElem?_getD,ho]
  have hgi:i<gs.length:=by omega
  have hg:gs[i]?=some gs[i]:=List.getElem?_eq_getElem hgi
  have hgd:gs.getD i default=gs[i]:=by simp[List.getD_eq_getElem?_getD,hg]
  rw[hon,hgd] at h1
  simp only[Bool.and_eq_true,List.all_eq_true,decide_eq_true_eq,Bool.or_eq_true,List.mem_range] at h1
  have hb:=Nat.eq_of_beq_eq_true h1.1.2
  exact ⟨_,hg,h1.1.1,fun j hj=>yp (by rw[←hb];exact hj),h1.2⟩
 refine ⟨fun i o ho=>(bj i o ho).choose_spec.2.1,?_⟩
 intro S hS i o g j ho hg hon hj hnj
 have key:∀ n i o,i≤n→l[i]?=some o→(∀ k∈er o,S k)→∀ j,(cl.getD i 0).testBit j=true→S j:=by
  intro n
  induction n with
  |zero =>
   intro i o hi ho hon j hj
   obtain ⟨g,_,h1,h2,_⟩:=bj i o ho
   rcases h2 j hj with h | ⟨k,hk,_⟩
   ·exact hon j h
   ·have:=h1 k hk;omega
  |succ n ih =>
   intro i o hi ho hon j hj
   obtain ⟨g,_,h1,h2,_⟩:=bj i o ho
   rcases h2 j hj with h | ⟨k,hk,hjk⟩
   ·exact hon j h
   ·have hki:=h1 k hk
    have hkl:k<l.length:=Nat.lt_trans hki (List.getElem?_eq_some_iff.1 ho).1
    obtain ⟨ok,hok⟩:∃ ok,l[k]?=some ok:=⟨l[k],List.getElem?_eq_getElem hkl⟩
    exact ih k ok (by omega) hok (hS k ok hok (hon k hk)) j hjk
 obtain ⟨g',hg',_,_,h3⟩:=bj i o ho
 rw[hg,Option.some.injEq] at hg'
 subst hg'
 rcases h3 j hj with h | h
 ·exact absurd (key i i o (Nat.le_refl _) ho hon j h) hnj
 ·exact h
def iQ(listed:Array Bool)(n:Nat):List Nat:=(List.range n).filter fun i => !listed.getD i true
def nM(gs:List aB)(listed:Array Bool)(n:Nat):List aB:=(iQ listed n).map fun i=>gs.getD i default
theorem Lk{i n:Nat}(h:i<n):List.range n=List.range i++i::(List.range (n-(i+1))).map (i+1 + ·):=by
 conv=>lhs;rw[show n=(i+1)+(n-(i+1)) by omega,List.range_add]
 rw[List.range_succ]
 simp
theorem aiK{listed:Array Bool}{i n:Nat}(h:i<n)(hs:listed.size=n)(hu:listed.getD i true=false):∃ l1 l2,iQ listed n=l1++i::l2∧iQ (listed.setIfInBounds i true) n=l1++l2∧∀ j∈l1,j<i∧listed.getD j true=false:=by
 have same:∀ j,j≠i→(listed.setIfInBounds i true).getD j true=listed.getD j true:=fun j hj=>getD_set_ne true (Ne.symm hj)
 have hit:(listed.setIfInBounds i true).getD i true=true:=by simp[hs,h]
 refine ⟨(List.range i).filter fun j => !listed.getD j true,((List.range (n-(i+1))).map (i+1 + ·)).filter fun j => !listed.getD j true,?_,?_,?_⟩
 ·simp only[iQ]
  rw[Lk h,List.filter_append,List.filter_cons]
  simp only[hu,Bool.not_false,if_true]
 ·simp only[iQ]
  rw[Lk h,List.filter_append,List.filter_cons]
  simp only[hit,Bool.not_true,Bool.false_eq_true,if_false]
  congr 1
  ·refine List.filter_congr fun j hj =>?_
   rw[same j (by have:=List.mem_range.1 hj;omega)]
  ·refine List.filter_congr fun j hj =>?_
   obtain ⟨k,_,rfl⟩:=List.mem_map.1 hj
   rw[same _ (by omega)]
 ·intro j hj
  simp only[List.mem_filter,List.mem_range,Bool.not_eq_true'] at hj
  exact hj
theorem Lq{n:Nat} : iQ (Array.replicate n false) n=List.range n:=by
 simp only[iQ]
 refine List.filter_eq_self.2 fun i hi =>?_
 have:=List.mem_range.1 hi
 simp[this]
theorem agD(gs:List aB):((List.range gs.length).map fun i=>gs.getD i default)=gs:=by
 apply List.ext_getElem
 ·simp
 ·intro i h1 h2
  simp[List.getD_eq_getElem?_getD,h2]
section
variable {c:cQ}
theorem mE{P:Program}{n:Nat}{bO:Array Oper} : ∀ {l:List Oper} {gs:List aB},kd P n bO l=some gs→gs.length=l.length∧∀ (i:Nat) (o:Oper),l[i]?=some o→∃ g,gs[i]?=some g∧oI P n bO o=some g
 | [],gs,h=>by simp only[kd,Option.some.injEq] at h;subst h;exact ⟨rfl,fun i o ho=>by simp at ho⟩
 |o::l,gs,h=>by
  simp only[kd] at h
  split at h
  case h_2=>cases h
  rename_i g gs' hg hgs
  simp only[Option.some.injEq] at h
  subst h
  obtain ⟨h1,h2⟩:=mE (l:=l) hgs
  refine ⟨by simp[h1],fun i o' ho =>?_⟩
  cases i with
  |zero=>simp only[List.getElem?_cons_zero,Option.some.injEq] at ho;subst ho;exact ⟨g,rfl,hg⟩
  |succ i=>simpa using h2 i o' (by simpa using ho)
theorem aeL{K:af→Prop}{bO:Array Oper}{Q:Exit→Act→World→Prop}{o:Oper}{g:aB}{rest:List aB}{A:af}{a:Act}{w:World}{Kw:Act→World→Prop}(hg:oI c.P c.n bO o=some g)(hwp:a6 c.P c.Y true K (aC (g::rest) A))(hs:cn c A a w)
  (hK:∀ B a' w',a6 c.P c.Y true K (aC rest B)→cn c B a' w'→Kw a' w'):if Region.wanted o (yielded bO a.tmps) then o.wpIn c.bt 9 c.P a w Kw Q else (∀ f,o.about c.P w a.eval=some f→c.bt.fn f)∧Kw (a.put o.dst undef) w:=by
 obtain ⟨h1,h2,h3,h4⟩:=uy hg
 have step:a6 c.P c.Y true K (bl A g.dst g.op rest (aC rest))→o.wpIn c.bt 9 c.P a w Kw Q:=fun h =>
  wg h1 h2.symm (by rw[h2];exact h3) h hs (fun B a' w' hw hs'=>hK B a' w' hw hs')
 simp only[aC] at hwp
 rcases h4 with ⟨h5,h6⟩ | ⟨j,b,t,h5,h6,h7⟩
 ·rw[h6] at hwp
  have hw:Region.wanted o (yielded bO a.tmps)=true:=by simp[Region.wanted,h5]
  rw[hw,if_pos rfl]
  exact step hwp
 ·rw[h7] at hwp
  simp only at hwp
  split at hwp
  ·rename_i b' hb'
   rw[wu hs h5 h6 hb']
   split at hwp
   ·rename_i hbb
    subst hbb
    simp only[BEq.rfl,if_true]
    exact step hwp
   ·rename_i hbb
    have:(b'==b)=false:=by simpa using hbb
    rw[this]
    simp only[Bool.false_eq_true,if_false]
    exact ⟨fun f _=>nq c f,hK _ _ _ hwp (by rw[h2];exact hs.pt h3)⟩
  ·rename_i hb'
   rw[wv hs h5 h6 hb']
   simp only[Bool.false_eq_true,if_false]
   exact ⟨fun f _=>nq c f,hK _ _ _ hwp (by rw[h2];exact hs.pt h3)⟩
  ·cases hwp
theorem Oi{K:af→Prop}{bO:Array Oper}{gs:List aB}{Q:Exit→Act→World→Prop}(hQ:∀ B a w,K B→cn c B a w→Q .normal a w)(hgs:kd c.P c.n bO bO.toList=some gs)(hd:tM bO.toList gs) :
  ∀ (fuel:Nat) (listed:Array Bool) (A:af) (a:Act) (w:World),listed.size=bO.size→(∀ i o,bO.toList[i]?=some o→listed.getD i false=true→∀ k∈er o,listed.getD k false=true)→(iQ listed bO.size).length≤fuel →
   a6 c.P c.Y true K (aC (nM gs listed bO.size) A)→cn c A a w→wpAnyIn c.bt 9 c.P .any bO Q fuel listed a w:=by
 obtain ⟨hlen,hat⟩:=mE hgs
 have onOf_mem:∀ (o:Oper) (e:Edge),e∈o.after→Region.binds .any e=true→e.on∈er o:=fun o e he hb=>by
  simp only[er,List.mem_map,List.mem_filter]
  exact ⟨e,⟨by simpa using he,hb⟩,rfl⟩
 have of_onOf:∀ (o:Oper) (k:Nat),k∈er o→∃ e∈o.after,Region.binds .any e=true∧e.on=k:=fun o k hk=>by
  simp only[er,List.mem_map,List.mem_filter] at hk
  obtain ⟨e,⟨h1,h2⟩,h3⟩:=hk
  exact ⟨e,by simpa using h1,h2,h3⟩
 have last:∀ (listed:Array Bool) (A:af) (a:Act) (w:World),listed.size=bO.size→Region.ready .any bO listed=[]→a6 c.P c.Y true K (aC (nM gs listed bO.size) A)→cn c A a w→Q .normal a w:=by
  intro listed A a w hsz hr hwp hs
  have hnone:iQ listed bO.size=[]:=by
   have all:∀ n,∀ i,i<n→i<bO.size→listed.getD i true=true:=by
    intro n
    induction n with
    |zero=>intro i hi;omega
    |succ n ih =>
     intro i hi his
     cases hb:listed.getD i true with
     |true=>rfl
     |false =>
      exfalso
      have ho:bO[i]?=some bO[i]:=Array.getElem?_eq_getElem his
      have:i∈Region.ready .any bO listed:=mem_ready.2 ⟨hb,bO[i],ho,fun e he hbd=>by
       have hlt:=hd.oE i bO[i] (by simp) e.on (onOf_mem _ e he hbd)
       have h1:=ih e.on (by omega) (by omega)
       have h2:e.on<listed.size:=by omega
       simpa[Array.getD_eq_getD_getElem?,h2] using h1⟩
      rw[hr] at this
      cases this
   simp only[iQ]
   refine List.filter_eq_nil_iff.2 fun i hi =>?_
   have:=all (i+1) i (by omega) (List.mem_range.1 hi)
   simp only[this,Bool.not_true,Bool.false_eq_true,not_false_eq_true]
  simp only[nM,hnone,List.map_nil,aC] at hwp
  cases hwp with
  |done hk=>exact hQ A a w hk hs
 intro fuel
 induction fuel with
 |zero =>
  intro listed A a w hsz hcl hcnt hwp hs
  have hnone:iQ listed bO.size=[]:=List.length_eq_zero_iff.1 (by omega)
  have hr:Region.ready .any bO listed=[]:=by
   refine List.eq_nil_iff_forall_not_mem.2 fun i hi =>?_
   obtain ⟨h1,o,ho,_⟩:=mem_ready.1 hi
   have:i∈iQ listed bO.size:=by
    simp only[iQ,List.mem_filter,List.mem_range,h1,Bool.not_false,and_true]
    exact (Array.getElem?_eq_some_iff.1 ho).1
   rw[hnone] at this
   cases this
  exact ⟨hr,last listed A a w hsz hr hwp hs⟩
 |succ fuel ih =>
  intro listed A a w hsz hcl hcnt hwp hs
  refine ⟨fun hr=>last listed A a w hsz hr hwp hs,fun i hi =>?_⟩
  obtain ⟨hun,o,ho,hall⟩:=mem_ready.1 hi
  have hin:i<bO.size:=(Array.getElem?_eq_some_iff.1 ho).1
  obtain ⟨l1,l2,e1,e2,hl1⟩:=aiK hin hsz hun
  have hol:bO.toList[i]?=some o:=by simpa using ho
  obtain ⟨g,hgi,hcg⟩:=hat i o hol
  have hon:∀ k∈er o,listed.getD k false=true:=fun k hk=>by
   obtain ⟨e,h1,h2,h3⟩:=of_onOf o k hk
   exact h3▸hall e h1 h2
  have hgd:gs.getD i default=g:=by simp[List.getD_eq_getElem?_getD,hgi]
  have hwp':a6 c.P c.Y true K (aC (g::nM gs (listed.setIfInBounds i true) bO.size) A):=by
   simp only[nM,e1,List.map_append,List.map_cons,hgd] at hwp
   simp only[nM,e2,List.map_append]
   refine a6.pR (fun j hj =>?_) hwp
   obtain ⟨k,hk,rfl⟩:=List.mem_map.1 hj
   obtain ⟨hk1,hk2⟩:=hl1 k hk
   refine hd.wH (fun k=>listed.getD k false=true) hcl i o g k hol hgi hon hk1 ?_
   have hks:k<listed.size:=by omega
   simp[Array.getD_eq_getD_getElem?,hks] at hk2 ⊢
   exact hk2
  unfold wpOpIn
  rw[ho]
  refine aeL hcg hwp' hs fun B a' w' hw hs'=>ih _ B a' w' (by simpa using hsz) ?_ ?_ hw hs'
  ·intro m om hom hm k hk
   by_cases hmi:m=i
   ·subst hmi
    rw[hol,Option.some.injEq] at hom
    subst hom
    exact getD_set_true (hon k hk)
   ·rw[getD_set_ne false (Ne.symm hmi)] at hm
    exact getD_set_true (hcl m om hom hm k hk)
  ·have:(iQ listed bO.size).length=(iQ (listed.setIfInBounds i true) bO.size).length+1:=by
    rw[e1,e2];simp;omega
   omega
theorem aiJ{K:af→Prop}{bO:Array Oper}{gs:List aB}{Q:Exit→Act→World→Prop}{id:Nat}{A:af}{a:Act}{w:World}(hm:c.P.follows .mixedOrders=true)(hQ:∀ B a w,K B→cn c B a w→Q .normal a w)(hgs:kd c.P c.n bO bO.toList=some gs)(hd:tM bO.toList gs)
  (hwp:a6 c.P c.Y true K (aC gs A)) (hs:cn c A a w):(Code.region id bO true).wpIn c.bt 9 c.P Q a w:=by
 refine wpIn_region_any hm (Oi hQ hgs hd bO.size (Array.replicate bO.size false) A a _ (by simp) ?_ ?_ ?_ ?_)
 ·intro i o _ h
  exfalso
  simp only[Array.getD_eq_getD_getElem?,Array.getElem?_replicate] at h
  split at h <;>simp at h
 ·rw[Lq];simp
 ·have hl:=(mE hgs).1
  simp only[Array.length_toList] at hl
  simp only[nM,Lq]
  rw[←hl,agD]
  exact hwp
 ·obtain ⟨D,E,hs⟩:=hs
  exact ⟨D,E,hs.grow (w' := { w with drawn:=w.drawn+1 }) ⟨rfl,rfl,rfl,Nat.le_refl _,fun _ _=>rfl⟩ (fun _ _ h=>h) (fun _ _ h _=>h) (fun b o h=>hs.dc b o h)⟩
end
inductive aN where
 |bW (on:Option (List (List Nat))) (gs:List aB)
 |seq (x y:aN)
 |cond (b:aJ) (x y:aN)
 |block (id:Nat) (x:aN)
 |loop (x:aN)
 |exit (id:Nat)
 |ret
 |skip
 |scope (x:aN)
 |label
 |kz (f:aJ) (ps:List Nat) (x y:aN)
 deriving Inhabited
def eZ(P:Program)(n:Nat):Code→Option aN
 | .region _ bO draw=>match kd P n bO bO.toList with
  |some gs=>if (!draw||P.follows .mixedOrders)=true then some (.bW (bif draw then some (bO.toList.map er) else none) gs) else none
  |none=>none
 | .seq x y=>match eZ P n x,eZ P n y with
  |some x,some y=>some (.seq x y)
  |_,_=>none
 | .cond b x y=>match bH P 0 b,eZ P n x,eZ P n y with
  |some b,some x,some y=>some (.cond b x y)
  |_,_,_=>none
 | .block id x=>match eZ P n x with
  |some x=>some (.block id x)
  |none=>none
 | .loop x=>match eZ P n x with
  |some x=>some (.loop x)
  |none=>none
 | .exit id=>some (.exit id)
 | .ret=>some .ret
 | .skip=>some .skip
 | .scope x=>match eZ P n x with
  |some x=>some (.scope x)
  |none=>none
 | .label _=>some .label
 | .rangeFunc f ps x y=>match bH P 0 f,eZ P n x,eZ P n y with
  |some f,some x,some y=>if (ps.toList.all fun p=>p<n)=true then some (.kz f ps.toList x y) else none
  |_,_,_=>none
 |_=>none
def Is(c:cQ)(Q:Exit→af→Prop):Exit→Act→World→Prop:=fun e a w=>∃ A,Q e A∧cn c A a w
def U(c:cQ)(x:aN)(Q:Exit→af→Prop)(A:af):Prop :=
 ∀ code,eZ c.P c.n code=some x→∀ a w,cn c A a w→code.wpIn c.bt 9 c.P (Is c Q) a w
def ay(k:af→Prop)(Q:Exit→af→Prop):Exit→af→Prop
 | .normal,A=>k A
 |e,A=>Q e A
def cg(id:Nat)(Q:Exit→af→Prop):Exit→af→Prop
 | .exit id',A=>if id'=id then Q .normal A else Q (.exit id') A
 |e,A=>Q e A
section
variable {c:cQ} {A:af} {Q:Exit→af→Prop}
def Wc(d:Option (List (List Nat)))(gs:List aB)(cl:List Nat):Bool:=match d with
 |none=>true
 |some on=>rM on gs cl
theorem U.bW{d:Option (List (List Nat))}{gs:List aB}{cl:List Nat}(hd:Wc d gs cl=true)(h:∀ K:af→Prop,(∀ B,Q .normal B→K B)→a6 c.P c.Y d.isSome K (aC gs A)):U c (.bW d gs) Q A:=by
 intro code hc a w hs
 cases code <;>simp only[eZ] at hc <;>try (first | (cases hc;done) | ((repeat' split at hc) <;>cases hc;done))
 rename_i id bO draw
 split at hc
 ·rename_i gs' hgs
  split at hc
  case isFalse=>cases hc
  rename_i hok
  simp only[Option.some.injEq,aN.bW.injEq] at hc
  obtain ⟨rfl,rfl⟩:=hc
  cases draw with
  |false=>exact wpIn_region_list (sh (K:=Q .normal) (fun B a w hk hs=>⟨B,hk,hs⟩) bO.toList gs' A a w hgs (h _ fun _ hb=>hb) hs)
  |true =>
   simp only[Bool.not_true,Bool.false_or] at hok
   exact aiJ (K:=Q .normal) hok (fun B a w hk hs=>⟨B,hk,hs⟩) hgs (Ws (mE hgs).1 hd) (h _ fun _ hb=>hb) hs
 ·cases hc
theorem U.seq{x y:aN}(h:U c x (ay (fun B=>U c y Q B) Q) A):U c (.seq x y) Q A:=by
 intro code hc a w hs
 cases code <;>simp only[eZ] at hc <;>try (first | (cases hc;done) | ((repeat' split at hc) <;>cases hc;done))
 rename_i cx cy
 split at hc
 ·rename_i x' y' hx hy
  simp only[Option.some.injEq,aN.seq.injEq] at hc
  obtain ⟨rfl,rfl⟩:=hc
  refine wpIn_seq (wpIn_mono (h cx hx a w hs) ?_)
  rintro e a' w' ⟨B,hq,hs'⟩
  cases e <;>simp only[ay,Exit.then] at * <;>first | exact hq cy hy a' w' hs' | exact ⟨B,hq,hs'⟩
 ·cases hc
theorem U.cond{b:aJ}{x y:aN}{t:Bool}(hb:ae A b=.bool t)(h1:t=true→U c x Q A)(h2:t=false→U c y Q A):U c (.cond b x y) Q A:=by
 intro code hc a w hs
 cases code <;>simp only[eZ] at hc <;>try (first | (cases hc;done) | ((repeat' split at hc) <;>cases hc;done))
 rename_i cb cx cy
 split at hc
 ·rename_i b' x' y' hb' hx hy
  simp only[Option.some.injEq,aN.cond.injEq] at hc
  obtain ⟨rfl,rfl,rfl⟩:=hc
  obtain ⟨D,E,hs'⟩:=hs
  have hv:=b7 hs' hb'
  rw[hb] at hv
  exact wpIn_cond_split (lA hv) (fun ht=>h1 ht cx hx a w ⟨D,E,hs'⟩) (fun ht=>h2 ht cy hy a w ⟨D,E,hs'⟩)
 ·cases hc
theorem U.block{id:Nat}{x:aN}(h:U c x (cg id Q) A):U c (.block id x) Q A:=by
 intro code hc a w hs
 cases code <;>simp only[eZ] at hc <;>try (first | (cases hc;done) | ((repeat' split at hc) <;>cases hc;done))
 rename_i id' cx
 split at hc
 ·rename_i x' hx
  simp only[Option.some.injEq,aN.block.injEq] at hc
  obtain ⟨rfl,rfl⟩:=hc
  refine wpIn_block (wpIn_mono (h cx hx a w hs) ?_)
  rintro e a' w' ⟨B,hq,hs'⟩
  cases e <;>simp only[cg,Exit.inBlock] at * <;>first
   |exact ⟨B,hq,hs'⟩
   |(split at hq
     ·rename_i he;rw[if_pos he];exact ⟨B,hq,hs'⟩
     ·rename_i he;rw[if_neg he];exact ⟨B,hq,hs'⟩)
 ·cases hc
theorem U.exit{id:Nat}(h:Q (.exit id) A):U c (.exit id) Q A:=by
 intro code hc a w hs
 cases code <;>simp only[eZ] at hc <;>try (first | (cases hc;done) | ((repeat' split at hc) <;>cases hc;done))
 simp only[Option.some.injEq,aN.exit.injEq] at hc
 subst hc
 exact wpIn_exit ⟨A,h,hs⟩
theorem U.ret(h:Q .ret A):U c .ret Q A:=by
 intro code hc a w hs
 cases code <;>simp only[eZ] at hc <;>try (first | (cases hc;done) | ((repeat' split at hc) <;>cases hc;done))
 exact wpIn_ret ⟨A,h,hs⟩
theorem U.skip(h:Q .normal A):U c .skip Q A:=by
 intro code hc a w hs
 cases code <;>simp only[eZ] at hc <;>try (first | (cases hc;done) | ((repeat' split at hc) <;>cases hc;done))
 exact wpIn_skip ⟨A,h,hs⟩
theorem Cj{p:Nat→Prop}(h:∃ n,p n):∃ n,p n∧∀ m,p m→n≤m:=by
 obtain ⟨n,hn⟩:=h
 induction n using Nat.strongRecOn with
 |_ n ih =>
  by_cases hm:∃ m,m<n∧p m
  ·obtain ⟨m,h1,h2⟩:=hm
   exact ih m h1 h2
  ·exact ⟨n,hn,fun m hp=>Nat.le_of_not_lt fun hlt=>hm ⟨m,hlt,hp⟩⟩
open Classical in
noncomputable def least(p:Nat→Prop):Nat:=if h:∃ n,p n then (Cj h).choose else 0
theorem Im{p:Nat→Prop}(h:∃ n,p n):p (least p)∧∀ m,p m→least p≤m:=by
 simp only[least,dif_pos h]
 exact (Cj h).choose_spec
theorem ajY{bt:Fence}{N:Nat}{P:Program}{code:Code}{QQ:Exit→Act→World→Prop}(aj:Nat→Act→World→Prop)(round:∀ n a w,aj n a w→code.wpIn bt N P (Exit.then (fun a' w'=>∃ m,m<n∧aj m a' w') QQ) a w) :
  ∀ n a w,aj n a w→(Code.loop code).wpIn bt N P QQ a w:=by
 intro n a w h
 refine wpIn_loop (fun a w=>∃ n,aj n a w) (fun a w=>least fun n=>aj n a w) ⟨n,h⟩ ?_
 intro a w hI
 have hm:=(Im hI).1
 refine wpIn_mono (round _ a w hm) ?_
 intro e a' w' hq
 cases e <;>simp only[Exit.then] at hq ⊢ <;>try exact hq
 obtain ⟨m,h1,h2⟩:=hq
 exact ⟨⟨m,h2⟩,Nat.lt_of_le_of_lt ((Im ⟨m,h2⟩).2 m h2) h1⟩
def aI(A B:af):Prop:=∀ (c:cQ) (a:Act) (w:World),cn c A a w→cn c B a w
theorem aI.refl(A:af):aI A A:=fun _ _ _ h=>h
theorem aI.trans{A B C:af}(h:aI A B)(k:aI B C):aI A C:=fun c a w hs=>k c a w (h c a w hs)
theorem U.sub{x:aN}{B:af}(hsub:aI A B)(h:U c x Q B):U c x Q A:=fun code hc a w hs=>h code hc a w (hsub c a w hs)
theorem U.mono{x:aN}{Q':Exit→af→Prop}(h:U c x Q A)(hq:∀ e B,Q e B→Q' e B):U c x Q' A :=
 fun code hc a w hs=>wpIn_mono (h code hc a w hs) fun e a' w' ⟨B,h1,h2⟩=>⟨B,hq e B h1,h2⟩
theorem U.loop{σ:Type}(S:σ→af)(C:σ→Prop)(m:σ→Nat)(s0:σ){x:aN}(h0:C s0)(hsub:aI A (S s0))
  (round:∀ s,C s→U c x (ay (fun B=>∃ s',C s'∧m s'<m s∧aI B (S s')) Q) (S s)):U c (.loop x) Q A:=by
 intro code hc a w hs
 cases code <;>simp only[eZ] at hc <;>try (first | (cases hc;done) | ((repeat' split at hc) <;>cases hc;done))
 rename_i cx
 split at hc
 ·rename_i x' hx
  simp only[Option.some.injEq,aN.loop.injEq] at hc
  subst hc
  refine ajY (fun n a w=>∃ s,C s∧m s=n∧cn c (S s) a w) ?_ (m s0) a w ⟨s0,h0,rfl,hsub c a w hs⟩
  rintro n a w ⟨s,hC,rfl,hs⟩
  refine wpIn_mono (round s hC cx hx a w hs) ?_
  rintro e a' w' ⟨B,hq,hs'⟩
  cases e <;>simp only[ay,Exit.then] at * <;>first
   |exact ⟨B,hq,hs'⟩
   |(obtain ⟨s',h1,h2,h3⟩:=hq;exact ⟨m s',h2,s',h1,rfl,h3 c a' w' hs'⟩)
 ·cases hc
end
inductive aZ where
 |tmp (t:Nat)
 |cell (a:Nat) (s:Option Nat)
def iB(P:Program):List ResultVar→Option (List aZ)
 | []=>some []
 | .tmp t::l=>(iB P l).map (.tmp t :: ·)
 | .cell a t::l=>match fD P t,iB P l with
  |some s,some l=>some (.cell a s::l)
  |_,_=>none
def tp(A:af):aZ→Option I
 | .tmp t=>bp true A (A.t t)
 | .cell a s=>match cv A (A.t a) with
  |some x=>if bZ s x then bp true A x else none
  |none=>none
def eR(A:af):List aZ→Option (List I)
 | []=>some []
 |r::rs=>match tp A r,eR A rs with
  |some x,some xs=>some (x::xs)
  |_,_=>none
def kv:List I→I
 | [x]=>x
 |xs=>.tuple xs
def n8(args:List I):af:=⟨fun t=>args.getD t .undef,fun _=>none⟩
def jq(rs:List aZ)(r:I):Exit→af→Prop
 | .ret,A=>∃ xs,eR A rs=some xs∧kv xs=r
 | .normal,A=>∃ xs,eR A rs=some xs∧kv xs=r
 |_,_=>False
def pD(args:List I)(os:List (Nat×ai)):af:=⟨fun t=>args.getD t .undef,al os⟩
theorem ajG{P:Program}{n:Nat}{w:World}{D:aQ}{E:aX}{Y:Value→List I→List (Nat×ai)→cR→Prop}{args:List I}{os:List (Nat×ai)}{vs:List Value}(hD:∀ b o,D b o→b<w.heap.size)(ho:kG (fun _=>True) w D E (al os))
  (hv:aG w D E args vs) (hn:vs.length≤n) (hos:∀ m,au os m=true→n≤m∧1000000≤m) (hy:oq ⟨P,w,D,n,dm E,E,Y,none⟩) :
  aU ⟨P,w,D,n,dm E,E,Y,none⟩ (pD args os) { tmps:=vs.toArray++Array.replicate (n-vs.toArray.size) undef,defers:=[] } w D E:=by
 refine ⟨by simp;omega,⟨[],rfl,.nil,fun _ h=>by simp at h⟩,fun t =>?_,fA.refl _ _,fun _ _ h _=>h,hD,fun m =>?_,ho.cT,fun m e h=>.inr ⟨e,h,.refl e⟩,fun m hm =>?_,fun _ _ h=>h,hy,.refl _ _⟩
 ·have key:∀ (args:List I) (vs:List Value) (t:Nat),aG w D E args vs→aW w D E (args.getD t .undef) (vs.getD t undef):=by
   intro args
   induction args with
   |nil=>intro vs t h;simp only[aG] at h;subst h;simp[aW]
   |cons x xs ih =>
    intro vs t h
    simp only[aG] at h
    obtain ⟨v,rest,cs,rfl,h1,h2,h3⟩:=h
    cases t with
    |zero=>simpa using lX h1 h2
    |succ t=>simpa using ih rest t h3
  have:=key args vs t hv
  have e:(vs.toArray++Array.replicate (n-vs.toArray.size) undef).getD t undef=vs.getD t undef:=by
   simp only[Array.getD_eq_getD_getElem?,List.getD_eq_getElem?_getD]
   rcases Nat.lt_or_ge t vs.length with h | h
   ·rw[Array.getElem?_append_left (by simpa using h)]
    simp
   ·rw[Array.getElem?_append_right (by simpa using h),List.getElem?_eq_none h]
    simp only[Array.getElem?_replicate]
    split <;>rfl
  simp only[pD]
  rw[e]
  exact this
 ·have h:=ho.bQ m
  simp only[pD]
  cases hx:al os m with
  |none=>rw[hx] at h;exact h
  |some x =>
   rw[hx] at h
   cases x with
   |box x =>
    obtain ⟨b,cs,T,k1,_,k3⟩:=h
    exact ⟨b,cs,T,k1,.inr ⟨m,_,k1,rfl⟩,k3⟩
   |bX T sz es =>
    obtain ⟨aE,k1,k2,k3⟩:=h
    refine ⟨aE,k1,k2,?_⟩
    cases aE with
    |none=>exact k3
    |some bc =>
     obtain ⟨b,cap⟩:=bc
     obtain ⟨cs,pre,rest,_,k4⟩:=k3
     exact ⟨cs,pre,rest,.inr ⟨m,_,k1,rfl⟩,k4⟩
   |cU T xs =>
    obtain ⟨aE,k1,k2,k3⟩:=h
    refine ⟨aE,k1,k2,?_⟩
    cases aE with
    |none=>exact k3
    |some bc =>
     obtain ⟨b,cap⟩:=bc
     obtain ⟨cs,rest,_,k4⟩:=k3
     exact ⟨cs,rest,.inr ⟨m,_,k1,rfl⟩,k4⟩
   |dJ x =>
    obtain ⟨b,k1,_,k3⟩:=h
    exact ⟨b,k1,.inr ⟨m,_,k1,rfl⟩,k3⟩
   |ct ks vs =>
    obtain ⟨b,es,ck,k1,_,k3⟩:=h
    exact ⟨b,es,ck,k1,.inr ⟨m,_,k1,rfl⟩,k3⟩
   |it ks vs left cur =>
    obtain ⟨r,b,es,ck,si,se,la,k1,_,k3⟩:=h
    exact ⟨r,b,es,ck,si,se,la,k1,.inr ⟨m,_,k1,rfl⟩,k3⟩
 ·have h:=ho.bQ m
  refine hos m ?_
  cases hx:al os m with
  |none=>rw[hx] at h;exact absurd h hm
  |some x=>simp[au,hx]
def qH(tmps:Array Value):ResultVar→Sem Value
 | .tmp t=>pure (tmps.getD t undef)
 | .cell a t=>do loadVar t (←asAddr (tmps.getD a undef))
theorem aiV(fn:Func)(tmps:Array Value):results fn tmps=(do
  let vs ←fn.results.mapM (qH tmps)
  pure (if h:vs.size=1 then vs[0] else .tuple vs)):=by
 unfold results
 rfl
def te(A:af):aZ→Option I
 | .tmp t=>some (A.t t)
 | .cell a s=>match cv A (A.t a) with
  |some x=>if bZ s x then some x else none
  |none=>none
def ma(A A0:af)(os:List (Nat×ai)):List aZ→List I→Prop
 | [],[]=>True
 |r::rs,y::ys=>(∃ x,te A r=some x∧((y=x∧x.cq=true∧x.only (au os)=true)∨bp true A0 x=some y))∧ma A A0 os rs ys
 |_,_=>False
def af.kC(A:af)(os:List (Nat×ai)):af:=⟨A.t,fun n=>if au os n then none else A.o n⟩
def kH(rs:List aZ)(post:cR)(A:af):Prop :=
 ∃ (os:List (Nat×ai)) (xs:List I),(∀ n x,al os n=some x→A.o n=some x∧x.only (au os)=true∧x.eC=true)∧ma A (A.kC os) os rs xs∧post (kv xs) os
def m0(rs:List aZ)(post:cR):Exit→af→Prop
 | .ret,A=>kH rs post A
 | .normal,A=>kH rs post A
 |_,_=>False
theorem xX{c:cQ}{A:af}{a:Act}{w:World}{D:aQ}{E:aX}(hs:aU c A a w D E){A0:af}(hu:ee A0 A){os:List (Nat×ai)}{D':aQ}{E':aX}(hw:hE true A0 D E D')(aw:∀ n,au os n=true→E' n=E n)(hE':∀ n,au os n=false→E' n=none) :
  ∀ (rs:List ResultVar) (ls:List aZ) (xs:List I),iB c.P rs=some ls→ma A A0 os ls xs→∃ vs:List Value,(rs.mapM (qH a.tmps)).run c.P w=.ok vs w∧aG w D' E' xs vs
 | [],ls,xs,hc,hr=>by
  simp only[iB,Option.some.injEq] at hc
  subst hc
  cases xs with
  |nil=>exact ⟨[],by simp,by simp[aG]⟩
  |cons x xs=>simp[ma] at hr
 |r::rs,ls,xs,hc,hr=>by
  have hl:dM w D E' w D' E':=⟨hw.cZ,fun _ _ _ _ h=>h,fun _ _ _ h=>h,fun _ aE l h=>⟨aE,l,h,Nat.le_refl _,fun _=>rfl⟩,fun _ _ h=>h,fun _ _ h=>h,fun _ _ _ _ h=>h⟩
  have fin1:∀ {x y:I} {v:Value},aW w D E x v→((y=x∧x.cq=true∧x.only (au os)=true)∨bp true A0 x=some y)→∃ cs,bJ y v cs∧ah w D' E' y cs:=by
   intro x y v hv hf
   rcases hf with ⟨rfl,h1,h2⟩ | hf
   ·have h3:=aW.bK hl (aW.dv aw h2 hv)
    cases y <;>simp only[aW] at h3 <;>first | (simp[I.cq] at h1;done) | exact h3
   ·have h1:aG w D E [x] [v]:=mf [x] [v] (.cons hv .nil) (by
     intro z hz
     simp only[List.mem_singleton] at hz
     subst hz
     cases z <;>simp_all[bp,I.cq])
    have h2:=lQ (E':=E') hs hu hw [x] [y] [v] h1 (by simp[bY,hf])
    simp only[aG] at h2
    obtain ⟨v',rest,cs,e,k1,k2,_⟩:=h2
    simp only[List.cons.injEq] at e
    obtain ⟨rfl,_⟩:=e
    exact ⟨cs,k1,k2⟩
  cases r with
  |tmp t =>
   simp only[iB,Option.map_eq_some_iff] at hc
   obtain ⟨ls',hl',rfl⟩:=hc
   cases xs with
   |nil=>simp[ma] at hr
   |cons y ys =>
    simp only[ma] at hr
    obtain ⟨⟨x,h1,h2⟩,h3⟩:=hr
    simp only[te,Option.some.injEq] at h1
    subst h1
    obtain ⟨vs,k1,k2⟩:=xX hs hu hw aw hE' rs ls' ys hl' h3
    obtain ⟨cs,k3,k4⟩:=fin1 (hs.ed t) h2
    refine ⟨a.tmps.getD t undef::vs,?_,?_⟩
    ·simp only[List.mapM_cons,Sem.run_bind,qH,Sem.run_pure,Result.andThen_ok,k1]
    ·simp only[aG];exact ⟨_,vs,cs,rfl,k3,k4,k2⟩
  |cell ad t =>
   simp only[iB] at hc
   split at hc
   ·rename_i s ls' hk hl'
    simp only[Option.some.injEq] at hc
    subst hc
    cases xs with
    |nil=>simp[ma] at hr
    |cons y ys =>
     simp only[ma] at hr
     obtain ⟨⟨x,h1,h2⟩,h3⟩:=hr
     obtain ⟨vs,k1,k2⟩:=xX hs hu hw aw hE' rs ls' ys hl' h3
     simp only[te] at h1
     split at h1
     ·rename_i z hz
      split at h1
      ·rename_i hok
       simp only[Option.some.injEq] at h1
       subst h1
       obtain ⟨b,off,cs,q1,q2,q3⟩:=hs.zi (hs.ed ad) hz
       obtain ⟨v,q4,q5⟩:=LI hk hok q2 q3
       obtain ⟨cs',k3,k4⟩:=fin1 q5 h2
       refine ⟨v::vs,?_,?_⟩
       ·have e:(qH a.tmps (.cell ad t)).run c.P w=.ok v w:=by
         simp only[qH,Sem.run_bind,q1,asAddr,Sem.run_pure,Result.andThen_ok,q4]
        simp only[List.mapM_cons,Sem.run_bind,Sem.run_pure,Result.andThen_ok,k1,e]
       ·simp only[aG];exact ⟨_,vs,cs',rfl,k3,k4,k2⟩
      ·cases h1
     ·cases h1
   ·cases hc
theorem aU.Tb{c:cQ}{A:af}{a:Act}{w:World}{D:aQ}{E:aX}(h:aU c A a w D E){B:Nat}{ds:List Deferred}(hd:a.defers = { target:=.collected B,args := #[] } :: ds) :
  w.heap[B]?=some (.deferred (some []))∧aU c A { a with defers:=ds } (w.putObj B (.deferred none)) D E:=by
 obtain ⟨Bs,h1,h2,h3⟩:=h.eG
 rw[hd] at h1
 cases Bs with
 |nil=>cases h1
 |cons B' Bs =>
  simp only[List.map_cons,List.cons.injEq,Deferred.mk.injEq,Target.collected.injEq,and_true] at h1
  obtain ⟨rfl,rfl⟩:=h1
  have hB:=h3 B (by simp)
  have hlt:B<w.heap.size:=(Array.getElem?_eq_some_iff.1 hB.2).1
  have hl:dM w D E (w.putObj B (.deferred none)) D E :=
   ⟨fun _ _ h=>h,fun b o v _ hv=>uH hB.2 rfl hv,fun _ _ _ h=>h,fun _ aE l h=>⟨aE,l,h,Nat.le_refl _,fun _=>rfl⟩,fun _ _ h=>h,fun _ _ h=>h,fun b es ck _ hm=>(World.putObj_heap_other (fun e=>by rw[e,hB.2] at hm;cases hm)).trans hm⟩
  have hne:∀ {b:Nat} {cs:Array Value} {T:TypeId},w.heap[b]?=some (.cells cs T (0,0))→(w.putObj B (.deferred none)).heap[b]?=w.heap[b]?:=fun {b cs T} hb =>
   World.putObj_heap_other (fun e=>by rw[e,hB.2] at hb;cases hb)
  refine ⟨hB.2,h.sz,⟨Bs,rfl,(List.nodup_cons.1 h2).2,fun B2 hB2=>⟨(h3 B2 (by simp[hB2])).1,?_⟩⟩,fun t=>aW.bK hl (h.ed t),h.dR.trans ⟨rfl,rfl,rfl,by simp,fun k hk =>?_⟩,h.cZ,fun b o hd=>by have:=h.dc b o hd;simpa using this,fun n =>?_,h.cT,h.dT,h.eQ,h.cJ,h.eU,h.kE hl⟩
  ·rw[World.putObj_heap_other (fun e=>(List.nodup_cons.1 h2).1 (by rw[←e];exact hB2))]
   exact (h3 B2 (by simp[hB2])).2
  ·exact World.putObj_heap_other (fun e=>hk (e▸.inl hB.1))
  ·refine (h.bQ n).bK hl rfl fun e b he hb=>⟨?_,fun _ h=>h⟩
   have hob:=h.bQ n
   unfold c5 at hob
   split at hob
   ·rw[hob] at he;cases he
   ·obtain ⟨b',cs,T,k1,_,k3,_⟩:=hob
    rw[k1,Option.some.injEq] at he
    subst he
    simp only[bR.aE,Option.some.injEq] at hb
    subst hb
    exact hne k3
   ·obtain ⟨aE,k1,_,k3⟩:=hob
    rw[k1,Option.some.injEq] at he
    subst he
    split at k3
    ·simp[bR.aE] at hb
    ·obtain ⟨cs,pre,rest,_,k5,_⟩:=k3
     simp only[bR.aE,Option.some.injEq] at hb
     subst hb
     exact hne k5
   ·obtain ⟨b',k1,_,k3,k4,_⟩:=hob
    rw[k1,Option.some.injEq] at he
    subst he
    simp only[bR.aE,Option.some.injEq] at hb
    subst hb
    exact World.putObj_heap_other (fun e=>by rw[e,hB.2] at k3;cases k3;cases k4)
   ·obtain ⟨b',es,ck,k1,_,k3,_⟩:=hob
    rw[k1,Option.some.injEq] at he
    subst he
    cases hb
    exact World.putObj_heap_other (fun e=>by rw[e,hB.2] at k3;cases k3)
   ·obtain ⟨r,b',es,ck,si,se,la,k1,_,k3,_⟩:=hob
    rw[k1,Option.some.injEq] at he
    subst he
    cases hb
    exact World.putObj_heap_other (fun e=>by rw[e,hB.2] at k3;cases k3)
   ·obtain ⟨aE,k1,_,k3⟩:=hob
    rw[k1,Option.some.injEq] at he
    subst he
    split at k3
    ·simp[bR.aE] at hb
    ·obtain ⟨cs,m,_,k5,_⟩:=k3
     simp only[bR.aE,Option.some.injEq] at hb
     subst hb
     exact hne k5
def ue(w:World)(D:aQ)(E:aX)(post:cR)(v:Value)(w':World):Prop :=
 ∃ D' E' r os',post r os'∧aW w' D' E' r v∧kG (fun b=>w.heap.size≤b∨dm E b) w' D' E' (al os') ∧
  fA (fun b=>w.heap.size≤b∨dm E b) w w'∧(∀ b o,D b o→D' b o)∧(∀ b o,D' b o→b<w'.heap.size)∧(∀ b o,D' b o→b<w.heap.size→¬ dm E b→D b o) ∧
  (∀ n e,E n=some e→au os' n=true→∃ e',E' n=some e'∧e.le e')∧gZ w D w'
theorem aU.Io{P:Program}{n:Nat}{w:World}{D:aQ}{E:aX}{Y:Value→List I→List (Nat×ai)→cR→Prop}{mb:Option Nat}{A:af}{a:Act}{w':World}{D':aQ}{E':aX}
  (hs:aU ⟨P,w,D,n,dm E,E,Y,mb⟩ A a w' D' E') {os:List (Nat×ai)} (h1:∀ n x,al os n=some x→A.o n=some x∧x.only (au os)=true∧x.eC=true) :
  ∃ D2 E2,hE true (A.kC os) D' E' D2∧(∀ n,au os n=true→E2 n=E' n)∧(∀ n,au os n=false→E2 n=none)∧kG (fun b=>w.heap.size≤b∨dm E b) w' D2 E2 (al os) ∧
   fA (fun b=>w.heap.size≤b∨dm E b) w w'∧(∀ b o,D b o→D2 b o)∧(∀ b o,D2 b o→b<w'.heap.size)∧(∀ b o,D2 b o→b<w.heap.size→¬ dm E b→D b o) ∧
   (∀ n e,E n=some e→au os n=true→∃ e',E2 n=some e'∧e.le e')∧gZ w D w':=by
 obtain ⟨c,hc⟩:∃ c:cQ,c=⟨P,w,D,n,dm E,E,Y,mb⟩:=⟨_,rfl⟩
 rw[←hc] at hs
 have hM:c.eX=fun b=>w.heap.size≤b∨dm E b:=by rw[hc];rfl
 obtain ⟨E2,hE2⟩:∃ E2:aX,E2=fun n=>if au os n then E' n else none:=⟨_,rfl⟩
 obtain ⟨D2,hD2⟩:∃ D2:aQ,D2=fun b o=>b<w'.heap.size∧(D' b o∨(¬ dm E2 b∧c.eX b)):=⟨_,rfl⟩
 have e2:∀ n,au os n=true→E2 n=E' n:=fun n hn=>by rw[hE2];simp only[hn,if_true]
 have cut:∀ n e,E2 n=some e→au os n=true∧E' n=some e:=fun n e he=>by
  rw[hE2] at he
  simp only at he
  split at he
  ·exact ⟨by assumption,he⟩
  ·cases he
 have up2:∀ b o,D' b o→D2 b o:=fun b o hd=>by
  rw[hD2]
  exact ⟨hs.dc b o hd,.inl hd⟩
 have down:∀ b o,D2 b o→dm E2 b→D' b o:=fun b o hd hb=>by
  rw[hD2] at hd
  rcases hd.2 with h | h
  ·exact h
  ·exact absurd hb h.1
 have hu:ee (A.kC os) A:=fun n x hx=>by
  simp only[af.kC] at hx
  split at hx
  ·cases hx
  ·exact hx
 have notOwn:∀ n e b,(A.kC os).o n≠none→E' n=some e→e.aE=some b→¬ dm E2 b:=fun n e b hn he hb ho=>by
  obtain ⟨m,e',k1,k3⟩:=ho
  obtain ⟨k1,k2⟩:=cut m e' k1
  have:=hs.cT n m e _ b he k2 hb k3
  subst this
  simp[af.kC,k1] at hn
 have hw:hE true (A.kC os) D' E' D2:=by
  refine ⟨up2,fun n T sz es b cap hn aw o _ =>?_,fun _ n x b aT hn aw o _ =>?_,fun _ n ks vs b hn aw =>?_⟩
  ·rw[hD2]
   refine ⟨hs.fH aw rfl,.inr ⟨notOwn n _ b (by rw[hn];simp) aw rfl,?_⟩⟩
   obtain ⟨aE,k1,k2,k3⟩:=hs.bX (hu n _ hn)
   rw[aw] at k1
   simp only[Option.some.injEq,bR.rw.injEq,and_true] at k1
   subst k1
   obtain ⟨_,_,_,k4,_⟩:=k3
   exact k4
  ·rw[hD2]
   refine ⟨hs.fH aw rfl,.inr ⟨notOwn n _ b (by rw[hn];simp) aw rfl,?_⟩⟩
   obtain ⟨b',cs,T,k1,k2,_⟩:=hs.box (hu n _ hn)
   rw[k1] at aw
   simp only[Option.some.injEq,bR.aD.injEq] at aw
   obtain ⟨rfl,_⟩:=aw
   exact k2
  ·rw[hD2]
   refine ⟨hs.fH aw rfl,.inr ⟨notOwn n _ b (by rw[hn];simp) aw rfl,?_⟩⟩
   obtain ⟨b',es,ck,k1,k2,_⟩:=hs.map (hu n _ hn)
   rw[k1] at aw
   cases aw
   exact k2
 have hst:gZ w D w':=by
  have:=hs.fv
  rw[hc] at this
  exact this
 refine ⟨D2,E2,hw,e2,fun n hn=>by rw[hE2];simp[hn],⟨fun m =>?_,fun m m' e e' b g1 g2 g3 g4 =>?_⟩,?_,fun b o hd=>up2 b o (hs.cJ b o (by rw[hc];exact hd)),fun b o hd=>by rw[hD2] at hd;exact hd.1,fun b o hd hlt hno =>?_,fun m e hm hin =>?_,hst⟩
 ·cases hx:al os m with
  |none=>simp only[c5];rw[hE2];simp[au,hx]
  |some x =>
   have hm:au os m=true:=by simp[au,hx]
   obtain ⟨k1,k2,k3⟩:=h1 m x hx
   have ho:=hs.bQ m
   rw[k1] at ho
   have hl2:dM w' D' E2 w' D2 E2:=⟨up2,fun _ _ _ _ h=>h,fun _ _ _ h=>h,fun _ aE l h=>⟨aE,l,h,Nat.le_refl _,fun _=>rfl⟩,fun _ _ h=>h,fun _ _ h=>h,fun _ _ _ _ h=>h⟩
   have nD:∀ e b,E' m=some e→e.aE=some b→∀ o,D2 b o→D' b o:=fun e b he hb o hd=>down b o hd ⟨m,e,(e2 m hm).trans he,hb⟩
   cases x with
   |bX T sz es =>
    obtain ⟨aE,q1,q2,q3⟩:=ho
    refine ⟨aE,(e2 m hm).trans q1,q2,?_⟩
    cases aE with
    |none=>exact q3
    |some bc =>
     obtain ⟨b,cap⟩:=bc
     obtain ⟨cs,pre,rest,g1,g2,g3,g4,g5,g6,g7,g8⟩:=q3
     exact ⟨cs,pre,rest,by rw[←hM];exact g1,g2,g3,aH.bK hl2 _ _ (aH.dv e2 _ _ (by simpa[ai.only] using k2) g4),g5,g6,g7,fun o hd=>g8 o (nD _ b q1 rfl o hd)⟩
   |box y =>
    obtain ⟨b',cs,T,q1,q2,q3,q4,q5⟩:=ho
    exact ⟨b',cs,T,(e2 m hm).trans q1,by rw[←hM];exact q2,q3,ah.bK hl2 _ _ (ah.dv e2 _ _ (by simpa[ai.only] using k2) q4),fun o hd=>q5 o (nD _ b' q1 rfl o hd)⟩
   |dJ o =>
    obtain ⟨b',q1,q2,q3,q4,q5⟩:=ho
    exact ⟨b',(e2 m hm).trans q1,by rw[←hM];exact q2,q3,q4,fun o hd=>q5 o (nD _ b' q1 rfl o hd)⟩
   |ct ks vs =>
    obtain ⟨b',es,ck,q1,q2,q3,q4,q5,q6,q7⟩:=ho
    simp only[ai.only,Bool.and_eq_true] at k2
    exact ⟨b',es,ck,(e2 m hm).trans q1,by rw[←hM];exact q2,q3,q4,aG.bK hl2 _ _ (aG.dv e2 _ _ k2.1 q5),aG.bK hl2 _ _ (aG.dv e2 _ _ k2.2 q6),fun o hd=>q7 o (nD _ b' q1 rfl o hd)⟩
   |it ks vs left cur=>cases k3
   |cU T xs =>
    obtain ⟨aE,q1,q2,q3⟩:=ho
    refine ⟨aE,(e2 m hm).trans q1,q2,?_⟩
    cases aE with
    |none=>exact q3
    |some bc =>
     obtain ⟨b,cap⟩:=bc
     obtain ⟨cs,r,g1,g2,g3,g4,g5,g6,g7⟩:=q3
     exact ⟨cs,r,by rw[←hM];exact g1,g2,g3,g4,g5,g6,fun o hd=>g7 o (nD _ b q1 rfl o hd)⟩
 ·exact hs.cT m m' e e' b (cut m e g1).2 (cut m' e' g2).2 g3 g4
 ·rw[←hM]
  have:=hs.dR
  rw[hc] at this ⊢
  exact this
 ·rw[hD2] at hd
  have hnm:¬ c.eX b:=by
   rw[hM]
   rintro (h | h)
   ·omega
   ·exact hno h
  rcases hd.2 with h | h
  ·have:=hs.cZ b o h hnm
   rw[hc] at this;exact this
  ·exact absurd h.2 hnm
 ·rw[e2 m hin]
  have ho:A.o m≠none:=by
   cases hx:al os m with
   |none=>simp[au,hx] at hin
   |some x=>rw[(h1 m x hx).1];simp
  rcases hs.dT m e (by rw[hc];exact hm) with h | h
  ·have hob:=hs.bQ m
   cases hx:A.o m with
   |none=>exact absurd hx ho
   |some x=>rw[hx] at hob;exact absurd h (sS hob)
  ·exact h
theorem aU.agm{P:Program}{n:Nat}{w:World}{D:aQ}{E:aX}{Y:Value→List I→List (Nat×ai)→cR→Prop}{rs:List aZ}{post:cR}{fn:Func}{A:af}{a:Act}{w':World}{D':aQ}{E':aX}
  (hs:aU ⟨P,w,D,n,dm E,E,Y,none⟩ A a w' D' E') (hrs:iB P fn.results.toList=some rs) (h:kH rs post A):∃ v,(results fn a.tmps).run P w'=.ok v w'∧ue w D E post v w':=by
 obtain ⟨os,xs,h1,h2,h3⟩:=h
 obtain ⟨D2,E2,hw,e2,e2n,q1,q2,q3,q4,q5,q6⟩:=hs.Io h1
 have hu:ee (A.kC os) A:=fun n x hx=>by
  simp only[af.kC] at hx
  split at hx
  ·cases hx
  ·exact hx
 obtain ⟨vs,k1,k2⟩:=xX hs hu (os:=os) (E':=E2) hw e2 e2n fn.results.toList rs xs hrs h2
 have hres:(results fn a.tmps).run P w'=.ok (if h:vs.toArray.size=1 then vs.toArray[0] else .tuple vs.toArray) w':=by
  rw[aiV,Sem.run_bind,Array.mapM_eq_mapM_toList,Sem.run_map,k1]
  rfl
 refine ⟨_,hres,D2,E2,kv xs,os,h3,?_,q1,q2,q3,q4,q5,q6⟩
 match xs,vs,k2 with
 | [x],vs,k2 =>
  simp only[aG] at k2
  obtain ⟨v,rest,cs,rfl,q1,q2,rfl⟩:=k2
  simpa[kv] using lX q1 q2
 | [],vs,k2 =>
  simp only[aG] at k2
  subst k2
  simp[kv,aW,aG]
 |x::y::xs,vs,k2 =>
  have hl:vs.length≠1:=by
   simp only[aG] at k2
   obtain ⟨v,rest,cs,rfl,_,_,v2,rest2,cs2,rfl,_⟩:=k2
   simp
  simp only[kv,aW]
  exact ⟨vs,by simp[hl],k2⟩
theorem Ip{P:Program}{n:Nat}{w:World}{D:aQ}{E:aX}{Y:Value→List I→List (Nat×ai)→cR→Prop}{rs:List aZ}{post:cR}{fn:Func}{A:af}{D':aQ}{E':aX}(hrs:iB P fn.results.toList=some rs)(h:kH rs post A) :
  ∀ (ds:List Deferred) (a:Act) (w':World),a.defers=ds→aU ⟨P,w,D,n,dm E,E,Y,none⟩ A a w' D' E'→LeavesInM Fence.wide 9 P fn a.tmps (fun e w'=>∃ v,e=.returned v∧ue w D E post v w') ds .returning w'
 | [],a,w',_,hs=>by
  obtain ⟨v,h1,h2⟩:=hs.agm hrs h
  exact ⟨v,h1,v,rfl,h2⟩
 |d::ds,a,w',hd,hs=>by
  obtain ⟨Bs,h1,_⟩:=hs.eG
  rw[hd] at h1
  cases Bs with
  |nil=>cases h1
  |cons B Bs =>
   simp only[List.map_cons,List.cons.injEq] at h1
   obtain ⟨rfl,rfl⟩:=h1
   obtain ⟨k1,k2⟩:=hs.Tb hd
   exact ⟨by simp,.inl ⟨B,_,rfl,run_takeDeferred k1,Ip hrs h _ { a with defers:=Bs.map _ } _ rfl k2⟩⟩
theorem x9{w:World}{D:aQ}{E:aX} : ∀ {args:List I} {vs:List Value},aG w D E args vs→vs.length=args.length
 | [],vs,h=>by simp only[aG] at h;subst h;rfl
 |x::xs,vs,h=>by
  simp only[aG] at h
  obtain ⟨v,rest,cs,rfl,_,_,h3⟩:=h
  simp[x9 h3]
def j8(P:Program)(f:FuncId)(Y:Value→List I→List (Nat×ai)→cR→Prop)(args:List I)(os:List (Nat×ai))(post:cR):Prop :=
 gI P f=true∧∀ (w:World) (D:aQ) (E:aX) (vs:List Value),(∀ n,oq ⟨P,w,D,n,dm E,E,Y,none⟩)→(∀ b o,D b o→b<w.heap.size)→kG (fun _=>True) w D E (al os)→aG w D E args vs →
  Calls P f vs.toArray w fun e w'=>∃ v,e=.returned v∧ue w D E post v w'
theorem j8.sT{P:Program}{f:FuncId}{fn:Func}{body:Code}{x:aN}{rs:List aZ}{Y:Value→List I→List (Nat×ai)→cR→Prop}{args:List I}{os:List (Nat×ai)}{post:cR}(hf:P.funcs[f]?=some fn)(hb:fn.body=some body)(hcall:gI P f=true)(hc:eZ P fn.ntmps body=some x)
  (hrs:iB P fn.results.toList=some rs) (hn:args.length≤fn.ntmps) (hos:∀ m,au os m=true→fn.ntmps≤m∧1000000≤m) (h:∀ (w:World) (D:aQ) (E:aX),U ⟨P,w,D,fn.ntmps,dm E,E,Y,none⟩ x (m0 rs post) (pD args os)):j8 P f Y args os post:=by
 refine ⟨hcall,fun w D E vs hy hD ho hv =>?_⟩
 have hlen:=x9 hv
 have hsim:=ajG (P:=P) (n:=fn.ntmps) (Y:=Y) hD ho hv (by omega) hos (hy fn.ntmps)
 refine (callsIn_wide (n:=9)).1 (callsIn_of_wp_marks hf hb trivial ?_)
 refine wpIn_mono (h w D E body hc _ w ⟨D,E,hsim⟩) ?_
 rintro e a w' ⟨A,hq,D',E',hs⟩
 cases e <;>simp only[m0] at hq <;>first
  |exact Ip hrs hq a.defers a w' rfl hs
  |cases hq
theorem aj3{P:Program}{w:World}{D:aQ}{E:aX}{n:Nat} : oq ⟨P,w,D,n,dm E,E,il,none⟩:=fun _ _ _ _ h=>h.elim
theorem cA.IS{P:Program}{f:FuncId}{args:List I}{os:List (Nat×ai)}{post:cR}(h:j8 P f il args os post):cA P f args os post :=
 ⟨h.1,fun w D E vs _ hD ho hv=>(h.2 w D E vs (fun _=>aj3) hD ho hv).mono fun e w' ⟨v,he,D',E',r,os',k⟩=>⟨v,D',E',r,os',he,k⟩⟩
theorem az.ahJ{P:Program}{f:FuncId}{args:List I}{r:I}(h:cA P f args [] (fun r' os'=>r'=r∧os'=[])):az P f args r:=by
 refine ⟨h.1,fun w D vs hD hv =>?_⟩
 have hh:kG (fun _=>True) w D dp (al []):=⟨fun n=>rfl,fun n m e e' b h=>by simp[dp] at h⟩
 refine (h.2 w D dp vs trivial hD hh hv).mono fun e w' hq =>?_
 obtain ⟨v,D',E',r',os',he,⟨h1,h2⟩,k1,k2,k3,k4,k5,k6,_⟩:=hq
 subst h1 h2
 refine ⟨v,D',he,?_,?_,k5,fun b o hd hlt=>k6 b o hd hlt fun ⟨n,e,h,_⟩=>by simp[dp] at h⟩
 ·have:E'=dp:=by funext n;exact k2.bQ n
  rw[←this];exact k1
 ·exact k3.OM fun k hk hm=>by
   rcases hm with hm | ⟨n,e,h,_⟩
   ·omega
   ·simp[dp] at h
theorem aja(A:af):A.kC []=A:=rfl
theorem Lx{A:af} : ∀ {rs:List aZ} {xs:List I},eR A rs=some xs→ma A (A.kC []) [] rs xs
 | [],xs,h=>by simp only[eR,Option.some.injEq] at h;subst h;trivial
 |r::rs,xs,h=>by
  simp only[eR] at h
  split at h
  ·rename_i x xs' h1 h2
   simp only[Option.some.injEq] at h
   subst h
   refine ⟨?_,Lx h2⟩
   rw[aja]
   cases r with
   |tmp t=>exact ⟨_,rfl,.inr h1⟩
   |cell a s =>
    simp only[tp,te] at h1 ⊢
    split at h1
    ·rename_i y hy
     split at h1
     ·rename_i hok
      exact ⟨y,by simp[hok],.inr h1⟩
     ·cases h1
    ·cases h1
  ·cases h
theorem aiW{rs:List aZ}{r:I}{e:Exit}{A:af}(h:jq rs r e A):m0 rs (fun r' os'=>r'=r∧os'=[]) e A:=by
 cases e <;>simp only[jq] at h <;>first
  |exact h.elim
  |(obtain ⟨xs,h1,h2⟩:=h
    exact ⟨[],xs,fun n x hx=>by simp[al] at hx,Lx h1,h2,rfl⟩)
theorem az.sT{P:Program}{f:FuncId}{fn:Func}{body:Code}{x:aN}{rs:List aZ}{args:List I}{r:I}(hf:P.funcs[f]?=some fn)(hb:fn.body=some body)(hcall:gI P f=true)(hc:eZ P fn.ntmps body=some x)
  (hrs:iB P fn.results.toList=some rs) (hn:args.length≤fn.ntmps) (h:∀ (w:World) (D:aQ) (E:aX),U ⟨P,w,D,fn.ntmps,dm E,E,il,none⟩ x (jq rs r) (n8 args)):az P f args r:=by
 refine az.ahJ (cA.IS (j8.sT hf hb hcall hc hrs hn (fun m hm=>by simp[au,al] at hm) fun w D E =>?_))
 exact (h w D E).mono fun e B hq=>aiW hq
end Go.Abs
namespace Go.Abs
open Go Go.RowKit
def bd(ts:List (Nat×I)):List (Nat×I)→Prop
 | []=>True
 |(k,v)::r=>b8 ts k=v∧bd ts r
def bT(os:List (Nat×ai)):List (Nat×ai)→Prop
 | []=>True
 |(k,v)::r=>al os k=some v∧bT os r
def bS(p:Nat→Bool):List (Nat×I)→Prop
 | []=>True
 |(_,v)::r=>v.only p=true∧bS p r
theorem yj{ts:List (Nat×I)} : ∀ {ts':List (Nat×I)},bd ts ts'→∀ k,b8 ts' k=.db∨b8 ts' k=b8 ts k
 | [],_,k=>.inl rfl
 |(j,v)::r,h,k=>by
  simp only[bd] at h
  simp only[b8]
  split
  ·rename_i hk;subst hk;exact .inr h.1.symm
  ·exact yj h.2 k
theorem Md{os:List (Nat×ai)} : ∀ {os':List (Nat×ai)},bT os os'→∀ k,al os' k=none∨al os' k=al os k
 | [],_,k=>.inl rfl
 |(j,v)::r,h,k=>by
  simp only[bT] at h
  simp only[al]
  split
  ·rename_i hk;subst hk;exact .inr h.1.symm
  ·exact Md h.2 k
theorem I6{p:Nat→Bool} : ∀ {ts:List (Nat×I)},bS p ts→∀ k,(b8 ts k).only p=true
 | [],_,k=>by simp[b8,I.only]
 |(j,v)::r,h,k=>by
  simp only[bS] at h
  simp only[b8]
  split
  ·exact h.1
  ·exact I6 h.2 k
theorem I5{p:Nat→Bool} : ∀ {os:List (Nat×ai)},bD p os→∀ k x,al os k=some x→x.only p=true
 | [],_,k,x,hx=>by simp[al] at hx
 |(j,v)::r,h,k,x,hx=>by
  simp only[bD] at h
  simp only[al] at hx
  split at hx
  ·simp only[Option.some.injEq] at hx;subst hx;exact h.1
  ·exact I5 h.2 k x hx
theorem aI.b9{ts ts':List (Nat×I)}{os os':List (Nat×ai)}(h1:bd ts ts')(h2:bT os os')(h3:bS (au os') ts')(h4:bD (au os') os'):aI (av ts os) (av ts' os'):=by
 rintro c a w ⟨D,E,hs⟩
 have hp:∀ n,au os' n=true→(if au os' n then E n else none)=E n:=fun n hn=>by simp[hn]
 refine ⟨D,fun n=>if au os' n then E n else none,hs.sz,hs.eG,fun t =>?_,hs.dR,hs.cZ,hs.dc,fun n =>?_,fun n m e e' b h1 h2 h3 h4 =>?_,fun n e hn =>?_,hs.eQ,hs.cJ,hs.eU,hs.fv⟩
 ·have:=yj h1 t
  rcases this with h | h
  ·simp only[av];rw[h];simp[aW]
  ·refine aW.dv (p:=au os') hp (I6 h3 t) ?_
   have:=hs.ed t
   simp only[av] at *
   rw[h];exact this
 ·have ho:=hs.bQ n
  simp only[av] at *
  rcases Md h2 n with h | h
  ·rw[h];simp[c5,au,h]
  ·rw[h]
   by_cases hin:al os n=none
   ·rw[hin];simp[c5,au,h,hin]
   ·have aw:(if au os' n then E n else none)=E n:=hp n (by simp[au,h];cases hh:al os n <;>simp_all)
    cases hx:al os n with
    |none=>exact absurd hx hin
    |some x =>
     have hon:=I5 h4 n x (h.trans hx)
     rw[hx] at ho
     cases x with
     |box x =>
      obtain ⟨b,cs,T,k1,k2,k3,k4,k5⟩:=ho
      exact ⟨b,cs,T,aw.trans k1,k2,k3,ah.dv hp _ _ (by simpa[ai.only] using hon) k4,k5⟩
     |bX T sz es =>
      obtain ⟨aE,k1,k2,k3⟩:=ho
      refine ⟨aE,aw.trans k1,k2,?_⟩
      cases aE with
      |none=>exact k3
      |some bc =>
       obtain ⟨b,cap⟩:=bc
       obtain ⟨cs,pre,rest,q1,q2,q3,q4,q5⟩:=k3
       exact ⟨cs,pre,rest,q1,q2,q3,aH.dv hp _ _ (by simpa[ai.only] using hon) q4,q5⟩
     |cU T xs =>
      obtain ⟨aE,k1,k2,k3⟩:=ho
      exact ⟨aE,aw.trans k1,k2,k3⟩
     |dJ x =>
      obtain ⟨b,k1,k2⟩:=ho
      exact ⟨b,aw.trans k1,k2⟩
     |ct ks vs =>
      obtain ⟨b,es,ck,k1,k2,k3,k4,k5,k6,k7⟩:=ho
      simp only[ai.only,Bool.and_eq_true] at hon
      exact ⟨b,es,ck,aw.trans k1,k2,k3,k4,aG.dv hp _ _ hon.1 k5,aG.dv hp _ _ hon.2 k6,k7⟩
     |it ks vs left cur =>
      obtain ⟨r,b,es,ck,si,se,la,k1,k2,k3,k4,k5,k6,k7⟩:=ho
      simp only[ai.only,Bool.and_eq_true] at hon
      exact ⟨r,b,es,ck,si,se,la,aw.trans k1,k2,k3,k4,aG.dv hp _ _ hon.1 k5,aG.dv hp _ _ hon.2 k6,k7⟩
 ·refine hs.cT n m e e' b ?_ ?_ h3 h4
  ·split at h1
   ·exact h1
   ·cases h1
  ·split at h2
   ·exact h2
   ·cases h2
 ·by_cases hi:au os' n=true
  ·simp only[hi,if_true];exact hs.dT n e hn
  ·simp only[hi];exact .inl rfl
def bg:Nat→List I→List (Nat×I)
 |_,[]=>[]
 |k,a::as=>(k,a)::bg (k+1) as
theorem Iz:∀ (as:List I) (k t:Nat),b8 (bg k as) t=if t<k then .db else (as[t-k]?).getD .db
 | [],k,t=>by simp[bg,b8]
 |a::as,k,t=>by
  simp only[bg,b8,Iz as (k+1) t]
  by_cases h:t=k
  ·subst h;simp
  ·rw[if_neg h]
   by_cases h2:t<k
   ·rw[if_pos (by omega),if_pos h2]
   ·rw[if_neg (by omega),if_neg h2,show t-k=(t-(k+1))+1 from by omega]
    simp
theorem Mc(args:List I)(os:List (Nat×ai)):aI (pD args os) (av (bg 0 args) os):=by
 rintro c a w ⟨D,E,hs⟩
 refine ⟨D,E,hs.sz,hs.eG,fun t =>?_,hs.dR,hs.cZ,hs.dc,hs.bQ,hs.cT,hs.dT,hs.eQ,hs.cJ,hs.eU,hs.fv⟩
 have:=hs.ed t
 simp only[av,Iz,pD,Nat.not_lt_zero,if_false,Nat.sub_zero] at *
 cases h:args[t]? with
 |none=>simp[aW]
 |some x=>simpa[List.getD_eq_getElem?_getD,h] using this
theorem ajF(args:List I):aI (n8 args) (av (bg 0 args) []):=Mc args []
theorem sI(ts:List (Nat×I))(os:List (Nat×ai))(d:Nat)(v:I):(av ts os).put d v=av ((d,v)::ts) os:=rfl
theorem agJ(ts:List (Nat×I))(os:List (Nat×ai))(d:Nat)(v:I):(av ts os).aO (some d) v=av ((d,v)::ts) os:=rfl
theorem agI(A:af)(v:I):A.aO none v=A:=rfl
theorem nG(ts:List (Nat×I))(os:List (Nat×ai))(d:Nat)(x:ai):(av ts os).aR d x=av ts ((d,x)::os):=rfl
theorem agK(ts:List (Nat×I))(os:List (Nat×ai))(k:Nat):(av ts os).t k=b8 ts k:=rfl
theorem agH(ts:List (Nat×I))(os:List (Nat×ai))(k:Nat):(av ts os).o k=al os k:=rfl
theorem bh(j:Nat)(v:I)(r:List (Nat×I))(k:Nat):b8 ((j,v)::r) k=if k=j then v else b8 r k:=rfl
theorem cI(j:Nat)(v:ai)(r:List (Nat×ai))(k:Nat):al ((j,v)::r) k=if k=j then some v else al r k:=rfl
theorem qm(k:Nat):al [] k=none:=rfl
theorem WM(A:af)(k:Nat):ae A (.t k)=A.t k:=rfl
theorem WL(A:af)(x:I):ae A (.c x)=x:=rfl
noncomputable def c8(d:Option Nat)(rest:List aB)(A:af)(v:I):cE:=aC rest (A.aO d v)
theorem af5(d:Option Nat)(rest:List aB)(A:af)(v:I):c8 d rest A v=aC rest (A.aO d v):=rfl
theorem O6(v:I)(k:I→cE):cL (some v) k=k v:=rfl
theorem Ol(A:af):aC [] A=.done A:=rfl
noncomputable def bN(A:af)(d:Option Nat)(op:b5)(rest:List aB):cE:=bl A d op rest (aC rest)
noncomputable def gN(x:I)(b:Bool)(d:Option Nat)(op:b5)(rest:List aB)(A:af):cE :=
 match x with
 | .bool b'=>if b'=b then bN A d op rest else aC rest (A.aO d .undef)
 | .undef=>aC rest (A.aO d .undef)
 |_=>.fail
theorem a6.guard{P:Program}{Y:Value→List I→List (Nat×ai)→cR→Prop}{dr:Bool}{K:af→Prop}{x b:Bool}{d:Option Nat}{op:b5}{rest:List aB}{A:af}(h1:x=b→a6 P Y dr K (bN A d op rest))(h2:x = !b→a6 P Y dr K (aC rest (A.aO d .undef))):a6 P Y dr K (gN (.bool x) b d op rest A):=by
 unfold gN
 by_cases h:x=b
 ·simp only[if_pos h];exact h1 h
 ·simp only[if_neg h];exact h2 (by cases x <;>cases b <;>simp_all)
def I.du:I→Option (List I)
 | .agg fs=>some fs
 |_=>none
def oC(p:List Nat):Option I→Option I
 |some f=>f.at p
 |none=>none
def jw(i:Nat)(p:List Nat):Option (List I)→Option I
 |some fs=>oC p fs[i]?
 |none=>none
theorem oD(c:I):c.at []=some c:=by cases c <;>rfl
theorem OI(c:I)(i:Nat)(p:List Nat):c.at (i::p)=jw i p c.du:=by
 cases c <;>first | rfl | (rename_i fs;simp only[I.at,jw,I.du,oC])
def yb(fs:List I)(i:Nat)(p:List Nat)(v:I):Option I→I
 |some f=>.agg (fs.set i (f.dK p v))
 |none=>.agg fs
def tw(c:I)(i:Nat)(p:List Nat)(v:I):Option (List I)→I
 |some fs=>yb fs i p v fs[i]?
 |none=>c
theorem gh(c v:I):c.dK [] v=v:=by cases c <;>rfl
theorem ajb(c:I)(i:Nat)(p:List Nat)(v:I):c.dK (i::p) v=tw c i p v c.du:=by
 cases c <;>first | rfl | (rename_i fs;simp only[I.dK,tw,I.du];cases fs[i]? <;>rfl)
def eH(p:List Nat):Option ai→Option I
 |some (.box c)=>c.at p
 |_=>none
def gm(A:af):I→Option I
 | .ref x=>some x
 | .ptr n p=>eH p (A.o n)
 |_=>none
theorem kQ(A:af)(x:I):cv A x=gm A x:=by
 cases x <;>first | rfl | (rename_i n p;simp only[cv,gm];cases A.o n with | none=>rfl | some y=>cases y <;>rfl)
def c6(s:Option Nat)(x:I):Option I:=if bZ s x=true then some x else none
def gC(s:Option Nat):Option I→Option I
 |some x=>c6 s x
 |none=>none
open Classical in
noncomputable def dX(fs:List I)(f off:Nat)(y:I):Option I:=if f<fs.length∧I.sizes (fs.take f)=off then some y else none
noncomputable def pX(n:Nat)(p:List Nat)(f off:Nat):Option (List I)→Option I
 |some fs=>dX fs f off (.ptr n (p++[f]))
 |none=>none
noncomputable def oO(fs:List I)(f off:Nat):Option I→Option I
 |some v=>dX fs f off (.ref v)
 |none=>none
noncomputable def pY(f off:Nat):Option (List I)→Option I
 |some fs=>oO fs f off fs[f]?
 |none=>none
def ff:Option I→Option (List I)
 |some x=>x.du
 |none=>none
noncomputable def kV(A:af)(f off:Nat):I→Option I
 | .ref c=>pY f off c.du
 | .ptr n p=>pX n p f off (ff (eH p (A.o n)))
 |_=>none
theorem aiv(A:af)(f off:Nat)(x:aJ):br A (.fa f off x)=kV A f off (ae A x):=by
 simp only[br]
 generalize ae A x=y
 cases y with
 |ref c =>
  cases c <;>simp only[kV,I.du,pY]
  rename_i fs
  cases h:fs[f]? with
  |none=>simp[oO]
  |some v =>
   have hl:f<fs.length:=(List.getElem?_eq_some_iff.1 h).1
   simp only[oO,dX,hl,true_and]

 |ptr n p =>
  simp only[kV,kQ,gm]
  cases eH p (A.o n) with
  |none=>simp[ff,pX]
  |some c =>
   cases c <;>simp only[ff,I.du,pX]
   simp only[dX]

 |_=>simp only[kV]
noncomputable def rX(f off:Nat)(s:Option Nat):Option (List I)→Option I
 |some fs=>match fs[f]? with
  |some v=>(dX fs f off v).bind (c6 s)
  |none=>none
 |none=>none
theorem aiw(A:af)(f off:Nat)(s:Option Nat)(x:aJ):br A (.fl f off s x)=rX f off s (ae A x).du:=by
 simp only[br]
 generalize ae A x=y
 cases y <;>simp only[rX,I.du]
 rename_i fs
 cases h:fs[f]? with
 |none=>rfl
 |some v =>
  have hl:f<fs.length:=(List.getElem?_eq_some_iff.1 h).1
  simp only[dX,hl,true_and]
  by_cases h1:I.sizes (fs.take f)=off <;>by_cases h2:bZ s v=true <;>simp[h1,h2,c6]
open Classical in
noncomputable def iG(k:Int)(n:Nat)(y:Option I):Option I:=if 0≤k∧k<n then y else none
noncomputable def iF(n esz:Nat)(fs:List I)(y:Option I):Option I:=if ij n esz fs=true then y else none
noncomputable def qc(n esz:Nat)(k:Int):Option (List I)→Option I
 |some fs=>iF n esz fs ((fs[k.toNat]?).map .ref)
 |none=>none
noncomputable def qb(n esz m:Nat)(p:List Nat)(k:Int):Option (List I)→Option I
 |some fs=>iF n esz fs (some (.ptr m (p++[k.toNat])))
 |none=>none
noncomputable def nw(A:af)(n esz:Nat)(k:Int):I→Option I
 | .ref c=>iG k n (qc n esz k c.du)
 | .ptr m p=>iG k n (qb n esz m p k (ff (eH p (A.o m))))
 |_=>none
noncomputable def qa(A:af)(n esz:Nat)(x:I):I→Option I
 | .int _ k=>nw A n esz k x
 |_=>none
theorem aix(A:af)(n esz:Nat)(x i:aJ):br A (.ia n esz x i)=qa A n esz (ae A x) (ae A i):=by
 simp only[br]
 generalize ae A x=y
 generalize ae A i=z
 cases z <;>simp only[qa]
 rename_i kk k
 cases y with
 |ref c =>
  simp only[nw,iG]
  split
  ·cases c <;>simp only[I.du,qc,iF]
  ·rfl
 |ptr m p =>
  simp only[nw,iG,kQ,gm]
  split
  ·cases eH p (A.o m) with
   |none=>simp[ff,qb]
   |some c=>cases c <;>simp only[ff,I.du,qb,iF]
  ·rfl
 |_=>simp only[nw];split <;>rfl
open Classical in
noncomputable def lh(m:Nat)(p:List Nat)(sz lo l esz:Nat)(k:Int):Option (List I)→Option I
 |some _=>if sz=esz∧0≤k∧k<l then some (.ptr m (p++[lo+k.toNat])) else none
 |none=>none
open Classical in
noncomputable def jf(A:af)(esz:Nat)(k:Int):I→Option I
 | .slice sz es=>if sz=esz∧0≤k∧k<es.length then (es[k.toNat]?).map .ref else none
 | .own m l=>match A.o m with
  |some (.bX _ sz es)=>if l=es.length∧sz=esz∧0≤k∧k<es.length then (es[k.toNat]?).map .ref else none
  |_=>none
 | .view m p sz lo l=>lh m p sz lo l esz k (ff (eH p (A.o m)))
 |_=>none
noncomputable def lf(A:af)(esz:Nat)(x:I):I→Option I
 | .int _ k=>jf A esz k x
 |_=>none
theorem aiy(A:af)(esz:Nat)(x i:aJ):br A (.is esz x i)=lf A esz (ae A x) (ae A i):=by
 simp only[br]
 generalize ae A x=y
 generalize ae A i=z
 cases z <;>simp only[lf]
 cases y <;>simp only[jf]
 ·split <;>simp_all
 ·rename_i m p sz lo l
  simp only[kQ,gm]
  cases eH p (A.o m) with
  |none=>rfl
  |some c=>cases c <;>simp only[ff,I.du,lh]
noncomputable def qh(n esz:Nat)(s:Option Nat)(k:Int):Option (List I)→Option I
 |some fs=>iG k n (iF n esz fs (gC s fs[k.toNat]?))
 |none=>none
noncomputable def qi(n esz:Nat)(s:Option Nat)(x:I):I→Option I
 | .int _ k=>qh n esz s k x.du
 |_=>none
theorem aiz(A:af)(n esz:Nat)(s:Option Nat)(x i:aJ):br A (.ix n esz s x i)=qi n esz s (ae A x) (ae A i):=by
 simp only[br]
 generalize ae A x=y
 generalize ae A i=z
 cases z <;>simp only[qi]
 rename_i kk k
 cases y <;>simp only[I.du,qh]
 case agg fs =>
  simp only[iG,iF]
  split
  ·split
   ·cases fs[k.toNat]? <;>rfl
   ·rfl
  ·rfl
 all_goals (split <;>rfl)
def jB(A:af):I→Option I
 | .slice _ es=>some (.int .i64 es.length)
 | .nils _=>some (.int .i64 0)
 | .c0 _=>some (.int .i64 0)
 | .own m l=>match A.o m with | some (.bX _ _ es)=>if l=es.length then some (.int .i64 es.length) else none | _=>none
 | .view _ _ _ _ k=>some (.int .i64 k)
 |_=>none
theorem aiB(A:af)(x:aJ):br A (.len x)=jB A (ae A x):=by
 simp only[br]
 generalize ae A x=y
 cases y <;>rfl
open Classical in
noncomputable def od(n esz:Nat)(fs:List I)(y:I):Option I:=if ij n esz fs=true∧n≤maxLen∧n≠0 then some y else none
noncomputable def qQ(n esz m:Nat)(p:List Nat):Option (List I)→Option I
 |some fs=>od n esz fs (.view m p esz 0 n)
 |none=>none
noncomputable def Mp(n esz:Nat):Option (List I)→Option I
 |some fs=>od n esz fs (.slice esz fs)
 |none=>none
noncomputable def oc(A:af)(n esz:Nat):I→Option I
 | .ptr m p=>qQ n esz m p (ff (eH p (A.o m)))
 | .ref c=>Mp n esz c.du
 |_=>none
theorem aiD(A:af)(n esz:Nat)(x:aJ):br A (.va n esz x)=oc A n esz (ae A x):=by
 simp only[br]
 generalize ae A x=y
 cases y with
 |ptr m p =>
  simp only[oc,kQ,gm]
  cases eH p (A.o m) with
  |none=>simp[ff,qQ]
  |some c=>cases c <;>simp only[ff,I.du,qQ,od] <;>(split <;>simp_all)
 |ref c=>cases c <;>simp only[oc,I.du,Mp,od] <;>(split <;>simp_all)
 |_=>simp only[oc]
theorem aiA(A:af)(s:Option Nat)(x:aJ):br A (.ld s x)=gC s (gm A (ae A x)):=by
 simp only[br,kQ]
 cases gm A (ae A x) <;>simp only[gC,c6]
noncomputable def qw(A:af)(d:Option Nat)(a b:aJ)(rest:List aB):I→cE
 | .bool t=>aC rest (A.aO d (if t then ae A a else ae A b))
 |_=>.fail
noncomputable def qP(op:UnOp)(x:I):Option I:=match op,x with
  | .not,.bool b=>some (.bool !b)
  | .neg,.int k n=>some (.int k (k.wrap (0-n)))
  | .xor,.int k n=>some (.int k (oK k n))
  |_,_=>none
def vc(i:Nat):I→Option I
 | .tuple fs=>fs[i]?
 |_=>none
def uN(k:IntKind):I→Option I
 | .int _ n=>some (.int k (k.wrap n))
 |_=>none
noncomputable def ug(A:af)(d:Nat)(z:I)(rest:List aB):Option ai→cE
 |none=>aC rest ((A.aR d (.box z)).put d (.ptr d []))
 |some _=>.fail
noncomputable def rB(A:af)(d:Nat)(z:I)(rest:List aB)(v:Bool):cE:=if v=true then aC rest ((A.aR d (.box z)).put d (.ptr d [])) else .fail
noncomputable def rA(A:af)(d:Nat)(z:I)(rest:List aB):Option ai→cE
 |none=>rB A d z rest z.cq
 |some _=>.fail
open Classical in
noncomputable def dY(A:af)(s:Option Nat)(n:Nat)(p:List Nat)(b v:I)(rest:List aB):Option I→cE
 |some old=>if xy s v old then aC rest (A.aR n (.box (b.dK p v))) else .fail
 |none=>.fail
noncomputable def tD(A:af)(s:Option Nat)(n:Nat)(p:List Nat)(v:I)(rest:List aB):Option ai→cE
 |some (.box b)=>dY A s n p b v rest (b.at p)
 |_=>.fail
noncomputable def tC(A:af)(s:Option Nat)(v:I)(rest:List aB):I→cE
 | .ptr n p=>tD A s n p v rest (A.o n)
 |_=>.fail
noncomputable def rF(A:af)(d:Option Nat)(args:List I)(rest:List aB):I→cE
 | .func f caps=>.call f (args++caps) (bY true A (args++caps)) (bY false A (args++caps)) d rest A
 | .raw v=>.oJ v args d rest A
 |_=>.fail
section
variable (d:Option Nat) (rest:List aB) (A:af)
theorem N6(op:b5):aC (⟨d,op,none⟩::rest) A=bN A d op rest:=rfl
theorem N7(op:b5)(t:Nat)(b:Bool):aC (⟨d,op,some (t,b)⟩::rest) A=gN (A.t t) b d op rest A:=rfl
theorem ae6(op:b5):gN (.bool true) true d op rest A=bN A d op rest:=by simp[gN]
theorem ae3(op:b5):gN (.bool false) false d op rest A=bN A d op rest:=by simp[gN]
theorem ae5(op:b5):gN (.bool true) false d op rest A=aC rest (A.aO d .undef):=by simp[gN]
theorem ae4(op:b5):gN (.bool false) true d op rest A=aC rest (A.aO d .undef):=by simp[gN]
theorem ae7(op:b5)(b:Bool):gN .undef b d op rest A=aC rest (A.aO d .undef):=rfl
theorem ahv(x:aJ):bN A d (.mv x) rest=aC rest (A.aO d (ae A x)):=rfl
theorem ahz(c a b:aJ):bN A d (.pick c a b) rest=qw A d a b rest (ae A c):=by
 simp only[bN,bl,br]
 cases ae A c <;>simp only[cL,qw]
theorem ag6(op:BinOp)(x y:aJ):bN A d (.bin op x y) rest=cL (cF op (ae A x) (ae A y)) (c8 d rest A):=rfl
theorem ahg(ty:cK)(neg:Bool)(x y:aJ):bN A d (.eqv ty neg x y) rest=cL ((cj ty (ae A x) (ae A y)).map fun b=>.bool (if neg then !b else b)) (c8 d rest A):=rfl
theorem ahE(op:UnOp)(x:aJ):bN A d (.un op x) rest=cL (qP op (ae A x)) (c8 d rest A):=rfl
theorem ahe(k:IntKind)(x:aJ):bN A d (.conv k x) rest=cL (uN k (ae A x)) (c8 d rest A):=by
 simp only[bN,bl,br];cases ae A x <;>rfl
theorem ahn(s:Option Nat)(x:aJ):bN A d (.ld s x) rest=cL (gC s (gm A (ae A x))) (c8 d rest A):=by rw[←aiA];rfl
theorem ahi(f off:Nat)(x:aJ):bN A d (.fa f off x) rest=cL (kV A f off (ae A x)) (c8 d rest A):=by rw[←aiv];rfl
theorem ahj(f off:Nat)(s:Option Nat)(x:aJ):bN A d (.fl f off s x) rest=cL (rX f off s (ae A x).du) (c8 d rest A):=by rw[←aiw];rfl
theorem ahk(n esz:Nat)(x i:aJ):bN A d (.ia n esz x i) rest=cL (qa A n esz (ae A x) (ae A i)) (c8 d rest A):=by rw[←aix];rfl
theorem ahl(esz:Nat)(x i:aJ):bN A d (.is esz x i) rest=cL (lf A esz (ae A x) (ae A i)) (c8 d rest A):=by rw[←aiy];rfl
theorem ahm(n esz:Nat)(s:Option Nat)(x i:aJ):bN A d (.ix n esz s x i) rest=cL (qi n esz s (ae A x) (ae A i)) (c8 d rest A):=by rw[←aiz];rfl
theorem aho(x:aJ):bN A d (.len x) rest=cL (jB A (ae A x)) (c8 d rest A):=by rw[←aiB];rfl
theorem ahF(n esz:Nat)(x:aJ):bN A d (.va n esz x) rest=cL (oc A n esz (ae A x)) (c8 d rest A):=by rw[←aiD];rfl
theorem ag7(zs:List I)(ps:List (Nat×aJ)):bN A d (.bld zs ps) rest=cL ((eB zs (ps.map fun p=>(p.1,ae A p.2))).map .agg) (c8 d rest A):=rfl
theorem ahh(x:aJ)(i:Nat):bN A d (.ext x i) rest=cL (vc i (ae A x)) (c8 d rest A):=by
 simp only[bN,bl,br];cases ae A x <;>rfl
theorem ahr(f:FuncId)(caps:List aJ):bN A d (.mk f caps) rest=cL (if ((caps.map (ae A)).all fun y=>y.cq)=true then some (.func f (caps.map (ae A))) else none) (c8 d rest A):=rfl
theorem ag3(d:Nat)(z:I):bN A (some d) (.alloc z) rest=ug A d z rest (A.o d):=by
 simp only[bN,bl];cases A.o d <;>rfl
theorem ag8(d:Nat)(x:aJ):bN A (some d) (.box x) rest=rA A d (ae A x) rest (A.o d):=by
 simp only[bN,bl];cases A.o d <;>simp only[rA,rB]
theorem ahD(s:Option Nat)(x v:aJ):bN A none (.bx s x v) rest=tC A s (ae A v) rest (ae A x):=by
 simp only[bN,bl]
 cases ae A x <;>simp only[tC]
 rename_i n p
 cases A.o n with
 |none=>rfl
 |some y =>
  cases y <;>simp only[tD]
  rename_i b
  cases b.at p <;>simp only[dY]
theorem aha(f:FuncId)(args:List aJ):bN A d (.call f args) rest=.call f (args.map (ae A)) (bY true A (args.map (ae A))) (bY false A (args.map (ae A))) d rest A:=rfl
theorem ahb(x:aJ)(args:List aJ):bN A d (.en x args) rest=rF A d (args.map (ae A)) rest (ae A x):=by
 simp only[bN,bl];cases ae A x <;>rfl
end
end Go.Abs
namespace Go.Abs
open Go Go.RowKit
mutual
/-- Closed,and as a result is told: no nil slice but as the empty one. -/
def I.done:I→Bool
 | .agg fs=>I.eO fs
 | .slice _ es=>I.bV es
 | .ref x=>x.bu
 | .func _ caps=>I.eO caps
 | .iface _ v=>v.bu
 | .cS ks vs=>I.bV ks&&I.bV vs
 | .bool _ | .int _ _ | .cX _ | .nilp | .de | .dQ | .raw _=>true
 |_=>false
def I.eO:List I→Bool
 | []=>true
 |x::xs=>x.done&&I.eO xs
end
mutual
theorem uS:∀ x:I,x.done=true→x.bu=true
 | .agg fs,h=>by simp only[I.done,I.bu] at *;exact kh fs h
 | .slice _ es,h=>by simpa only[I.done,I.bu] using h
 | .ref x,h=>by simpa only[I.done,I.bu] using h
 | .func _ caps,h=>by simp only[I.done,I.bu] at *;exact kh caps h
 | .iface _ v,h=>by simpa only[I.done,I.bu] using h
 | .bool _,_ | .int _ _,_ | .cX _,_ | .nilp,_ | .de,_ | .dQ,_ | .raw _,_=>by simp[I.bu]
 | .cS _ _,h=>by simpa only[I.done,I.bu] using h
 | .nils _,h | .c0 _,h | .ptr _ _,h | .own _ _,h | .view _ _ _ _ _,h | .mref _,h | .dj _,h | .undef,h | .db,h | .tuple _,h=>by simp[I.done] at h
theorem kh:∀ xs:List I,I.eO xs=true→I.bV xs=true
 | [],_=>rfl
 |x::xs,h=>by
  simp only[I.eO,I.bV,Bool.and_eq_true] at *
  exact ⟨uS x h.1,kh xs h.2⟩
end
mutual
theorem Cs(aD:Bool)(A:af):∀ x:I,x.done=true→bp aD A x=some x
 | .agg fs,h=>by simp only[I.done,bp] at *;rw[kl aD A fs h];rfl
 | .slice _ es,h=>by simp only[I.done] at h;simp[bp,h]
 | .ref x,h=>by simp only[I.done] at h;simp[bp,h]
 | .func _ caps,h=>by simp only[I.done,bp] at *;rw[kl aD A caps h];rfl
 | .iface _ v,h=>by simp only[I.done] at h;simp[bp,h]
 | .bool _,_ | .int _ _,_ | .cX _,_ | .nilp,_ | .de,_ | .dQ,_ | .raw _,_=>by simp[bp]
 | .cS _ _,h=>by simp only[I.done] at h;simp[bp,h]
 | .nils _,h | .c0 _,h | .ptr _ _,h | .own _ _,h | .view _ _ _ _ _,h | .mref _,h | .dj _,h | .undef,h | .db,h | .tuple _,h=>by simp[I.done] at h
theorem kl(aD:Bool)(A:af):∀ xs:List I,I.eO xs=true→bY aD A xs=some xs
 | [],_=>by simp[bY]
 |x::xs,h=>by
  simp only[I.eO,Bool.and_eq_true] at h
  simp only[bY,Cs aD A x h.1,kl aD A xs h.2]
end
theorem Wq{x:I}(h:x.done=true):x.cq=true:=by cases x <;>simp_all[I.done,I.cq]
class Enc (α:Type) where
 enc:α→I
 sz:Nat
 aT:cO
 fP:Bool
 done:∀ x,(enc x).done=true
 size:∀ x,(enc x).size=sz
 j4:∀ x,(enc x).aT=aT
 agg:∀ x,(enc x).isAgg=fP
open Enc (enc)
instance:Enc Int where
 enc n:=.int .i64 n
 sz:=1
 aT:=.one
 fP:=false
 done _:=rfl
 size _:=by simp[I.size]
 j4 _:=by simp[I.aT]
 agg _:=rfl
instance:Enc Bool where
 enc b:=.bool b
 sz:=1
 aT:=.one
 fP:=false
 done _:=rfl
 size _:=by simp[I.size]
 j4 _:=by simp[I.aT]
 agg _:=rfl
theorem ke{α:Type}[Enc α](l:List α):I.bV (l.map enc)=true:=by
 induction l with
 |nil=>rfl
 |cons x l ih=>simp only[List.map_cons,I.bV,uS _ (Enc.done x),ih,Bool.and_self]
theorem Wr{α:Type}[Enc α](l:List α):I.eO (l.map enc)=true:=by
 induction l with
 |nil=>rfl
 |cons x l ih=>simp only[List.map_cons,I.eO,Enc.done x,ih,Bool.and_self]
theorem ajh{α:Type}[Enc α](l:List α):I.sizes (l.map enc)=l.length*Enc.sz α:=by
 rw[I.gW (sz:=Enc.sz α) _ (by simp only[List.mem_map];rintro x ⟨y,_,rfl⟩;exact Enc.size y)]
 simp
theorem qJ{α:Type}[Enc α](l:List α):I.cM (l.map enc)=List.replicate l.length (Enc.aT α):=by
 induction l with
 |nil=>rfl
 |cons x l ih=>simp only[List.map_cons,I.cM,Enc.j4 x,ih,List.length_cons,List.replicate_succ]
instance {α:Type} [Enc α]:Enc (List α) where
 enc l:=.slice (Enc.sz α) (l.map enc)
 sz:=1
 aT:=.one
 fP:=false
 done l:=by simp only[I.done];exact ke l
 size _:=by simp[I.size]
 j4 _:=by simp[I.aT]
 agg _:=rfl
structure bL (n:Nat) (α:Type) where
 l:List α
 h:l.length=n
instance {n:Nat} {α:Type} [Enc α]:Enc (bL n α) where
 enc x:=.agg (x.l.map enc)
 sz:=n*Enc.sz α
 aT:=.ej (List.replicate n (Enc.aT α))
 fP:=true
 done x:=by simp only[I.done];exact Wr x.l
 size x:=by simp only[I.size,ajh,x.h]
 j4 x:=by simp only[I.aT,qJ,x.h]
 agg _:=rfl
section
variable {α:Type} [Enc α]
theorem dC(aD:Bool)(A:af)(x:α):bp aD A (enc x)=some (enc x):=Cs aD A _ (Enc.done x)
theorem dO(x:α):(enc x).bu=true:=uS _ (Enc.done x)
theorem bG(p:Nat→Bool)(x:α):(enc x).only p=true:=l5 p _ (dO x)
theorem dz(x:α):(enc x).cq=true:=Wq (Enc.done x)
theorem lL(x:α):bZ none (enc x) = !(Enc.fP α):=by simp[bZ,Enc.agg]
theorem gK(n:Nat)(x:α):bZ (some n) (enc x)=(Enc.fP α&&Enc.sz α==n):=by simp[bZ,Enc.agg,Enc.size]
theorem jd(x:α):(enc x).size=Enc.sz α:=Enc.size x
theorem fm(x:α):(enc x).aT=Enc.aT α:=Enc.j4 x
theorem jN(n:Int):(enc n:I)=.int .i64 n:=rfl
theorem B7(n:Bool):(enc n:I)=.bool n:=rfl
theorem gJ(l:List α):(enc l:I)=.slice (Enc.sz α) (l.map enc):=rfl
theorem lN:Enc.sz Int=1:=rfl
theorem lM(n:Nat):Enc.sz (bL n α)=n*Enc.sz α:=rfl
theorem u5:Enc.sz (List α)=1:=rfl
theorem uX(n:Nat):Enc.fP (bL n α)=true:=rfl
theorem mI:Enc.fP (List α)=false:=rfl
theorem uZ:Enc.aT Int=.one:=rfl
theorem B9:Enc.aT (List α)=.one:=rfl
theorem uY(n:Nat):Enc.aT (bL n α)=.ej (List.replicate n (Enc.aT α)):=rfl
theorem vb(n esz:Nat)(l:List α)(h:l.length=n)(h2:Enc.sz α=esz):ij n esz (l.map enc)=true:=by
 simp only[ij,List.length_map,h,BEq.rfl,Bool.true_and,List.all_eq_true,List.mem_map]
 rintro x ⟨y,_,rfl⟩
 simp[Enc.size,h2]
theorem Oh(l:List α):∀ x∈l.map (enc (α:=α)),x.size=Enc.sz α:=by
 simp only[List.mem_map];rintro x ⟨y,_,rfl⟩;exact Enc.size y
end
theorem cN(n:Int)(h1:-9223372036854775808≤n)(h2:n≤9223372036854775807):IntKind.i64.wrap n=n:=IntWalk.i64_in n ⟨h1,h2⟩
theorem az.mk{P:Program}{f:FuncId}{fn:Func}{x:aN}{rs:List aZ}{args:List I}{r:I}(hf:P.funcs[f]?=some fn)(hcall:gI P f=true)(hc:(fn.body.bind (eZ P fn.ntmps))=some x)
  (hrs:iB P fn.results.toList=some rs) (hn:args.length≤fn.ntmps) (h:∀ (w:World) (D:aQ) (E:aX),U ⟨P,w,D,fn.ntmps,dm E,E,il,none⟩ x (jq rs r) (av (bg 0 args) [])):az P f args r:=by
 obtain ⟨body,hb,hc'⟩:=Option.bind_eq_some_iff.1 hc
 exact az.sT hf hb hcall hc' hrs hn (fun w D E=>(h w D E).sub (ajF args))
end Go.Abs
namespace Go.Abs
open Go Go.RowKit
open Enc (enc)
def ao(x:I)(p q:Prop):Prop:=match x with
 | .bool t=>(t=true→p)∧(t=false→q)
 |_=>False
theorem U.bM{c:cQ}{A:af}{Q:Exit→af→Prop}{b:aJ}{x y:aN}(h:ao (ae A b) (U c x Q A) (U c y Q A)):U c (.cond b x y) Q A:=by
 generalize hb:ae A b=v at h
 unfold ao at h
 split at h
 ·exact U.cond hb h.1 h.2
 ·exact h.elim
def m3(r:I):Option (List I)→Prop
 |some xs=>kv xs=r
 |none=>False
theorem aiY(rs:List aZ)(r:I)(A:af):jq rs r .ret A=m3 r (eR A rs):=by
 simp only[jq,m3]
 cases eR A rs <;>simp
theorem aiX(rs:List aZ)(r:I)(A:af):jq rs r .normal A=m3 r (eR A rs):=by
 simp only[jq,m3]
 cases eR A rs <;>simp
def qG(s:Option Nat)(A:af):Option I→Option I
 |some x=>if bZ s x=true then bp true A x else none
 |none=>none
def kP:Option I→Option (List I)→Option (List I)
 |some x,some xs=>some (x::xs)
 |_,_=>none
theorem aiR(A:af):eR A []=some []:=rfl
theorem aiS(A:af)(t:Nat)(rs:List aZ):eR A (.tmp t::rs)=kP (bp true A (A.t t)) (eR A rs):=by
 simp only[eR,tp]
 cases bp true A (A.t t) <;>cases eR A rs <;>rfl
theorem aiQ(A:af)(a:Nat)(s:Option Nat)(rs:List aZ):eR A (.cell a s::rs)=kP (qG s A (gm A (A.t a))) (eR A rs):=by
 simp only[eR,tp,kQ]
 cases gm A (A.t a) with
 |none=>cases eR A rs <;>rfl
 |some x =>
  by_cases h:bZ s x=true
  ·simp only[qG,if_pos h];cases bp true A x <;>cases eR A rs <;>rfl
  ·simp only[qG,if_neg h];cases eR A rs <;>rfl
def rT(aD:Bool)(A:af):Option I→Option I
 |some x=>if x.bu=true then some (.ref x) else (dU A 9 x).map .ref
 |none=>none
theorem Xb(A:af)(n:Nat)(p:List Nat):bp true A (.ptr n p)=rT true A (eH p (A.o n)):=by
 simp only[bp,kQ,gm,if_true,rT]
 cases eH p (A.o n) <;>rfl
open Classical in
noncomputable def kW(sz lo k:Nat):Option (List I)→Option I
 |some fs=>if I.bV ((fs.drop lo).take k)=true then some (.slice sz ((fs.drop lo).take k)) else none
 |none=>none
theorem Xf(A:af)(n:Nat)(p:List Nat)(sz lo k:Nat):bp true A (.view n p sz lo k)=kW sz lo k (ff (eH p (A.o n))):=by
 simp only[bp,kQ,gm,if_true]
 cases eH p (A.o n) with
 |none=>rfl
 |some c=>cases c <;>simp only[ff,I.du,kW] <;>(split <;>simp_all)
open Classical in
noncomputable def np(k:Nat):Option ai→Option I
 |some (.bX _ sz es)=>if k=es.length∧I.bV es=true then some (.slice sz es) else none
 |_=>none
theorem Xa(aD:Bool)(A:af)(n k:Nat):bp aD A (.own n k)=np k (A.o n):=by
 simp only[bp]
 cases A.o n with
 |none=>rfl
 |some y=>cases y <;>simp only[np] <;>(split <;>simp_all)
theorem W4(aD:Bool)(A:af)(fs:List I):bp aD A (.agg fs)=(bY aD A fs).map .agg:=by simp only[bp]
theorem W6(aD:Bool)(A:af)(f:FuncId)(fs:List I):bp aD A (.func f fs)=(bY aD A fs).map (.func f):=by simp only[bp]
theorem W7(aD:Bool)(A:af)(k:IntKind)(n:Int):bp aD A (.int k n)=some (.int k n):=by simp only[bp]
theorem W5(aD:Bool)(A:af)(n:Bool):bp aD A (.bool n)=some (.bool n):=by simp only[bp]
theorem Xe(aD:Bool)(A:af)(n:ByteArray):bp aD A (.cX n)=some (.cX n):=by simp only[bp]
theorem W9(aD:Bool)(A:af)(n:Nat):bp aD A (.nils n)=some (.slice n []):=by simp only[bp]
theorem Xd(aD:Bool)(A:af)(n:Nat)(es:List I):bp aD A (.slice n es)=if I.bV es=true then some (.slice n es) else none:=by simp only[bp]
theorem Xc(aD:Bool)(A:af)(x:I):bp aD A (.ref x)=if x.bu=true then some (.ref x) else none:=by simp only[bp]
theorem Xi(aD:Bool)(A:af):bY aD A []=some []:=by simp only[bY]
theorem Xh(aD:Bool)(A:af)(x:I)(xs:List I):bY aD A (x::xs)=kP (bp aD A x) (bY aD A xs):=by
 simp only[bY];cases bp aD A x <;>cases bY aD A xs <;>rfl
theorem Tc(fs:List I):(I.agg fs).bu=I.bV fs:=by simp only[I.bu]
theorem Ti(n:Nat)(fs:List I):(I.slice n fs).bu=I.bV fs:=by simp only[I.bu]
theorem Th(x:I):(I.ref x).bu=x.bu:=by simp only[I.bu]
theorem Tg(k:IntKind)(n:Int):(I.int k n).bu=true:=by simp only[I.bu]
theorem Td(n:Bool):(I.bool n).bu=true:=by simp only[I.bu]
theorem Tj(n:ByteArray):(I.cX n).bu=true:=by simp only[I.bu]
theorem Te(f:FuncId)(fs:List I):(I.func f fs).bu=I.bV fs:=by simp only[I.bu]
theorem Tm:I.bV []=true:=by simp only[I.bV]
theorem Tk(x:I)(xs:List I):I.bV (x::xs)=(x.bu&&I.bV xs):=by simp only[I.bV]
theorem OO(k:IntKind)(a b:Int):cF .add (.int k a) (.int k b)=some (.int k (k.wrap (a+b))):=by simp[cF]
theorem O4(k:IntKind)(a b:Int):cF .sub (.int k a) (.int k b)=some (.int k (k.wrap (a-b))):=by simp[cF]
theorem OW(k:IntKind)(a b:Int):cF .mul (.int k a) (.int k b)=some (.int k (k.wrap (a*b))):=by simp[cF]
theorem O0(k:IntKind)(a b:Int):cF .quo (.int k a) (.int k b)=if b=0 then none else some (.int k (k.wrap (a.tdiv b))):=by simp[cF]
theorem O1(k:IntKind)(a b:Int):cF .rem (.int k a) (.int k b)=if b=0 then none else some (.int k (a.tmod b)):=by simp[cF]
theorem OP(k:IntKind)(a b:Int):cF .and (.int k a) (.int k b)=some (.int k (k.wrap ((BitVec.ofInt k.bits a &&& BitVec.ofInt k.bits b).toNat:Int))):=by simp[cF]
theorem OZ(k:IntKind)(a b:Int):cF .or (.int k a) (.int k b)=some (.int k (k.wrap ((BitVec.ofInt k.bits a ||| BitVec.ofInt k.bits b).toNat:Int))):=by simp[cF]
theorem O5(k:IntKind)(a b:Int):cF .xor (.int k a) (.int k b)=some (.int k (k.wrap ((BitVec.ofInt k.bits a ^^^ BitVec.ofInt k.bits b).toNat:Int))):=by simp[cF]
theorem OQ(k:IntKind)(a b:Int):cF .andNot (.int k a) (.int k b)=some (.int k (k.wrap ((BitVec.ofInt k.bits a &&& ~~~ BitVec.ofInt k.bits b).toNat:Int))):=by simp[cF]
theorem O2(k k':IntKind)(a b:Int):cF .shl (.int k a) (.int k' b)=if 0≤b then some (.int k (k.wrap (a*2^(min b.toNat k.bits)))) else none:=by simp[cF]
theorem O3(k k':IntKind)(a b:Int):cF .shr (.int k a) (.int k' b)=if 0≤b then some (.int k (a.fdiv (2^(min b.toNat k.bits)))) else none:=by simp[cF]
theorem OR(k:IntKind)(a b:Int):cF .eql (.int k a) (.int k b)=some (.bool (a==b)):=by simp[cF]
theorem OX(k:IntKind)(a b:Int):cF .neq (.int k a) (.int k b)=some (.bool (a != b)):=by simp[cF]
theorem OV(k:IntKind)(a b:Int):cF .lss (.int k a) (.int k b)=some (.bool (decide (a<b))):=by simp[cF]
theorem OU(k:IntKind)(a b:Int):cF .leq (.int k a) (.int k b)=some (.bool (decide (a≤b))):=by simp[cF]
theorem OT(k:IntKind)(a b:Int):cF .gtr (.int k a) (.int k b)=some (.bool (decide (b<a))):=by simp[cF]
theorem OS(k:IntKind)(a b:Int):cF .geq (.int k a) (.int k b)=some (.bool (decide (b≤a))):=by simp[cF]
theorem ot :
  (∀ ts os d v,(av ts os).put d v=av ((d,v)::ts) os)∧(∀ ts os d v,(av ts os).aO (some d) v=av ((d,v)::ts) os)∧(∀ (A:af) v,A.aO none v=A) ∧
  (∀ ts os d x,(av ts os).aR d x=av ts ((d,x)::os))∧(∀ ts os k,(av ts os).t k=b8 ts k)∧(∀ ts os k,(av ts os).o k=al os k) ∧
  (∀ j v r k,b8 ((j,v)::r) k=if k=j then v else b8 r k)∧(∀ j v r k,al ((j,v)::r) k=if k=j then some v else al r k)∧(∀ k,al [] k=none) ∧
  (∀ A k,ae A (.t k)=A.t k)∧(∀ A x,ae A (.c x)=x)∧(∀ d rest A v,c8 d rest A v=aC rest (A.aO d v))∧(∀ v k,cL (some v) k=k v)∧(∀ A,aC [] A=.done A) :=
 ⟨sI,agJ,agI,nG,agK,agH,bh,cI,qm,WM,WL,af5,O6,Ol⟩
theorem Ja :
  (∀ d rest A op,aC (⟨d,op,none⟩::rest) A=bN A d op rest)∧(∀ d rest A op t b,aC (⟨d,op,some (t,b)⟩::rest) A=gN (A.t t) b d op rest A) ∧
  (∀ d rest A op,gN (.bool true) true d op rest A=bN A d op rest)∧(∀ d rest A op,gN (.bool false) false d op rest A=bN A d op rest) ∧
  (∀ d rest A op,gN (.bool true) false d op rest A=aC rest (A.aO d .undef))∧(∀ d rest A op,gN (.bool false) true d op rest A=aC rest (A.aO d .undef))∧(∀ d rest A op b,gN .undef b d op rest A=aC rest (A.aO d .undef)) ∧
  (∀ d rest A x,bN A d (.mv x) rest=aC rest (A.aO d (ae A x)))∧(∀ d rest A c a b,bN A d (.pick c a b) rest=qw A d a b rest (ae A c)) ∧
  (∀ A d a b rest,qw A d a b rest (.bool true)=aC rest (A.aO d (ae A a)))∧(∀ A d a b rest,qw A d a b rest (.bool false)=aC rest (A.aO d (ae A b))) ∧
  (∀ d rest A op x y,bN A d (.bin op x y) rest=cL (cF op (ae A x) (ae A y)) (c8 d rest A)) ∧
  (∀ d rest A ty neg x y,bN A d (.eqv ty neg x y) rest=cL ((cj ty (ae A x) (ae A y)).map fun b=>.bool (if neg then !b else b)) (c8 d rest A)) ∧
  (∀ d rest A op x,bN A d (.un op x) rest=cL (qP op (ae A x)) (c8 d rest A))∧(∀ b,qP .not (.bool b)=some (.bool !b))∧(∀ k n,qP .neg (.int k n)=some (.int k (k.wrap (0-n))))∧(∀ k n,qP .xor (.int k n)=some (.int k (oK k n))) ∧
  (∀ d rest A k x,bN A d (.conv k x) rest=cL (uN k (ae A x)) (c8 d rest A))∧(∀ k k' n,uN k (.int k' n)=some (.int k (k.wrap n))) ∧
  (∀ d rest A s x,bN A d (.ld s x) rest=cL (gC s (gm A (ae A x))) (c8 d rest A))∧(∀ d rest A f off x,bN A d (.fa f off x) rest=cL (kV A f off (ae A x)) (c8 d rest A)) ∧
  (∀ d rest A f off s x,bN A d (.fl f off s x) rest=cL (rX f off s (ae A x).du) (c8 d rest A))∧(∀ d rest A n esz x i,bN A d (.ia n esz x i) rest=cL (qa A n esz (ae A x) (ae A i)) (c8 d rest A)) ∧
  (∀ d rest A esz x i,bN A d (.is esz x i) rest=cL (lf A esz (ae A x) (ae A i)) (c8 d rest A))∧(∀ d rest A n esz s x i,bN A d (.ix n esz s x i) rest=cL (qi n esz s (ae A x) (ae A i)) (c8 d rest A)) ∧
  (∀ d rest A x,bN A d (.len x) rest=cL (jB A (ae A x)) (c8 d rest A))∧(∀ d rest A n esz x,bN A d (.va n esz x) rest=cL (oc A n esz (ae A x)) (c8 d rest A)) ∧
  (∀ d rest A zs ps,bN A d (.bld zs ps) rest=cL ((eB zs (ps.map fun p=>(p.1,ae A p.2))).map .agg) (c8 d rest A))∧(∀ d rest A x i,bN A d (.ext x i) rest=cL (vc i (ae A x)) (c8 d rest A))∧(∀ i fs,vc i (.tuple fs)=fs[i]?) ∧
  (∀ d rest A f caps,bN A d (.mk f caps) rest=cL (if ((caps.map (ae A)).all fun y=>y.cq)=true then some (.func f (caps.map (ae A))) else none) (c8 d rest A)) ∧
  (∀ rest A d z,bN A (some d) (.alloc z) rest=ug A d z rest (A.o d))∧(∀ A d z rest,ug A d z rest none=aC rest ((A.aR d (.box z)).put d (.ptr d []))) ∧
  (∀ rest A d x,bN A (some d) (.box x) rest=rA A d (ae A x) rest (A.o d))∧(∀ A d z rest,rA A d z rest none=rB A d z rest z.cq)∧(∀ A d z rest,rB A d z rest true=aC rest ((A.aR d (.box z)).put d (.ptr d []))) ∧
  (∀ rest A s x v,bN A none (.bx s x v) rest=tC A s (ae A v) rest (ae A x))∧(∀ A s v rest n p,tC A s v rest (.ptr n p)=tD A s n p v rest (A.o n))∧(∀ A s n p v rest b,tD A s n p v rest (some (.box b))=dY A s n p b v rest (b.at p)) ∧
  (∀ d rest A f args,bN A d (.call f args) rest=.call f (args.map (ae A)) (bY true A (args.map (ae A))) (bY false A (args.map (ae A))) d rest A) ∧
  (∀ d rest A x args,bN A d (.en x args) rest=rF A d (args.map (ae A)) rest (ae A x))∧(∀ A d args rest f caps,rF A d args rest (.func f caps)=.call f (args++caps) (bY true A (args++caps)) (bY false A (args++caps)) d rest A) :=
 ⟨N6,N7,ae6,ae3,ae5,ae4,ae7,ahv,ahz,fun _ _ _ _ _=>rfl,fun _ _ _ _ _=>rfl,ag6,ahg,ahE,fun _=>rfl,fun _ _=>rfl,fun _ _=>rfl,ahe,fun _ _ _=>rfl,ahn,ahi,ahj,ahk,ahl,ahm,aho,ahF,ag7,ahh,fun _ _=>rfl,ahr,
  ag3,fun _ _ _ _=>rfl,ag8,fun _ _ _ _=>rfl,fun _ _ _ _=>rfl,ahD,fun _ _ _ _ _ _=>rfl,fun _ _ _ _ _ _ _=>rfl,aha,ahb,fun _ _ _ _ _ _=>rfl⟩
theorem fq{A:af}{s:Option Nat}{n:Nat}{p:List Nat}{b v old:I}{rest:List aB}(h1:v.cq=true)(h2:bZ s v=true)(h3:v.aT=old.aT):dY A s n p b v rest (some old)=aC rest (A.aR n (.box (b.dK p v))):=by
 simp only[dY];rw[if_pos ⟨h1,h2,h3⟩]
theorem Mq :
  (∀ A x,gm A (.ref x)=some x)∧(∀ A n p,gm A (.ptr n p)=eH p (A.o n))∧(∀ p c,eH p (some (.box c))=c.at p)∧(∀ c:I,c.at []=some c)∧(∀ (c:I) i p,c.at (i::p)=jw i p c.du) ∧
  (∀ i p fs,jw i p (some fs)=oC p fs[i]?)∧(∀ p f,oC p (some f)=f.at p)∧(∀ c v:I,c.dK [] v=v)∧(∀ (c:I) i p v,c.dK (i::p) v=tw c i p v c.du)∧(∀ c i p v fs,tw c i p v (some fs)=yb fs i p v fs[i]?) ∧
  (∀ fs i p v f,yb fs i p v (some f)=.agg (fs.set i (f.dK p v)))∧(∀ fs,(I.agg fs).du=some fs)∧(∀ x:I,ff (some x)=x.du) ∧
  (∀ s x,gC s (some x)=if bZ s x=true then some x else none) ∧
  (∀ A f off c,kV A f off (.ref c)=pY f off c.du)∧(∀ A f off n p,kV A f off (.ptr n p)=pX n p f off (ff (eH p (A.o n))))∧(∀ f off fs,pY f off (some fs)=oO fs f off fs[f]?)∧(∀ fs f off v,oO fs f off (some v)=dX fs f off (.ref v)) ∧
  (∀ n p f off fs,pX n p f off (some fs)=dX fs f off (.ptr n (p++[f])))∧(∀ A n esz x kk k,qa A n esz x (.int kk k)=nw A n esz k x)∧(∀ A n esz k c,nw A n esz k (.ref c)=iG k n (qc n esz k c.du)) ∧
  (∀ A n esz k m p,nw A n esz k (.ptr m p)=iG k n (qb n esz m p k (ff (eH p (A.o m)))))∧(∀ n esz k fs,qc n esz k (some fs)=iF n esz fs ((fs[k.toNat]?).map .ref))∧(∀ n esz m p k fs,qb n esz m p k (some fs)=iF n esz fs (some (.ptr m (p++[k.toNat])))) ∧
  (∀ A esz x kk k,lf A esz x (.int kk k)=jf A esz k x)∧(∀ n esz s x kk k,qi n esz s x (.int kk k)=qh n esz s k x.du)∧(∀ n esz s k fs,qh n esz s k (some fs)=iG k n (iF n esz fs (gC s fs[k.toNat]?))) ∧
  (∀ A n esz m p,oc A n esz (.ptr m p)=qQ n esz m p (ff (eH p (A.o m))))∧(∀ n esz m p fs,qQ n esz m p (some fs)=od n esz fs (.view m p esz 0 n)) ∧
  (∀ A sz es,jB A (.slice sz es)=some (.int .i64 es.length))∧(∀ A n,jB A (.nils n)=some (.int .i64 0))∧(∀ A n,jB A (.c0 n)=some (.int .i64 0)) :=
 ⟨fun _ _=>rfl,fun _ _ _=>rfl,fun _ _=>rfl,oD,OI,fun _ _ _=>rfl,fun _ _=>rfl,gh,ajb,fun _ _ _ _ _=>rfl,fun _ _ _ _ _=>rfl,fun _=>rfl,fun _=>rfl,fun _ _=>rfl,fun _ _ _ _=>rfl,fun _ _ _ _ _=>rfl,fun _ _ _=>rfl,fun _ _ _ _=>rfl,
  fun _ _ _ _ _=>rfl,fun _ _ _ _ _ _=>rfl,fun _ _ _ _ _=>rfl,fun _ _ _ _ _ _=>rfl,fun _ _ _ _=>rfl,fun _ _ _ _ _ _=>rfl,fun _ _ _ _ _=>rfl,fun _ _ _ _ _ _=>rfl,fun _ _ _ _ _=>rfl,fun _ _ _ _ _=>rfl,fun _ _ _ _ _=>rfl,fun _ _ _=>rfl,fun _ _=>rfl,fun _ _=>rfl⟩
theorem Cp :
  (∀ A n p,bp true A (.ptr n p)=rT true A (eH p (A.o n)))∧(∀ A x,rT true A (some x)=if x.bu=true then some (.ref x) else (dU A 9 x).map .ref)∧(∀ A n p sz lo k,bp true A (.view n p sz lo k)=kW sz lo k (ff (eH p (A.o n)))) ∧
  (∀ A n p,bp false A (.ptr n p)=none)∧(∀ A n p sz lo k,bp false A (.view n p sz lo k)=none)∧(∀ x,kP none x=none)∧(∀ x,kP x none=none) ∧
  (∀ aD A n k,bp aD A (.own n k)=np k (A.o n))∧(∀ aD A fs,bp aD A (.agg fs)=(bY aD A fs).map .agg)∧(∀ aD A f fs,bp aD A (.func f fs)=(bY aD A fs).map (.func f))∧(∀ aD A k n,bp aD A (.int k n)=some (.int k n))∧(∀ aD A b,bp aD A (.bool b)=some (.bool b)) ∧
  (∀ aD A s,bp aD A (.cX s)=some (.cX s))∧(∀ aD A n,bp aD A (.nils n)=some (.slice n []))∧(∀ aD A n es,bp aD A (.slice n es)=if I.bV es=true then some (.slice n es) else none)∧(∀ aD A x,bp aD A (.ref x)=if x.bu=true then some (.ref x) else none) ∧
  (∀ aD A,bY aD A []=some [])∧(∀ aD A x xs,bY aD A (x::xs)=kP (bp aD A x) (bY aD A xs))∧(∀ x xs,kP (some x) (some xs)=some (x::xs)) ∧
  (∀ fs,(I.agg fs).bu=I.bV fs)∧(∀ n fs,(I.slice n fs).bu=I.bV fs)∧(∀ x,(I.ref x).bu=x.bu)∧(∀ k n,(I.int k n).bu=true)∧(∀ n,(I.bool n).bu=true)∧(∀ n,(I.cX n).bu=true)∧(∀ f fs,(I.func f fs).bu=I.bV fs) ∧
  I.bV []=true∧(∀ x xs,I.bV (x::xs)=(x.bu&&I.bV xs)) ∧
  (∀ rs r A,jq rs r .ret A=m3 r (eR A rs))∧(∀ rs r A,jq rs r .normal A=m3 r (eR A rs))∧(∀ r xs,m3 r (some xs)=(kv xs=r))∧(∀ A,eR A []=some [])∧(∀ A t rs,eR A (.tmp t::rs)=kP (bp true A (A.t t)) (eR A rs)) ∧
  (∀ A a s rs,eR A (.cell a s::rs)=kP (qG s A (gm A (A.t a))) (eR A rs))∧(∀ s A x,qG s A (some x)=if bZ s x=true then bp true A x else none)∧(∀ x,kv [x]=x)∧(∀ x y xs,kv (x::y::xs)=.tuple (x::y::xs)) :=
 ⟨Xb,fun _ _=>rfl,Xf,fun _ _ _=>rfl,fun _ _ _ _ _ _=>rfl,fun _=>rfl,fun x=>by cases x <;>rfl,Xa,W4,W6,W7,W5,Xe,W9,Xd,Xc,Xi,Xh,fun _ _=>rfl,Tc,Ti,Th,Tg,Td,Tj,Te,Tm,Tk,
  aiY,aiX,fun _ _=>rfl,aiR,aiS,aiQ,fun _ _ _=>rfl,fun _=>rfl,fun _ _ _=>rfl⟩
theorem zj :
  (∀ k a b,cF .add (.int k a) (.int k b)=some (.int k (k.wrap (a+b))))∧(∀ k a b,cF .sub (.int k a) (.int k b)=some (.int k (k.wrap (a-b))))∧(∀ k a b,cF .mul (.int k a) (.int k b)=some (.int k (k.wrap (a*b)))) ∧
  (∀ k a b,cF .quo (.int k a) (.int k b)=if b=0 then none else some (.int k (k.wrap (a.tdiv b))))∧(∀ k a b,cF .rem (.int k a) (.int k b)=if b=0 then none else some (.int k (a.tmod b))) ∧
  (∀ k a b,cF .and (.int k a) (.int k b)=some (.int k (k.wrap ((BitVec.ofInt k.bits a &&& BitVec.ofInt k.bits b).toNat:Int))))∧(∀ k a b,cF .or (.int k a) (.int k b)=some (.int k (k.wrap ((BitVec.ofInt k.bits a ||| BitVec.ofInt k.bits b).toNat:Int)))) ∧
  (∀ k a b,cF .xor (.int k a) (.int k b)=some (.int k (k.wrap ((BitVec.ofInt k.bits a ^^^ BitVec.ofInt k.bits b).toNat:Int))))∧(∀ k a b,cF .andNot (.int k a) (.int k b)=some (.int k (k.wrap ((BitVec.ofInt k.bits a &&& ~~~ BitVec.ofInt k.bits b).toNat:Int)))) ∧
  (∀ k k' a b,cF .shl (.int k a) (.int k' b)=if 0≤b then some (.int k (k.wrap (a*2^(min b.toNat k.bits)))) else none)∧(∀ k k' a b,cF .shr (.int k a) (.int k' b)=if 0≤b then some (.int k (a.fdiv (2^(min b.toNat k.bits)))) else none) ∧
  (∀ k a b,cF .eql (.int k a) (.int k b)=some (.bool (a==b)))∧(∀ k a b,cF .neq (.int k a) (.int k b)=some (.bool (a != b)))∧(∀ k a b,cF .lss (.int k a) (.int k b)=some (.bool (decide (a<b))))∧(∀ k a b,cF .leq (.int k a) (.int k b)=some (.bool (decide (a≤b)))) ∧
  (∀ k a b,cF .gtr (.int k a) (.int k b)=some (.bool (decide (b<a))))∧(∀ k a b,cF .geq (.int k a) (.int k b)=some (.bool (decide (b≤a)))) :=
 ⟨OO,O4,OW,O0,O1,OP,OZ,O5,OQ,O2,O3,OR,OX,OV,OU,OT,OS⟩
end Go.Abs
namespace Go.Abs
open Go Go.RowKit
open Enc (enc)
section
variable {α:Type} [Enc α]
theorem ago(A:af)(l:List α):jB A (enc l)=some (.int .i64 l.length):=by simp[gJ,jB]
theorem afR{A:af}(esz:Nat){k:Int}{l:List α}(h:0≤k∧k.toNat<l.length)(hs:Enc.sz α=esz):jf A esz k (enc l)=some (.ref (enc l[k.toNat])):=by
 simp only[gJ,jf,hs,List.length_map,true_and]
 rw[if_pos ⟨h.1,by omega⟩]
 simp[h.2]
theorem gw{A:af}(esz:Nat){k:Nat}{l:List α}(h:k<l.length)(hs:Enc.sz α=esz):jf A esz k (enc l)=some (.ref (enc l[k])):=by
 have:=afR (A:=A) esz (k:=(k:Int)) (l:=l) ⟨by omega,by simpa using h⟩ hs
 simpa using this
theorem bL.lt{α:Type}{n:Nat}(x:bL n α){k:Nat}(h:k<n):k<x.l.length:=by rw[x.h];exact h
theorem ny{n:Nat}(esz:Nat){k:Nat}(x:bL n α){y:Option I}(h:k<n)(hs:Enc.sz α=esz):iG (k:Int) n (iF n esz (x.l.map enc) y)=y:=by
 simp only[iG,iF,vb n esz x.l x.h hs,if_true]
 rw[if_pos ⟨by omega,by omega⟩]
theorem wG{n:Nat}(esz:Nat){k:Int}(x:bL n α){y:Option I}(h:0≤k∧k<n)(hs:Enc.sz α=esz):iG k n (iF n esz (x.l.map enc) y)=y:=by
 simp only[iG,iF,vb n esz x.l x.h hs,if_true]
 rw[if_pos h]
theorem afa{n k:Nat}(x:bL n α)(h:k<n):(x.l.map enc)[k]?=some (enc (x.l[k]'(x.lt h))):=by
 simp[x.lt h]
theorem OG{n k:Nat}{p:List Nat}{x:bL n α}(h:k<n):jw k p (some (x.l.map enc))=(enc (x.l[k]'(x.lt h))).at p:=by
 have hl:=x.lt h
 simp[jw,oC,hl]
theorem ahP(k:IntKind)(n:Int):gC none (some (.int k n))=some (.int k n):=by simp[gC,c6,bZ,I.isAgg]
theorem ahN(b:Bool):gC none (some (.bool b))=some (.bool b):=by simp[gC,c6,bZ,I.isAgg]
theorem ahQ(z:Nat)(es:List I):gC none (some (.slice z es))=some (.slice z es):=by simp[gC,c6,bZ,I.isAgg]
theorem ahO(f:FuncId)(es:List I):gC none (some (.func f es))=some (.func f es):=by simp[gC,c6,bZ,I.isAgg]
end
mutual
/-- What every value in memory keeps to: whole numbers within their kind,slices no longer than a slice can be. -/
def I.wf:I→Prop
 | .agg fs=>I.gR fs
 | .int k n=>k.min≤n∧n≤k.max
 | .cX s=>s.size≤maxLen
 | .slice _ es=>es.length≤maxLen∧I.gR es
 | .ref c=>c.wf
 | .func _ caps=>I.gR caps
 | .iface _ v=>v.wf
 |_=>True
def I.gR:List I→Prop
 | []=>True
 |x::xs=>x.wf∧I.gR xs
end
mutual
theorem tg{w:World}{D:aQ}{E:aX} : ∀ (x:I) (cs:List Value),ah w D E x cs→x.wf
 | .agg fs,cs,h=>by simp only[ah,I.wf] at *;exact xT fs cs h
 | .int k n,cs,h=>by simp only[ah,I.wf] at *;exact h.2
 | .cX s,cs,h=>by simp only[ah,I.wf] at *;exact h.2
 | .slice sz es,cs,h=>by
  simp only[ah,I.wf] at *
  obtain ⟨a,cap,_,h1,h2,h3,_⟩:=h
  refine ⟨by omega,?_⟩
  rcases h3 with rfl | ⟨b,off,cs',_,_,h4⟩
  ·simp[I.gR]
  ·exact xT es cs' h4
 | .ref c,cs,h=>by simp only[ah,I.wf] at *;obtain ⟨b,off,cs',_,_,h⟩:=h;exact tg c cs' h
 | .func f caps,cs,h=>by simp only[ah,I.wf] at *;obtain ⟨vs,_,h⟩:=h;exact tv caps vs h
 | .iface t v,cs,h=>by simp only[ah,I.wf] at *;obtain ⟨aq,cs',_,_,h⟩:=h;exact tg v cs' h
 | .bool _,_,_ | .nilp,_,_ | .de,_,_ | .dQ,_,_ | .raw _,_,_ | .nils _,_,_ | .c0 _,_,_ | .ptr _ _,_,_ | .own _ _,_,_ | .view _ _ _ _ _,_,_ | .mref _,_,_ | .dj _,_,_ | .cS _ _,_,_ | .undef,_,_ | .db,_,_ | .tuple _,_,_=>by simp[I.wf]
theorem xT{w:World}{D:aQ}{E:aX} : ∀ (xs:List I) (cs:List Value),aH w D E xs cs→I.gR xs
 | [],_,_=>by simp[I.gR]
 |x::xs,cs,h=>by
  simp only[aH,I.gR] at *
  obtain ⟨c1,c2,_,h1,h2⟩:=h
  exact ⟨tg x c1 h1,xT xs c2 h2⟩
theorem tv{w:World}{D:aQ}{E:aX} : ∀ (xs:List I) (vs:List Value),aG w D E xs vs→I.gR xs
 | [],_,_=>by simp[I.gR]
 |x::xs,vs,h=>by
  simp only[aG,I.gR] at *
  obtain ⟨v,rest,cs,_,_,h1,h2⟩:=h
  exact ⟨tg x cs h1,tv xs rest h2⟩
end
theorem ajX{α:Type}[Enc α](l:List α):I.gR (l.map enc)↔∀ x∈l,(enc x:I).wf:=by
 induction l with
 |nil=>simp[I.gR]
 |cons x l ih=>simp[I.gR,ih]
theorem j6{α:Type}[Enc α](l:List α):(enc l:I).wf↔l.length≤maxLen∧∀ x∈l,(enc x:I).wf:=by
 simp only[gJ,I.wf,List.length_map,ajX]
theorem az.wf{P:Program}{f:FuncId}{args:List I}{r:I}(hc:gI P f=true)(h:I.gR args→az P f args r):az P f args r :=
 ⟨hc,fun w D vs h1 h2=>(h (tv _ _ h2)).2 w D vs h1 h2⟩
theorem az.bn{P:Program}{f:FuncId}{fn:Func}{x:aN}{rs:List aZ}{args:List I}{r:I}(hf:P.funcs[f]?=some fn)(hcall:gI P f=true)(hc:(fn.body.bind (eZ P fn.ntmps))=some x)
  (hrs:iB P fn.results.toList=some rs) (hn:args.length≤fn.ntmps) (h:I.gR args→∀ (w:World) (D:aQ) (E:aX),U ⟨P,w,D,fn.ntmps,dm E,E,il,none⟩ x (jq rs r) (av (bg 0 args) [])):az P f args r :=
 az.wf hcall fun hw=>az.mk hf hcall hc hrs hn (h hw)
theorem bI{α:Type}[Enc α] :
  (∀ A (l:List α),jB A (enc l)=some (.int .i64 l.length))∧(∀ n (x:bL n α),(enc x).du=some (x.l.map enc)) :=
 ⟨ago,fun _ _=>rfl⟩
theorem gb:(∀ k n,gC none (some (.int k n))=some (.int k n))∧(∀ b,gC none (some (.bool b))=some (.bool b))∧(∀ z es,gC none (some (.slice z es))=some (.slice z es))∧(∀ f es,gC none (some (.func f es))=some (.func f es)) :=
 ⟨ahP,ahN,ahQ,ahO⟩
end Go.Abs
namespace Go.Abs
open Go Go.RowKit
open Enc (enc)
def pb(neg:Bool):I→Option I
 | .nils _=>some (.bool (!neg))
 | .slice _ es=>if es.isEmpty then none else some (.bool neg)
 | .view _ _ _ _ _=>some (.bool neg)
 |_=>none
def Ir:I→Option I
 | .cX s=>some (.int .i64 s.size)
 |_=>none
open Classical in
noncomputable def nW(n:Nat)(p:List Nat)(sz l0 k esz:Nat)(lo hi mx:Option I):Option (List I)→Option I
 |some fs=>if sz=esz then gP n p sz l0 k fs.length lo hi mx else none
 |none=>none
noncomputable def lC(A:af)(esz:Nat)(lo hi mx:Option I):I→Option I
 | .slice sz es=>if sz=esz then js sz es lo hi mx else none
 | .nils sz=>if sz=esz then js sz [] lo hi mx else none
 | .c0 sz=>if sz=esz then js sz [] lo hi mx else none
 | .view n p sz l0 k=>nW n p sz l0 k esz lo hi mx (ff (eH p (A.o n)))
 |_=>none
open Classical in
noncomputable def hX(esz:Nat):Option (List I)→Option I
 |some es=>if (es.all fun e=>e.size==esz)=true∧I.bV es=true then some (.slice esz es) else none
 |none=>none
open Classical in
noncomputable def pP(A:af)(d:Option Nat)(e esz bytes n l T sz':Nat)(es:List I)(rest:List aB):I→cE
 | .slice sz ys=>if xn e esz bytes l sz ys T sz' es then aC rest ((A.aR n (.bX e esz (es++ys))).aO d (.own n (es.length+ys.length))) else .fail
 |_=>.fail
open Classical in
noncomputable def ox(A:af)(d:Option Nat)(e esz bytes:Nat)(z:I)(n l T:Nat)(xs:List Int)(rest:List aB):I→cE
 | .slice _ ys=>if xp e esz bytes l ys T xs z then aC rest ((A.aR n (.cU e (xs++qd ys))).aO d (.own n (xs.length+ys.length))) else .fail
 |_=>.fail
noncomputable def pO(A:af)(d:Option Nat)(e esz bytes:Nat)(z:I)(n l:Nat)(x:I)(rest:List aB):Option ai→cE
 |some (.bX T sz' es)=>pP A d e esz bytes n l T sz' es rest x
 |some (.cU T xs)=>ox A d e esz bytes z n l T xs rest x
 |_=>.fail
noncomputable def gG(A:af)(d:Option Nat)(e esz bytes:Nat)(z x:I)(rest:List aB):I→cE
 | .own n l=>pO A d e esz bytes z n l x rest (A.o n)
 |s=>eY A d esz bytes z s (ec A esz s) (ec A esz x) (aC rest)
section
variable (d:Option Nat) (rest:List aB) (A:af)
noncomputable def pc(neg:Bool)(x:I):Bool→cE
 |true=>.any (fun m=>m<2) (fun m=>aC rest (A.aO d (.bool (m==0))))
 |false=>cL (pb neg x) (c8 d rest A)
theorem ahx(neg:Bool)(x:aJ):bN A d (.nilS neg x) rest=pc d rest A neg (ae A x) (jK (ae A x)):=by
 simp only[bN,bl,br]
 cases jK (ae A x)
 ·simp only[Bool.false_eq_true,if_false,pc,pb];cases ae A x <;>rfl
 ·rfl
theorem ahp(x:aJ):bN A d (.lenT x) rest=cL (Ir (ae A x)) (c8 d rest A):=by
 simp only[bN,bl,br];cases ae A x <;>rfl
theorem ahC(esz:Nat)(x:aJ)(lo hi mx:Option aJ):bN A d (.sl esz x lo hi mx) rest=cL (lC A esz (lo.map (ae A)) (hi.map (ae A)) (mx.map (ae A)) (ae A x)) (c8 d rest A):=by
 simp only[bN,bl,br]
 cases ae A x <;>try rfl
 rename_i n p sz l0 k
 simp only[lC,kQ,gm]
 cases eH p (A.o n) with
 |none=>rfl
 |some c=>cases c <;>simp only[ff,I.du,nW] <;>(first | rfl | (split <;>rfl))
theorem ag9(esz:Nat)(ps:List aJ):bN A d (.bs esz ps) rest=cL (hX esz (bY false A (ps.map (ae A)))) (c8 d rest A):=by
 simp only[bN,bl,br];cases bY false A (ps.map (ae A)) <;>simp only[hX] <;>rfl
theorem ag4(e esz bytes:Nat)(z:I)(s x:aJ):bN A d (.dq e esz bytes z s x) rest=gG A d e esz bytes z (ae A x) rest (ae A s):=by
 simp only[bN,bl]
 generalize ae A s=s'
 generalize ae A x=x'
 cases s' <;>simp only[gG]
 rename_i n l
 cases x' <;>simp only <;>generalize A.o n=z <;>(cases z with
  |none=>rfl
  |some y=>cases y <;>simp only[pO,pP,ox])
end
theorem Jb :
  (∀ d rest A neg x,bN A d (.nilS neg x) rest=pc d rest A neg (ae A x) (jK (ae A x)))∧(∀ d rest A neg x,pc d rest A neg x false=cL (pb neg x) (c8 d rest A))∧(∀ z,jK (.nils z)=false)∧(∀ n p sz lo k,jK (.view n p sz lo k)=false)∧(∀ d rest A x,bN A d (.lenT x) rest=cL (Ir (ae A x)) (c8 d rest A)) ∧
  (∀ d rest A esz x lo hi mx,bN A d (.sl esz x lo hi mx) rest=cL (lC A esz (lo.map (ae A)) (hi.map (ae A)) (mx.map (ae A)) (ae A x)) (c8 d rest A)) ∧
  (∀ d rest A esz ps,bN A d (.bs esz ps) rest=cL (hX esz (bY false A (ps.map (ae A)))) (c8 d rest A))∧(∀ d rest A e esz bytes z s x,bN A d (.dq e esz bytes z s x) rest=gG A d e esz bytes z (ae A x) rest (ae A s)) ∧
  (∀ A d e esz bytes z x rest n l,gG A d e esz bytes z x rest (.own n l)=pO A d e esz bytes z n l x rest (A.o n))∧(∀ A d e esz bytes z n l x rest T sz es,pO A d e esz bytes z n l x rest (some (.bX T sz es))=pP A d e esz bytes n l T sz es rest x)∧(∀ A d e esz bytes z n l x rest T xs,pO A d e esz bytes z n l x rest (some (.cU T xs))=ox A d e esz bytes z n l T xs rest x) ∧
  (∀ neg z,pb neg (.nils z)=some (.bool (!neg))) :=
 ⟨ahx,fun _ _ _ _ _=>rfl,fun _=>rfl,fun _ _ _ _ _=>rfl,ahp,ahC,ag9,ag4,fun _ _ _ _ _ _ _ _ _ _=>rfl,fun _ _ _ _ _ _ _ _ _ _ _ _ _=>rfl,fun _ _ _ _ _ _ _ _ _ _ _ _=>rfl,fun _ _=>rfl⟩
theorem jF(p:Nat→Bool)(xs ys:List I):I.bU p (xs++ys)=(I.bU p xs&&I.bU p ys):=by
 induction xs with
 |nil=>simp[I.bU]
 |cons x xs ih=>simp[I.bU,ih,Bool.and_assoc]
section
variable {α:Type} [Enc α]
theorem oy{A:af}{d:Option Nat}(e:Nat)(esz bytes n:Nat){l:Nat}{es ys:List α}{rest:List aB}(hl:l=es.length)(hs:Enc.sz α=esz)(hy:ys≠[])(h1:es.length+ys.length≤maxLen)(h2:(es.length+ys.length)*bytes≤140737488355328) :
  pP A d e esz bytes n l e esz (es.map enc) rest (enc ys)=aC rest ((A.aR n (.bX e esz ((es++ys).map enc))).aO d (.own n (es++ys).length)):=by
 simp only[gJ,pP]
 rw[if_pos ⟨by simpa using hl,hs,rfl,rfl,by simpa using hy,by simpa using h1,by simpa using h2⟩]
 simp
theorem mD(esz:Nat){ys:List α}(hs:Enc.sz α=esz):hX esz (some (ys.map enc))=some (enc ys):=by
 have h1:((ys.map enc).all fun e:I=>e.size==esz)=true:=by
  simp only[List.all_eq_true,List.mem_map]
  rintro x ⟨y,_,rfl⟩
  simp[Enc.size,hs]
 simp only[hX,gJ]
 rw[if_pos ⟨h1,ke ys⟩,hs]
theorem ni(esz:Nat)(y:α)(hs:Enc.sz α=esz):hX esz (some [enc y])=some (enc [y]):=mD (ys:=[y]) esz hs
theorem rS(sz:Nat){T k:Nat}{es:List α}(hk:k=es.length)(hs:Enc.sz α=sz):np k (some (.bX T sz (es.map enc)))=some (enc es):=by
 simp only[np,List.length_map]
 rw[if_pos ⟨hk,ke es⟩,gJ,hs]
theorem ev(p:Nat→Bool)(l:List α):I.bU p (l.map enc)=true:=by
 induction l with
 |nil=>rfl
 |cons x l ih=>simp only[List.map_cons,I.bU,bG,ih,Bool.and_self]
end
theorem Ib :
  (∀ n:Int,hX 1 (some [.int .i64 n])=some (enc [n]))∧(∀ (T:Nat) (es:List Int),np es.length (some (.bX T 1 (es.map enc)))=some (enc es)) :=
 ⟨fun n=>ni 1 n rfl,fun _ _=>rS 1 rfl rfl⟩
theorem aI.Oa{A:af}{d n T sz z:Nat}(hd:A.t d=.nils z)(hn:A.o n=none)(hlt:n<1000000):aI A ((A.aR n (.bX T sz [])).put d (.own n 0)):=by
 rintro c a w ⟨D,E,h⟩
 have aw:E n=none:=by have:=h.bQ n;rw[hn] at this;exact this
 have hl:dM w D E w D (fun m=>if m=n then some (.rw none 0) else E m):=by
  have eh:∀ {m:Nat} {e:bR},E m=some e→(if m=n then some (.rw none 0) else E m)=some e:=fun {m e} he=>by
   have:m≠n:=fun e=>by rw[e,aw] at he;cases he
   rw[if_neg this];exact he
  refine ⟨fun _ _ h=>h,fun _ _ _ _ h=>h,fun m b aT he=>eh he,fun m aE l he =>?_,fun m b he=>eh he,fun m b he=>eh he,fun _ _ _ _ h=>h⟩
  ·have:m≠n:=fun e=>by rw[e,aw] at he;cases he
   exact ⟨aE,l,by simp only[if_neg this];exact he,Nat.le_refl _,fun _=>rfl⟩
 refine ⟨D,fun m=>if m=n then some (.rw none 0) else E m,h.sz,h.eG,fun t =>?_,h.dR,h.cZ,h.dc,fun m =>?_,fun m m' e e' b h1 h2 h3 h4 =>?_,fun m e hm =>?_,h.eQ,h.cJ,h.eU,h.fv⟩
 ·simp only[af.put,af.aR]
  by_cases ht:t=d
  ·subst ht
   simp only[if_true]
   have hv:=h.ed t
   rw[hd] at hv
   obtain ⟨cs,q1,q2⟩:=hv
   simp only[ah] at q2
   subst q2
   refine ⟨[.slice none 0 0],by simpa[bJ,I.isAgg] using q1,?_⟩
   simp only[ah,if_true]
   exact ⟨none,0,rfl,Nat.le_refl _,⟨_,_,_,rfl⟩,fun _=>trivial⟩
  ·simp only[if_neg ht]
   exact aW.bK hl (h.ed t)
 ·simp only[af.put,af.aR]
  by_cases hm:m=n
  ·subst hm
   simp only[if_true,c5]
   exact ⟨none,by simp,by simp,trivial⟩
  ·simp only[if_neg hm]
   exact (h.bQ m).bK hl (by simp only[if_neg hm]) fun _ _ _ _=>⟨rfl,fun _ ho=>ho⟩
 ·by_cases hm:m=n <;>by_cases hm':m'=n
  ·rw[hm,hm']
  ·simp only[if_pos hm,Option.some.injEq] at h1;subst h1;simp[bR.aE] at h3
  ·simp only[if_pos hm',Option.some.injEq] at h2;subst h2;simp[bR.aE] at h4
  ·simp only[if_neg hm] at h1;simp only[if_neg hm'] at h2;exact h.cT m m' e e' b h1 h2 h3 h4
 ·have hmn:m≠n:=fun e=>by rw[e,h.jO (.inr hlt)] at hm;cases hm
  simp only[if_neg hmn]
  exact h.dT m e hm
theorem aI.pK{ts:List (Nat×I)}{os:List (Nat×ai)}(d n T sz z:Nat)(hd:b8 ts d=.nils z)(hn:al os n=none){B:af}(h:aI (av ((d,.own n 0)::ts) ((n,.bX T sz [])::os)) B)(hlt:n<1000000:=by decide):aI (av ts os) B :=
 ((aI.Oa (A:=av ts os) (T:=T) (sz:=sz) hd hn hlt).trans (by rw[nG,sI];exact aI.refl _)).trans h
def bL.g{n:Nat}(x:bL n Int)(k:Nat):Int:=x.l.getD k 0
theorem bL.sd{n k:Nat}(x:bL n Int)(h:k<n):x.l[k]'(x.lt h)=x.g k:=by simp[bL.g,x.lt h]
theorem oB{n k:Nat}{p:List Nat}(x:bL n Int)(h:k<n):jw k p (some (x.l.map enc))=(I.int .i64 (x.g k)).at p:=by
 rw[OG h,x.sd h];rfl
theorem sf{n k:Nat}(x:bL n Int)(h:k<n):(x.l.map (enc (α:=Int)))[k]?=some (I.int .i64 (x.g k)):=by
 rw[afa x h,x.sd h];rfl
theorem I3:(∀ k n,bZ none (.int k n)=true)∧(∀ b,bZ none (.bool b)=true)∧(∀ z es,bZ none (.slice z es)=true)∧(∀ f es,bZ none (.func f es)=true)∧(∀ z,bZ none (.nils z)=true)∧(∀ n k,bZ none (.own n k)=true) :=
 ⟨fun _ _=>rfl,fun _=>rfl,fun _ _=>rfl,fun _ _=>rfl,fun _=>rfl,fun _ _=>rfl⟩
theorem ov{p:Nat→Bool}{n:Nat}(h:∀ k,k<n→p k=true):(List.range n).all p=true:=by
 simp only[List.all_eq_true,List.mem_range];exact h
theorem mC{p:Nat→Bool}{n:Nat}(i:Nat)(hi:i<n)(h:p i=false):(List.range n).all p=false:=by
 simp only[List.all_eq_false,List.mem_range];exact ⟨i,hi,by simp[h]⟩
theorem ab:(type_of% @ot)∧(type_of% @Ja)∧(type_of% @Jb)∧(type_of% @Ib)∧(type_of% @I3)∧(type_of% @Mq)∧(type_of% @Cp)∧(type_of% @zj)∧(∀ n:Int,(enc n:I)=.int .i64 n)∧(∀ n:Bool,(enc n:I)=.bool n) ∧
  (∀ {α β:Type} (f:α→β) (x:α) (xs:List α),List.map f (x::xs)=f x::List.map f xs)∧(∀ {α β:Type} (f:α→β),List.map f []=[])∧(∀ {α:Type} (xs:List α),[]++xs=xs)∧(∀ n:Nat,(n:Int).toNat=n)∧(∀ {α β:Type} (f:α→β) (x:α),Option.map f (some x)=some (f x)) ∧
  (∀ n:Nat,0≤(n:Int))∧((!true)=false)∧((!false)=true)∧((false=true)=False)∧((true=false)=False) :=
 ⟨@ot,@Ja,@Jb,@Ib,@I3,@Mq,@Cp,@zj,jN,B7,fun _ _ _=>rfl,fun _=>rfl,fun _=>rfl,fun _=>rfl,fun _ _=>rfl,fun n=>Int.natCast_nonneg n,rfl,rfl,by simp,by simp⟩
end Go.Abs
namespace Go.Abs
open Go Go.RowKit
open Enc (enc)
theorem j8.bn{P:Program}{f:FuncId}{fn:Func}{x:aN}{rs:List aZ}{Y:Value→List I→List (Nat×ai)→cR→Prop}{args:List I}{os:List (Nat×ai)}{post:cR}(hf:P.funcs[f]?=some fn)(hcall:gI P f=true)(hc:(fn.body.bind (eZ P fn.ntmps))=some x)
  (hrs:iB P fn.results.toList=some rs) (hn:args.length≤fn.ntmps) (hn2:fn.ntmps≤1000000) (hos:∀ m,au os m=true→1000000≤m) (h:I.gR args→∀ (w:World) (D:aQ) (E:aX),U ⟨P,w,D,fn.ntmps,dm E,E,Y,none⟩ x (m0 rs post) (av (bg 0 args) os)):j8 P f Y args os post:=by
 obtain ⟨body,hb,hc'⟩:=Option.bind_eq_some_iff.1 hc
 refine ⟨hcall,fun w D E vs hy hD ho hv =>?_⟩
 exact (j8.sT hf hb hcall hc' hrs hn (fun m hm=>⟨Nat.le_trans hn2 (hos m hm),hos m hm⟩) (fun w D E=>(h (tv _ _ hv) w D E).sub (Mc args os))).2 w D E vs hy hD ho hv
theorem cA.bn{P:Program}{f:FuncId}{fn:Func}{x:aN}{rs:List aZ}{args:List I}{os:List (Nat×ai)}{post:cR}(hf:P.funcs[f]?=some fn)(hcall:gI P f=true)(hc:(fn.body.bind (eZ P fn.ntmps))=some x)
  (hrs:iB P fn.results.toList=some rs) (hn:args.length≤fn.ntmps) (hn2:fn.ntmps≤1000000) (hos:∀ m,au os m=true→1000000≤m) (h:I.gR args→∀ (w:World) (D:aQ) (E:aX),U ⟨P,w,D,fn.ntmps,dm E,E,il,none⟩ x (m0 rs post) (av (bg 0 args) os)):cA P f args os post :=
 cA.IS (j8.bn hf hcall hc hrs hn hn2 hos h)
theorem p8{A:af} : ∀ n x,al [] n=some x→A.o n=some x∧x.only (au [])=true∧x.eC=true:=fun n x h=>by simp[al] at h
theorem jQ{A:af}{k:Nat}{c:I}(h1:A.o k=some (.box c))(h2:∀ p,c.only p=true):∀ n x,al [(k,.box c)] n=some x→A.o n=some x∧x.only (au [(k,.box c)])=true∧x.eC=true:=fun n x h=>by
 simp only[al] at h
 split at h
 ·rename_i hn
  subst hn
  simp only[Option.some.injEq] at h
  subst h
  exact ⟨h1,h2 _,rfl⟩
 ·cases h
theorem dn.nil{aD:Bool}{ρ:List (Nat×Nat)}{os0:List (Nat×ai)}{r:I}(h1:∀ p,r.only p=true)(h2:aD=true→r.cP=true):dn aD ρ [] os0 r [] :=
 ⟨fun m x h=>by simp[al] at h,fun m m' h=>by simp[au,al] at h,fun m h=>by simp[au,al] at h,fun m h=>by simp[au,al] at h,h1 _,h2⟩
theorem cV{k:Nat}{x:ai}{m:Nat} : au [(k,x)] m=true↔m=k:=by
 simp only[au,al];split <;>simp_all
theorem dn.o9{aD:Bool}{k d:Nat}{os0:List (Nat×ai)}{r c:I}(h1:∀ p,c.only p=true)(h2:aD=true→c.cP=true)(h3:r.only (au [(k,.box c)])=true)(h4:aD=true→r.cP=true)(h5:al os0 d=none)(h6:d<1000000):dn aD [(k,d)] [] os0 r [(k,.box c)]:=by
 refine ⟨fun m x h =>?_,fun m m' h h' _ =>?_,fun m h=>by simp[au,al] at h,fun m h _ =>?_,h3,h4⟩
 ·simp only[al] at h
  split at h
  ·simp only[Option.some.injEq] at h;subst h;exact ⟨h1 _,rfl,h2⟩
  ·cases h
 ·rw[cV.1 h,cV.1 h']
 ·rw[cV.1 h];simp[bF,h5,h6]
theorem dn.one{aD:Bool}{k d:Nat}{x:ai}{os0:List (Nat×ai)}{r c:I}(h1:∀ p,c.only p=true)(h2:aD=true→c.cP=true)(h3:r.only (au [(k,.box c)])=true)(h4:aD=true→r.cP=true):dn aD [(k,d)] [(k,x)] os0 r [(k,.box c)]:=by
 refine ⟨fun m x h =>?_,fun m m' h h' _ =>?_,fun m h =>?_,fun m h h' =>?_,h3,h4⟩
 ·simp only[al] at h
  split at h
  ·simp only[Option.some.injEq] at h;subst h;exact ⟨h1 _,rfl,h2⟩
  ·cases h
 ·rw[cV.1 h,cV.1 h']
 ·rw[cV.1 h];exact cV.2 rfl
 ·rw[cV.1 h] at h'
  have:au [(k,x)] k=true:=cV.2 rfl
  rw[this] at h';cases h'
theorem fy.nil{ρ:List (Nat×Nat)}{os0:List (Nat×ai)} : fy ρ [] os0:=⟨fun m x h=>by simp[al] at h,fun m m' h=>by simp[au,al] at h⟩
mutual
theorem qD(ρ:Nat→Nat):∀ x:I,x.bu=true→x.aS ρ=x
 | .agg fs,h=>by simp only[I.aS,I.bu] at *;rw[nO ρ fs h]
 | .slice _ es,h=>by simp only[I.aS,I.bu] at *;rw[nO ρ es h]
 | .ref x,h=>by simp only[I.aS,I.bu] at *;rw[qD ρ x h]
 | .func _ caps,h=>by simp only[I.aS,I.bu] at *;rw[nO ρ caps h]
 | .iface _ v,h=>by simp only[I.aS,I.bu] at *;rw[qD ρ v h]
 | .bool _,_ | .int _ _,_ | .cX _,_ | .nilp,_ | .de,_ | .dQ,_ | .raw _,_ | .nils _,_ | .c0 _,_=>by simp only[I.aS]
 | .cS ks vs,h=>by simp only[I.aS,I.bu,Bool.and_eq_true] at *;rw[nO ρ ks h.1,nO ρ vs h.2]
 | .ptr _ _,h | .own _ _,h | .view _ _ _ _ _,h | .mref _,h | .dj _,h | .undef,h | .db,h | .tuple _,h=>by simp[I.bu] at h
theorem nO(ρ:Nat→Nat):∀ xs:List I,I.bV xs=true→I.cW ρ xs=xs
 | [],_=>rfl
 |x::xs,h=>by
  simp only[I.bV,Bool.and_eq_true] at h
  simp only[I.cW,qD ρ x h.1,nO ρ xs h.2]
end
theorem fK :
  (∀ (k:IntKind) n (ρ:Nat→Nat),(I.int k n).aS ρ=.int k n)∧(∀ (b:Bool) (ρ:Nat→Nat),(I.bool b).aS ρ=.bool b)∧(∀ n p (ρ:Nat→Nat),(I.ptr n p).aS ρ=.ptr (ρ n) p) ∧
  (∀ n p sz lo k (ρ:Nat→Nat),(I.view n p sz lo k).aS ρ=.view (ρ n) p sz lo k)∧(∀ fs (ρ:Nat→Nat),(I.agg fs).aS ρ=.agg (I.cW ρ fs))∧(∀ fs (ρ:Nat→Nat),(I.tuple fs).aS ρ=.tuple (I.cW ρ fs))∧(∀ f fs (ρ:Nat→Nat),(I.func f fs).aS ρ=.func f (I.cW ρ fs)) ∧
  (∀ ρ:Nat→Nat,I.cW ρ []=[])∧(∀ (ρ:Nat→Nat) x xs,I.cW ρ (x::xs)=x.aS ρ::I.cW ρ xs)∧(∀ (ρ:Nat→Nat) (x:I),(ai.box x).aS ρ=.box (x.aS ρ)) ∧
  (∀ (z:Nat) (ρ:Nat→Nat),(I.nils z).aS ρ=.nils z)∧(∀ (z:Nat) (ρ:Nat→Nat),(I.c0 z).aS ρ=.c0 z) ∧
  (∀ n,bF [] n=n)∧(∀ a b r n,bF ((a,b)::r) n=if n=a then b else bF r n)∧(∀ ρ,dF ρ []=[])∧(∀ ρ k x os,dF ρ ((k,x)::os)=(bF ρ k,x.aS (bF ρ))::dF ρ os) :=
 ⟨fun _ _ _=>by simp only[I.aS],fun _ _=>by simp only[I.aS],fun _ _ _=>by simp only[I.aS],fun _ _ _ _ _ _=>by simp only[I.aS],fun _ _=>by simp only[I.aS],fun _ _=>by simp only[I.aS],fun _ _ _=>by simp only[I.aS],
  fun _=>rfl,fun _ _ _=>by simp only[I.cW],fun _ _=>rfl,fun _ _=>by simp only[I.aS],fun _ _=>by simp only[I.aS],fun _=>rfl,fun _ _ _ _=>rfl,fun _=>rfl,fun _ _ _ _=>rfl⟩
section
variable {α:Type} [Enc α]
theorem gL(ρ:Nat→Nat)(x:α):(enc x).aS ρ=enc x:=qD ρ _ (dO x)
theorem fS(ρ:Nat→Nat)(l:List α):I.cW ρ (l.map enc)=l.map enc:=nO ρ _ (ke l)
class nc (α:Type) [Enc α]:Prop where
 cP:∀ x:α,(enc x).cP=true
theorem B8[nc α](x:α):(enc x).cP=true:=nc.cP x
theorem wX[nc α](l:List α):I.iK (l.map enc)=true:=by
 induction l with
 |nil=>rfl
 |cons x l ih=>simp only[List.map_cons,I.iK,B8,ih,Bool.and_self]
instance:nc Int:=⟨fun _=>rfl⟩
instance {n:Nat} [nc α]:nc (bL n α):=⟨fun x=>by simp only[enc,I.cP];exact wX x.l⟩
theorem nX(A:af)(esz:Nat)(l:List α)(hs:Enc.sz α=esz):ec A esz (enc l)=some (l.map enc):=by
 simp only[gJ,ec,hs,if_true]
theorem tG(l:List α):jK (enc l)=l.isEmpty:=by
 simp only[gJ,jK];cases l <;>rfl
theorem II(neg:Bool)(l:List α)(h:l≠[]):pb neg (enc l)=some (.bool neg):=by
 simp only[gJ,pb]
 cases l with
 |nil=>exact absurd rfl h
 |cons=>rfl
section
variable {P:Program} {Y:Value→List I→List (Nat×ai)→cR→Prop} {K:af→Prop} {A:af} {rest:List aB} {d:Nat} {e esz bytes:Nat} {q:Nat}
theorem a6.pN(z:α){l:List α}(hs:Enc.sz α=esz)(hl:l≠[])(hf:A.o d=none)(hb:l.length*bytes≤140737488355328)(hml:l.length≤maxLen)
  (h:∀ m,a6 P Y false K (aC rest ((A.aR d (.box (.agg ((l++List.replicate m z).map enc)))).aO (some d) (.view d [] esz 0 l.length)))):a6 P Y false K (gG A (some d) e esz bytes (enc z) (enc l) rest (.c0 q)):=by
 have hne:l.map (enc (α:=α))≠[]:=by simpa using hl
 have h1:ec A esz (.c0 q)=some []:=rfl
 simp only[gG,h1,nX A esz l hs,eY,if_neg hne,fM,hf,List.length_nil,Nat.zero_add,List.length_map,if_pos (And.intro hb hml),List.nil_append]
 refine .any rfl fun m _ =>?_
 have:=h m
 simp only[List.map_append,List.map_replicate] at this
 exact this
theorem Ov(z:I)(hs:Enc.sz α=esz):gG A (some d) e esz bytes z (enc ([]:List α)) rest (.c0 q)=aC rest (A.aO (some d) (.c0 q)):=by
 have h1:ec A esz (.c0 q)=some []:=rfl
 simp only[gG,h1,nX A esz ([]:List α) hs,eY,List.map_nil,if_true]
theorem ahd(esz:Nat)(z:I)(x:aJ)(rest:List aB)(A:af):bN A none (.jb esz z x) rest=mF A esz z (aC rest) (ae A x):=rfl
theorem ajg(z:α)(k:Nat):I.cM (List.replicate k (enc z))=List.replicate k (Enc.aT α):=by
 have:List.replicate k (enc z)=(List.replicate k z).map (enc (α:=α)):=by simp
 rw[this,qJ];simp
theorem uL(z:α){n lo k:Nat}{xs:List α}(ho:A.o n=some (.box (.agg (xs.map enc))))(hk:lo+k≤xs.length) :
  mF A esz (enc z) (aC rest) (.view n [] esz lo k)=aC rest (A.aR n (.box (.agg ((xs.take lo++(List.replicate k z++xs.drop (lo+k))).map enc)))):=by
 have h1:I.cM (List.replicate k (enc z))=I.cM (((xs.map (enc (α:=α))).drop lo).take k):=by
  rw[ajg,←List.map_drop,←List.map_take,qJ,List.length_take,List.length_drop]
  congr 1;omega
 have h2:(I.agg (xs.map (enc (α:=α)))).at []=some (.agg (xs.map enc)):=rfl
 simp only[mF,ho,h2]
 rw[if_pos ⟨rfl,h1⟩]
 simp only[gV,gh,List.map_append,List.map_take,List.map_drop,List.map_replicate,List.length_replicate]
theorem qK{n:Nat}{p:List Nat}{sz k total i:Nat}(h:i≤total)(h0:0<total):gP n p sz 0 k total none (some (.int .i64 i)) none=some (.view n p sz 0 i):=by
 simp only[gP,gT]
 rw[if_pos ⟨by omega,by omega,by omega⟩,if_neg (by omega)]
 simp
theorem lD{n:Nat}{p:List Nat}{sz k total i:Nat}(h:i≤k)(hk:k≤total)(h0:i<total):gP n p sz 0 k total (some (.int .i64 i)) none none=some (.view n p sz i (k-i)):=by
 simp only[gP,gT]
 rw[if_pos ⟨by omega,by omega,by omega⟩,if_neg (by omega)]
 simp
theorem wR{m:Nat}{p:List Nat}{sz lo l j:Nat}{fs:List I}(h:j<l):lh m p sz lo l sz (j:Int) (some fs)=some (.ptr m (p++[lo+j])):=by
 simp only[lh,true_and]
 rw[if_pos ⟨by omega,by omega⟩]
 simp
theorem pZ{sz k:Nat}{xs:List α}(hs:Enc.sz α=sz):kW sz 0 k (some (xs.map enc))=some (enc (xs.take k)):=by
 have h:((xs.map (enc (α:=α))).drop 0).take k=(xs.take k).map enc:=by rw[List.drop_zero,List.map_take]
 simp only[kW,h]
 rw[if_pos (ke _),gJ,hs]
end
end
theorem afT(A:af)(esz m:Nat)(p:List Nat)(sz lo l:Nat)(k:Int):jf A esz k (.view m p sz lo l)=lh m p sz lo l esz k (ff (eH p (A.o m))):=rfl
theorem agp(A:af)(m:Nat)(p:List Nat)(sz lo l:Nat):jB A (.view m p sz lo l)=some (.int .i64 l):=rfl
theorem aji(A:af)(esz:Nat)(lo hi mx:Option I)(n:Nat)(p:List Nat)(l0 k:Nat):lC A esz lo hi mx (.view n p esz l0 k)=nW n p esz l0 k esz lo hi mx (ff (eH p (A.o n))):=rfl
theorem ajj(n:Nat)(p:List Nat)(sz l0 k:Nat)(lo hi mx:Option I)(fs:List I):nW n p sz l0 k sz lo hi mx (some fs)=gP n p sz l0 k fs.length lo hi mx:=by simp[nW]
theorem c9 :
  (∀ A esz m p sz lo l k,jf A esz k (.view m p sz lo l)=lh m p sz lo l esz k (ff (eH p (A.o m))))∧(∀ A m p sz lo l,jB A (.view m p sz lo l)=some (.int .i64 l)) ∧
  (∀ A esz lo hi mx n p l0 k,lC A esz lo hi mx (.view n p esz l0 k)=nW n p esz l0 k esz lo hi mx (ff (eH p (A.o n))))∧(∀ n p sz l0 k lo hi mx fs,nW n p sz l0 k sz lo hi mx (some fs)=gP n p sz l0 k fs.length lo hi mx) ∧
  (∀ esz z x rest A,bN A none (.jb esz z x) rest=mF A esz z (aC rest) (ae A x))∧(∀ rest A d esz,bN A d (.bs0 esz) rest=aC rest (A.aO d (.c0 esz))) :=
 ⟨afT,agp,aji,ajj,ahd,fun _ _ _ _=>rfl⟩
theorem eL(rs:List aZ)(post:cR)(A:af):m0 rs post .ret A=kH rs post A:=rfl
theorem ly(rs:List aZ)(post:cR)(A:af):m0 rs post .normal A=kH rs post A:=rfl
theorem aI.ik{ts:List (Nat×I)}{os0:List (Nat×ai)}(ns:List Nat)(d:Nat){x y:I}(hd:b8 ts d=x)(h:bp true (av ts (iJ ns os0)) x=some y)(ho:bD (fun n => !ns.contains n) (c4 ns os0)) :
  aI (av ts os0) (av ((d,y)::fW ns ts) (c4 ns os0)):=by
 rintro c a w ⟨D,E,hs⟩
 obtain ⟨D1,E1,hs1,hw⟩:=hs.CC ns ho
 have hu:ee (av ts (iJ ns os0)) (av ts os0):=fun n z hz=>by
  simp only[av,nE] at hz ⊢
  split at hz
  ·exact hz
  ·cases hz
 have hx:x.cq=true:=by cases x <;>first | rfl | simp[bp] at h
 have hv:=hs.ed d
 simp only[av] at hv
 rw[hd] at hv
 have h1:aG w D E [x] [a.tmps.getD d undef]:=mf [x] _ (.cons hv .nil) (by intro z hz;simp only[List.mem_singleton] at hz;subst hz;exact hx)
 have h2:=lQ (E':=E1) hs hu hw [x] [y] _ h1 (by simp only[bY,h])
 have h3:aW w D1 E1 y (a.tmps.getD d undef):=by
  simp only[aG] at h2
  obtain ⟨v',rest,cs,e,k1,k2,_⟩:=h2
  simp only[List.cons.injEq] at e
  obtain ⟨e1,_⟩:=e
  rw[e1]
  exact lX k1 k2
 refine ⟨D1,E1,hs1.sz,hs1.eG,fun t =>?_,hs1.dR,hs1.cZ,hs1.dc,hs1.bQ,hs1.cT,hs1.dT,hs1.eQ,hs1.cJ,hs1.eU,hs1.fv⟩
 simp only[av,b8]
 split
 ·rename_i ht;subst ht;exact h3
 ·exact hs1.ed t
theorem aI.nt{ts ts':List (Nat×I)}{os0 os':List (Nat×ai)}(ns:List Nat)(d:Nat){x y:I}(hd:b8 ts d=x)(h:bp true (av ts (iJ ns os0)) x=some y)(ho:bD (fun n => !ns.contains n) (c4 ns os0))
  (h1:bd ((d,y)::fW ns ts) ts') (h2:bT (c4 ns os0) os') (h3:bS (au os') ts') (h4:bD (au os') os'):aI (av ts os0) (av ts' os') :=
 (aI.ik ns d hd h ho).trans (aI.b9 h1 h2 h3 h4)
theorem U.og{c:cQ}{Q:Exit→af→Prop}{A:af}{x:aN}(T:af)(h1:U c x (ay (fun B=>aI B T) fun _ _=>False) A)(h2:∀ B,aI B T→Q .normal B):U c x Q A :=
 h1.mono fun e B hq=>by
  cases e <;>simp only[ay] at hq <;>first
   |exact h2 B hq
   |exact hq.elim
theorem Ll{w:World}{D:aQ}{E:aX}{p:List Nat}{c x y:I}{cs:List Value}(hr:ah w D E c cs)(h:c.at p=some x)(hxy:∀ ds,ah w D E x ds→ah w D E y ds)(hs:y.aT=x.aT):ah w D E (c.dK p y) cs∧(c.dK p y).aT=c.aT:=by
 obtain ⟨off,c1,c2,c3,h1,rfl,h2,h3⟩:=xS p c x cs hr h
 obtain ⟨off',k1,k2,k3,k4⟩:=tf p c x y _ c2 hr h (hxy c2 h3) hs
 rw[h1,Option.some.injEq] at k1
 subst k1
 refine ⟨?_,k4⟩
 have e:(c1++c2++c3).take off++c2++(c1++c2++c3).drop (off+c2.length)=c1++c2++c3:=by
  rw[List.append_assoc c1 c2 c3,←h2,List.take_left,List.drop_length_add_append,List.drop_left,List.append_assoc]
 rw[←e];exact k3
theorem aI.Ob{A:af}{m n T sz z:Nat}{p:List Nat}{b:I}(hm:A.o m=some (.box b))(hp:b.at p=some (.nils z))(hn:A.o n=none)(hlt:n<1000000):aI A ((A.aR n (.bX T sz [])).aR m (.box (b.dK p (.own n 0)))):=by
 rintro c a w ⟨D,E,h⟩
 have aw:E n=none:=by have:=h.bQ n;rw[hn] at this;exact this
 have hmn:m≠n:=fun e=>by rw[e,hn] at hm;cases hm
 have hl:dM w D E w D (fun m=>if m=n then some (.rw none 0) else E m):=by
  have eh:∀ {m:Nat} {e:bR},E m=some e→(if m=n then some (.rw none 0) else E m)=some e:=fun {m e} he=>by
   have:m≠n:=fun e=>by rw[e,aw] at he;cases he
   rw[if_neg this];exact he
  refine ⟨fun _ _ h=>h,fun _ _ _ _ h=>h,fun m b aT he=>eh he,fun m aE l he =>?_,fun m b he=>eh he,fun m b he=>eh he,fun _ _ _ _ h=>h⟩
  ·have:m≠n:=fun e=>by rw[e,aw] at he;cases he
   exact ⟨aE,l,by simp only[if_neg this];exact he,Nat.le_refl _,fun _=>rfl⟩
 refine ⟨D,fun m=>if m=n then some (.rw none 0) else E m,h.sz,h.eG,fun t=>aW.bK hl (h.ed t),h.dR,h.cZ,h.dc,fun k =>?_,fun m m' e e' b h1 h2 h3 h4 =>?_,fun m e hm =>?_,h.eQ,h.cJ,h.eU,h.fv⟩
 ·simp only[af.aR]
  by_cases hk:k=m
  ·subst hk
   have ho:=h.bQ k
   rw[hm] at ho
   obtain ⟨b',cs,T',h1,h2,h3,h4,h5⟩:=ho
   obtain ⟨q1,q2⟩:=Ll (y:=.own n 0) (ah.bK hl _ _ h4) hp (fun ds hd=>by
    simp only[ah] at hd
    subst hd
    simp only[ah,if_true]
    exact ⟨none,0,rfl,Nat.le_refl _,⟨_,_,_,rfl⟩,fun _=>trivial⟩) rfl
   simp only[if_true,c5]
   exact ⟨b',cs,T',by rw[q2];simp only[if_neg hmn];exact h1,h2,h3,q1,h5⟩
  ·simp only[if_neg hk]
   by_cases hkn:k=n
   ·subst hkn
    simp only[if_true,c5]
    exact ⟨none,by simp,by simp,trivial⟩
   ·simp only[if_neg hkn]
    exact (h.bQ k).bK hl (by simp only[if_neg hkn]) fun _ _ _ _=>⟨rfl,fun _ ho=>ho⟩
 ·by_cases hm:m=n <;>by_cases hm':m'=n
  ·rw[hm,hm']
  ·simp only[if_pos hm,Option.some.injEq] at h1;subst h1;simp[bR.aE] at h3
  ·simp only[if_pos hm',Option.some.injEq] at h2;subst h2;simp[bR.aE] at h4
  ·simp only[if_neg hm] at h1;simp only[if_neg hm'] at h2;exact h.cT m m' e e' b h1 h2 h3 h4
 ·have hmn:m≠n:=fun e=>by rw[e,h.jO (.inr hlt)] at hm;cases hm
  simp only[if_neg hmn]
  exact h.dT m e hm
theorem aI.Oc{ts:List (Nat×I)}{os:List (Nat×ai)}(m n T sz z:Nat)(p:List Nat)(b:I)(hm:al os m=some (.box b))(hp:b.at p=some (.nils z))(hn:al os n=none){B:af}(h:aI (av ts ((m,.box (b.dK p (.own n 0)))::(n,.bX T sz [])::os)) B)(hlt:n<1000000:=by decide):aI (av ts os) B :=
 ((aI.Ob (A:=av ts os) (T:=T) (sz:=sz) hm hp hn hlt).trans (by rw[nG,nG];exact aI.refl _)).trans h
end Go.Abs
