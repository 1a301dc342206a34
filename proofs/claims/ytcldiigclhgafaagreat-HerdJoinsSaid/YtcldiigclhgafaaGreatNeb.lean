/-
  A part of the proof that the law HerdJoins returns true for every input; conditions: none beyond the statement's own. (part 2 of 7)
-/
import Derived.Maps.RangeRun
import Derived.Laws.MakeOwn
import Derived.Orders
import Derived.OrdersIn
import Derived.Test.YtcldiigclhgafaaGreatNea
set_option linter.unusedSimpArgs false
set_option linter.unusedVariables false
set_option maxHeartbeats 16000000
set_option maxRecDepth 100000
namespace Go.Abs
open Go Go.RowKit
theorem DE{w:World}{D:aN}{E:aZ} : ∀ (l:List cM) (xs ys:List I) (cs ds:List Value),l.all xV=true→iY l xs ys=some true→aG w D E xs cs→aG w D E ys ds→xs=ys∧cs=ds∧∀ v∈cs,∃ k n,v=.int k n
 | [],xs,ys,cs,ds,_,h,hx,hy=>by
  simp only[iY] at h
  split at h
  ·simp only[aG] at hx hy;subst hx hy;exact ⟨rfl,rfl,fun v hv=>by simp at hv⟩
  ·cases h
 |t::ts,xs,ys,cs,ds,ha,h,hx,hy=>by
  simp only[List.all_cons,Bool.and_eq_true] at ha
  simp only[iY] at h
  split at h
  case h_2=>cases h
  rename_i f fs g gs
  unfold iF at h
  split at h
  case h_2=>cases h
  rename_i a b h1 h2
  simp only[Option.some.injEq,Bool.and_eq_true] at h
  obtain ⟨rfl,rfl⟩:=h
  simp only[aG] at hx hy
  obtain ⟨c1,c2,rfl,p1,p2⟩:=hx
  obtain ⟨d1,d2,rfl,q1,q2⟩:=hy
  obtain ⟨rfl,rfl,k3⟩:=DE ts fs gs c2 d2 ha.2 h2 p2 q2
  cases t with
  |i k =>
   simp only[cu] at h1
   split at h1
   case h_2=>cases h1
   rename_i k1 a k2 b
   split at h1
   case isFalse=>cases h1
   rename_i hk
   simp only[Option.some.injEq,beq_iff_eq] at h1
   subst h1
   obtain ⟨rfl,rfl⟩:=hk
   simp only[ah] at p1 q1
   obtain ⟨rfl,_⟩:=p1
   obtain ⟨rfl,_⟩:=q1
   refine ⟨rfl,rfl,fun v hv =>?_⟩
   rcases List.mem_append.1 hv with hv | hv
   ·simp at hv;exact ⟨_,_,hv⟩
   ·exact k3 v hv
  |b | s | bu _ | jO _ _=>simp[xV] at ha
theorem Ov:∀ (cs:List Value) (n:Nat),(∀ v∈cs,∃ k m,v=.int k m)→((cs.zip cs).all fun (x,y)=>Instr.sameBits n x y)=true
 | [],_,_=>rfl
 |v::cs,n,h=>by
  obtain ⟨k,m,rfl⟩:=h v (by simp)
  simp only[List.zip_cons_cons,List.all_cons,Bool.and_eq_true]
  exact ⟨by cases n <;>simp[Instr.sameBits],Ov cs n fun v hv=>h v (by simp[hv])⟩
theorem ahT{P:Program}{t:TypeId}{ty:cM}{w:World}{D:aN}{E:aZ}{x y:I}{u v:Value}(hk:lX P t=some ty)(h:cu ty x y=some true)(hx:aW w D E x u)(hy:aW w D E y v):x=y∧u=v∧Instr.sameBits 10000 u v=true:=by
 unfold lX at hk
 split at hk
 ·rename_i k hu
  simp only[Option.some.injEq] at hk
  subst hk
  simp only[cu] at h
  split at h
  case h_2=>cases h
  split at h
  case isFalse=>cases h
  rename_i hk
  simp only[Option.some.injEq,beq_iff_eq] at h
  subst h
  obtain ⟨rfl,rfl⟩:=hk
  rw[(fy hx).1,(fy hy).1]
  exact ⟨rfl,rfl,by simp[Instr.sameBits]⟩
 ·rename_i fs hu
  split at hk
  case h_2=>cases hk
  rename_i l hl
  split at hk
  case isFalse=>cases hk
  rename_i hc
  simp only[Option.some.injEq] at hk
  subst hk
  simp only[cu] at h
  split at h
  case h_2=>cases h
  rename_i xs ys
  obtain ⟨cs,rfl,hc1⟩:=jI hx
  obtain ⟨ds,rfl,hd1⟩:=jI hy
  obtain ⟨rfl,rfl,h3⟩:=DE l xs ys cs ds hc.1 h hc1 hd1
  refine ⟨rfl,rfl,?_⟩
  simp only[Instr.sameBits,beq_self_eq_true,Bool.true_and]
  exact Ov cs _ h3
 ·cases hk
section
variable {P:Program} {w:World} {D:aN} {E:aZ}
theorem C0{t:TypeId}{ty:cM}{em:Bool}{x y:I}{v:Value}{r:Bool}(hk:lX P t=some ty)(hx:aW w D E x v)(h:cu ty x y=some r)(n:Nat):(Instr.checkKey em (n+2) t v).run P w=.ok () w:=by
 unfold lX at hk
 split at hk
 ·rename_i k hu
  simp only[Option.some.injEq] at hk
  subst hk
  simp only[cu] at h
  split at h
  case h_2=>cases h
  rename_i k1 a k2 b
  split at h
  case isFalse=>cases h
  rename_i hq
  rw[(fy hx).1,hq.1]
  exact MapKept.run_checkKey hu (by simp[MapKept.IsKey]) em (n+1)
 ·rename_i fs hu
  split at hk
  case h_2=>cases hk
  rename_i l hl
  split at hk
  case isFalse=>cases hk
  rename_i hc
  simp only[Option.some.injEq] at hk
  subst hk
  simp only[cu] at h
  split at h
  case h_2=>cases h
  rename_i xs ys
  obtain ⟨cs,rfl,hc1⟩:=jI hx
  obtain ⟨d,hd⟩:∃ d,d=11:=⟨_,rfl⟩
  rw[show (12:Nat)=d+1 from by omega] at hl
  simp only[gM,hu] at hl
  split at hl
  case isFalse=>cases hl
  rename_i hc2
  simp only[Option.map_eq_some_iff,cM.bu.injEq] at hl
  obtain ⟨l',hl,rfl⟩:=hl
  rw[show n+2=(n+1)+1 from rfl,Instr.checkKey]
  simp only[Sem.run_bind,run_underlying hu,Result.andThen_ok]
  rw[←Array.forIn_toList]
  have key:∀ (ay:List Field) (l:List cM) (xs ys:List I) (r:Bool) (c1 c2:List Value),
    (ay.mapM fun f=>match gM P d f.type with
     |some ty=>if ty.size=P.cellsOf f.type then some ty else none
     | none => none) = some l → (∀ f ∈ ay, f.name ≠ "_" ∧ rr (P.underlying f.type) = true) → qf P c1.length ay = true → aG w D E xs c2 → iY l xs ys = some r → c1 ++ c2 = cs →
    Sem.run P (forIn ay PUnit.unit (fun (f : Field) (_ : PUnit) => (if f.name ≠ "_" then (do
     let x ←part f.type cs.toArray f.offset
     Instr.checkKey em (n+1) f.type x
     pure (ForInStep.yield PUnit.unit)) else pure (ForInStep.yield PUnit.unit):Sem (ForInStep PUnit)))) w=.ok PUnit.unit w:=by
   intro ay
   induction ay with
   |nil=>intros;simp
   |cons f ay ih =>
    intro l xs ys r c1 c2 hm hn ho hx h htot
    simp only[List.mapM_cons,Option.bind_eq_bind,Option.pure_def,Option.bind_eq_some_iff,Option.some.injEq] at hm
    obtain ⟨ty,hty,tys,htys,rfl⟩:=hm
    split at hty
    case h_2=>cases hty
    rename_i ty' hd'
    split at hty
    case isFalse=>cases hty
    rename_i hsz
    simp only[Option.some.injEq] at hty
    subst hty
    simp only[iY] at h
    split at h
    case h_2=>cases h
    rename_i x xs y ys
    unfold iF at h
    split at h
    case h_2=>cases h
    rename_i ra rb h1 h2
    simp only[aG] at hx
    obtain ⟨e1,e2,rfl,k1,k2⟩:=hx
    obtain ⟨s,q1,q2,q3⟩:=v7 hd' hsz h1
    obtain ⟨u,p1,p2⟩:=oV (P:=P) (w:=w) (c1:=c1) (c3:=e2) q1 q2 k1
    simp only[qf,Bool.and_eq_true,beq_iff_eq] at ho
    have hsx:=pJ ty' x y ra h1
    have hle:e1.length=P.cellsOf f.type:=by rw[ah.length _ _ k1,hsx.1,hsz]
    have ih':=ih tys xs ys rb (c1++e1) e2 htys (fun g hg=>hn g (by simp[hg])) (by simp only[List.length_append,hle];exact ho.2) k2 h2 (by rw[←htot];simp)
    rw[List.append_assoc,htot,←ho.1] at p1
    obtain ⟨hnm,hint⟩:=hn f (by simp)
    have hck:(Instr.checkKey em (n+1) f.type u).run P w=.ok () w:=by
     cases hu:P.underlying f.type with
     |none=>simp[hu,rr] at hint
     |some dd =>
      cases dd <;>simp[hu,rr] at hint
      rename_i q
      have hti:ty'=.i q:=by
       rw[show d=10+1 from by omega] at hd'
       unfold gM at hd'
       simp only[hu,Option.some.injEq] at hd'
       exact hd'.symm
      subst hti
      simp only[cu] at h1
      split at h1
      case h_2=>cases h1
      split at h1
      case isFalse=>cases h1
      rename_i hq
      rw[(fy p2).1,hq.1]
      exact MapKept.run_checkKey hu (by simp[MapKept.IsKey]) em n
    simp only[List.forIn_cons,Sem.run_bind,hnm,ne_eq,not_false_eq_true,if_true,p1,Result.andThen_ok,hck,Sem.run_pure]
    exact ih'
  rw[key fs.toList l' xs ys r [] cs hl (fun f hf=>⟨by simpa using List.all_eq_true.1 hc2.2.1 f hf,Array.all_eq_true_iff_forall_mem.1 hc.2 f (Array.mem_toList_iff.1 hf)⟩) hc2.2.2 hc1 h rfl]
  simp
 ·cases hk
theorem zu{x:I}{xs:List I}{vs:List Value}(h:aF w D E (x::xs) vs):∃ v rest,vs=v::rest∧aW w D E x v∧aF w D E xs rest:=by
 simp only[aF] at h
 obtain ⟨v,rest,cs,rfl,h1,h2,h3⟩:=h
 exact ⟨v,rest,rfl,mO h1 h2,h3⟩
def pk(r:Option Nat)(es:List MapEntry)(i:Nat)(q:Option (Nat×Value)):Prop :=
 (r=none∧q=none)∨∃ j e,r=some (i+j)∧es[j]?=some e∧q=some (i+j,e.val)
theorem pk.step{r:Option Nat}{es:List MapEntry}{e:MapEntry}{i:Nat}{q:Option (Nat×Value)}(h:pk r es (i+1) q):pk r (e::es) i q:=by
 rcases h with h | ⟨j,e',h1,h2,h3⟩
 ·exact .inl h
 ·exact .inr ⟨j+1,e',by rw[h1];congr 1;omega,by simpa using h2,by rw[h3];congr 2;omega⟩
theorem DZ{q:IntKind}{k:I}{v:Value}(hv:aW w D E k v):∀ (ks:List I) (es:List MapEntry) (i:Nat) (r:Option Nat),aF w D E ks (es.map (·.key))→fc (.i q) k ks i=some r →
  ∃ x,Instr.findNow (.int q) v es i=some x∧pk r es i x
 | [],es,i,r,hk,h=>by
  simp only[fc,Option.some.injEq] at h
  simp only[aF,List.map_eq_nil_iff] at hk
  subst h hk
  exact ⟨none,rfl,.inl ⟨rfl,rfl⟩⟩
 |x::ks,es,i,r,hk,h=>by
  obtain ⟨u,rest,e1,hu,hr⟩:=zu hk
  cases es with
  |nil=>cases e1
  |cons e es =>
   simp only[List.map_cons,List.cons.injEq] at e1
   obtain ⟨rfl,rfl⟩:=e1
   simp only[fc] at h
   have same:∀ b,cu (.i q) k x=some b→Instr.sameNow (.int q) v e.key=some b:=fun b hb=>by
    simp only[cu] at hb
    split at hb
    case h_2=>cases hb
    split at hb
    case isFalse=>cases hb
    rename_i hq
    simp only[Option.some.injEq] at hb
    subst hb
    rw[(fy hv).1,(fy hu).1]
    simp[Instr.sameNow,hq.1,hq.2]
   split at h
   ·rename_i hb
    simp only[Option.some.injEq] at h
    subst h
    exact ⟨some (i,e.val),by simp[Instr.findNow,same _ hb],.inr ⟨0,e,rfl,rfl,rfl⟩⟩
   ·rename_i hb
    obtain ⟨y,h1,h2⟩:=DZ hv ks es (i+1) r hr h
    exact ⟨y,by simp[Instr.findNow,same _ hb,h1],h2.step⟩
   ·cases h
theorem DW{t:TypeId}{ty:cM}(hty:gM P 12 t=some ty){k:I}{v:Value}(hv:aW w D E k v):∀ (ks:List I) (es:List MapEntry) (i:Nat) (r:Option Nat),aF w D E ks (es.map (·.key))→fc ty k ks i=some r →
  ∃ x,(Instr.findAsking t v es i).run P w=.ok x w∧pk r es i x
 | [],es,i,r,hk,h=>by
  simp only[fc,Option.some.injEq] at h
  simp only[aF,List.map_eq_nil_iff] at hk
  subst h hk
  exact ⟨none,rfl,.inl ⟨rfl,rfl⟩⟩
 |x::ks,es,i,r,hk,h=>by
  obtain ⟨u,rest,e1,hu,hr⟩:=zu hk
  cases es with
  |nil=>cases e1
  |cons e es =>
   simp only[List.map_cons,List.cons.injEq] at e1
   obtain ⟨rfl,rfl⟩:=e1
   simp only[fc] at h
   have same:∀ b,cu ty k x=some b→(Op.equal t v e.key).run P w=.ok b w:=fun b hb=>sW 12 t ty hty k x v e.key b hv hu hb _ (by simp[Op.maxDepth])
   split at h
   ·rename_i hb
    simp only[Option.some.injEq] at h
    subst h
    exact ⟨some (i,e.val),by simp[Instr.findAsking,same _ hb],.inr ⟨0,e,rfl,rfl,rfl⟩⟩
   ·rename_i hb
    obtain ⟨y,h1,h2⟩:=DW hty hv ks es (i+1) r hr h
    exact ⟨y,by simp[Instr.findAsking,same _ hb,h1],h2.step⟩
   ·cases h
theorem sY{t:TypeId}{ty:cM}(hk:lX P t=some ty){k:I}{v:Value}(hv:aW w D E k v){ks:List I}{es:List MapEntry}{r:Option Nat}(hks:aF w D E ks (es.map (·.key)))(h:fc ty k ks 0=some r) :
  ∃ x,(Instr.findKey t v es).run P w=.ok x w∧pk r es 0 x:=by
 have hk0:=hk
 unfold lX at hk
 split at hk
 ·rename_i q hu
  simp only[Option.some.injEq] at hk
  subst hk
  obtain ⟨x,h1,h2⟩:=DZ hv ks es 0 r hks h
  exact ⟨x,by simp[Instr.findKey,run_underlying hu,h1],h2⟩
 ·rename_i fs hu
  split at hk
  case h_2=>cases hk
  rename_i l hl
  split at hk
  case isFalse=>cases hk
  simp only[Option.some.injEq] at hk
  subst hk
  cases es with
  |nil =>
   cases ks with
   |nil =>
    simp only[fc,Option.some.injEq] at h
    subst h
    exact ⟨none,by simp[Instr.findKey,run_underlying hu,Instr.findNow],.inl ⟨rfl,rfl⟩⟩
   |cons x xs=>simp[aF] at hks
  |cons e es =>
   obtain ⟨x,h1,h2⟩:=DW hl hv ks (e::es) 0 r hks h
   exact ⟨x,by simp[Instr.findKey,run_underlying hu,Instr.findNow,Instr.sameNow,h1],h2⟩
 ·cases hk
theorem m3:∀ {xs:List I} {vs:List Value} {j:Nat} {v:Value},aF w D E xs vs→vs[j]?=some v→∃ x,xs[j]?=some x∧aW w D E x v
 | [],vs,j,v,h,hj=>by simp only[aF] at h;subst h;simp at hj
 |x::xs,vs,j,v,h,hj=>by
  obtain ⟨u,rest,rfl,h1,h2⟩:=zu h
  cases j with
  |zero=>simp only[List.getElem?_cons_zero,Option.some.injEq] at hj;subst hj;exact ⟨x,rfl,h1⟩
  |succ j=>exact m3 (xs:=xs) h2 (by simpa using hj)
end
section
variable {c:cQ} {A:af} {o:Oper} {x:I}
theorem aiq{a:Act}{w:World}{D:aN}{E:aZ}(hs:aT c A a w D E){m:I}{v:Value}{ks vs:List I}(hv:aW w D E m v)(hm:gE A m=some (ks,vs)) :
  (v=.map none∧ks=[]∧vs=[])∨∃ b es clock,v=.map (some b)∧w.heap[b]?=some (.map es clock)∧aF w D E ks (es.toList.map (·.key))∧aF w D E vs (es.toList.map (·.val)):=by
 unfold gE at hm
 split at hm
 ·simp only[Option.some.injEq,Prod.mk.injEq] at hm
  obtain ⟨rfl,rfl⟩:=hm
  obtain ⟨cs,q1,q2⟩:=hv
  simp only[ah] at q2
  obtain ⟨b,es,ck,q3,q4,q5,q6⟩:=q2
  exact .inr ⟨b,es,ck,by simpa[bK,I.isAgg,q3] using q1.symm,q4.1,q5,q6⟩
 ·rename_i n
  split at hm
  case h_2=>cases hm
  rename_i ks' vs' hn
  simp only[Option.some.injEq,Prod.mk.injEq] at hm
  obtain ⟨rfl,rfl⟩:=hm
  obtain ⟨cs,q1,q2⟩:=hv
  simp only[ah] at q2
  obtain ⟨b,q3,q4⟩:=q2
  obtain ⟨b',es,ck,k1,k2,k3,k4,k5,k6,k7⟩:=hs.map hn
  rw[k1] at q3;cases q3
  exact .inr ⟨_,es,ck,by simpa[bK,I.isAgg,q4] using q1.symm,k3,k5,k6⟩
 ·simp only[Option.some.injEq,Prod.mk.injEq] at hm
  obtain ⟨rfl,rfl⟩:=hm
  obtain ⟨cs,q1,q2⟩:=hv
  simp only[ah] at q2
  exact .inl ⟨by simpa[bK,I.isAgg,q2.1] using q1.symm,rfl,rfl⟩
 ·cases hm
theorem pg{w:World}{D:aN}{E:aZ}{y:I}{v:Value}(hv:y.cj=true)(h:aW w D E y v):∃ cs,bK y v cs∧ah w D E y cs:=by
 cases y <;>simp[I.cj] at hv <;>exact h
theorem qn{w:World}{D:aN}{E:aZ} : ∀ {xs:List I} {vs:List Value} {j:Nat} {x:I},aF w D E xs vs→xs[j]?=some x→x.cj=true
 | [],_,j,x,_,h=>by simp at h
 |y::ys,vs,j,x,hr,h=>by
  simp only[aF] at hr
  obtain ⟨v,rest,cs,rfl,h1,h2,h3⟩:=hr
  cases j with
  |zero =>
   simp only[List.getElem?_cons_zero,Option.some.injEq] at h;subst h
   cases y <;>simp only[ah] at h2 <;>rfl
  |succ j=>exact qn (xs:=ys) h3 (by simpa using h)
theorem amf{x:I}{cs r:List Value}(h:ni x cs=some r):x.cj=true:=by
 cases x <;>first | rfl | (cases cs <;>simp[ni] at h)
theorem amg{P:Program}{t:TypeId}{z:I}(hz:gj P t=some z)(hp:uZ P t z=true):∃ zv,(∀ w,(zeroValue t).run P w=.ok zv w)∧z.cj=true∧∀ w D E,aW w D E z zv:=by
 have hz0:=hz
 obtain ⟨i,zv,hi,hzz,hzr⟩:=mn hz
 have hv:z.cj=true:=by
  unfold gj at hz
  split at hz
  ·split at hz
   ·rename_i hk
    simp only[Option.some.injEq] at hz
    subst hz
    exact amf hk
   ·cases hz
  ·cases hz
 refine ⟨zv,fun w=>by simp[zeroValue,typeInfo,hi,hzz],hv,fun w D E =>?_⟩
 have h1:=hzr w D E
 simp only[uZ,hi,Option.bind_some,hzz] at hp
 refine mO (cs:=zv.cells.toList) ?_ h1
 cases zv <;>simp only[bK] at hp ⊢ <;>first
  |(rw[if_pos hp];simp[Value.cells])
  |(have hp':z.isAgg=false:=by simpa using hp
    rw[hp'];simp[Value.cells])
theorem aho{t kt et:TypeId}{m k:Operand}{m' k':aH}{ok:Bool}{ty:cM}{z v:I}{ks vs:List I}{there:Bool}(ho:o.op=.lookup t m k ok)(hu:c.P.underlying t=some (.map kt et))(hk:lX c.P kt=some ty)(hz:gj c.P et=some z)(hzp:uZ c.P et z=true)
  (hm:bJ c.P 0 m=some m') (hk':bJ c.P 0 k=some k') (hmm:gE A (ae A m')=some (ks,vs)) (hl:gC ty z (ae A k') ks vs=some (v,there)):dR c A o (if ok then .tuple [v,.bool there] else v) :=
 .same fun a w D E hs=>by
  have h1:=cg hs hm
  have h2:=cg hs hk'
  obtain ⟨zv,hzrun,hzv,hzrv⟩:=amg hz hzp
  unfold gC at hl
  split at hl
  case isFalse=>cases hl
  rename_i hkk
  obtain ⟨rk,hrk⟩:=Option.isSome_iff_exists.1 hkk
  have hchk:=fun em=>C0 (P:=c.P) (w:=w) (em:=em) hk h2 hrk 9998
  have br:∀ u there,v.cj=true→aW w D E v u→aW w D E (if ok then .tuple [v,.bool there] else v) (if ok then Value.tuple #[u,.bool there] else u):=fun u there hval hu'=>by
   cases ok
   ·exact hu'
   ·obtain ⟨cs,q1,q2⟩:=pg hval hu'
    simp only[if_true,aW,aF]
    exact ⟨[u,.bool there],rfl,u,[.bool there],cs,rfl,q1,q2,.bool there,[],[.bool there],rfl,by simp[bK,I.isAgg],by simp[ah],rfl⟩
  have main:∀ (es:Array MapEntry),aF w D E ks (es.toList.map (·.key))→aF w D E vs (es.toList.map (·.val))→∃ u,v.cj=true∧aW w D E v u ∧
    ((∃ i,(Instr.findKey kt (a.eval k) es.toList).run c.P w=.ok (some (i,u)) w∧there=true)∨((Instr.findKey kt (a.eval k) es.toList).run c.P w=.ok none w∧u=zv∧there=false)):=fun es hks hvs=>by
   split at hl
   ·rename_i i hfi
    simp only[Option.map_eq_some_iff,Prod.mk.injEq] at hl
    obtain ⟨v',hv',rfl,rfl⟩:=hl
    obtain ⟨q,q1,q2⟩:=sY hk h2 hks hfi
    rcases q2 with ⟨e,_⟩ | ⟨j,e,e1,e2,rfl⟩
    ·cases e
    ·simp only[Nat.zero_add,Option.some.injEq] at e1
     subst e1
     obtain ⟨x,k1,k2⟩:=m3 (j:=i) (v:=e.val) hvs (by simp only[List.getElem?_map,e2,Option.map_some])
     rw[hv',Option.some.injEq] at k1
     subst k1
     exact ⟨e.val,qn hvs hv',k2,.inl ⟨_,q1,rfl⟩⟩
   ·rename_i hfi
    simp only[Option.some.injEq,Prod.mk.injEq] at hl
    obtain ⟨rfl,rfl⟩:=hl
    obtain ⟨q,q1,q2⟩:=sY hk h2 hks hfi
    rcases q2 with ⟨_,rfl⟩ | ⟨j,e,e1,_⟩
    ·exact ⟨zv,hzv,hzrv w D E,.inr ⟨q1,rfl,rfl⟩⟩
    ·cases e1
   ·cases hl
  rcases aiq hs h1 hmm with ⟨e1,rfl,rfl⟩ | ⟨b,es,ck,e1,e2,e3,e4⟩
  ·obtain ⟨u,hval,hu',hrun⟩:=main #[] (by simp[aF]) (by simp[aF])
   refine ⟨_,?_,br u there hval hu'⟩
   rcases hrun with ⟨i,q1,rfl⟩ | ⟨q1,rfl,rfl⟩ <;>
    simp only[execOp,ho,Instr.lookup,e1,Sem.run_bind,run_underlying hu,Result.andThen_ok,Sem.run_pure,hchk,q1,hzrun]
  ·obtain ⟨u,hval,hu',hrun⟩:=main es e3 e4
   refine ⟨_,?_,br u there hval hu'⟩
   rcases hrun with ⟨i,q1,rfl⟩ | ⟨q1,rfl,rfl⟩ <;>
    simp only[execOp,ho,Instr.lookup,e1,Sem.run_bind,run_underlying hu,Result.andThen_ok,MapKept.run_getObj_map e2,Sem.run_pure,hchk,q1,hzrun]
theorem Kb{y:Operand}{y':aH}(ho:o.op=.nilCheck y)(hy:bJ c.P 0 y=some y')(h:(∃ n p,ae A y'=.ptr n p)∨∃ z,ae A y'=.ref z):dR c A o (ae A y') :=
 .same fun a w D E hs=>by
  have h1:=cg hs hy
  rcases h with ⟨n,p,h⟩ | ⟨z,h⟩
  ·rw[h] at h1 ⊢
   obtain ⟨b,aP,off,_,_,e⟩:=oW h1
   exact ⟨a.eval y,by simp only[execOp,ho,e,Sem.run_pure],h1⟩
  ·rw[h] at h1 ⊢
   obtain ⟨b,off,cs,e,_⟩:=qm h1
   exact ⟨a.eval y,by simp only[execOp,ho,e,Sem.run_pure],h1⟩
theorem Kz{w:World}{D:aN}{E:aZ}{x:I}{v:Value}{b:Bool}(h:jb x=some b)(hv:aW w D E x v):∃ ad,v=.pointer ad∧ad.isNone=b:=by
 cases x <;>simp only[jb,Option.some.injEq] at h <;>try (cases h;done)
 case nilp =>
  subst h
  obtain ⟨cs,q1,q2⟩:=hv
  simp only[ah] at q2
  exact ⟨none,by simpa[bK,I.isAgg,q2] using q1.symm,rfl⟩
 case ptr n p =>
  subst h
  obtain ⟨b,aP,off,_,_,e⟩:=oW hv
  exact ⟨_,e,rfl⟩
 case ref z =>
  subst h
  obtain ⟨b,off,cs,e,_⟩:=qm hv
  exact ⟨_,e,rfl⟩
theorem aht{neg:Bool}{t yt e:TypeId}{y z:Operand}{y' z':aH}{b1 b2:Bool}(ho:o.op=.binOp (if neg then .neq else .eql) t y z yt)(hu:c.P.underlying t=some (.pointer e))(hy:bJ c.P 0 y=some y')(hz:bJ c.P 0 z=some z')
  (h1:jb (ae A y')=some b1) (h2:jb (ae A z')=some b2) (h:b1=true∨b2=true):dR c A o (.bool (if neg then !(b1&&b2) else (b1&&b2))) :=
 .same fun a w D E hs=>by
  obtain ⟨p,e1,k1⟩:=Kz h1 (cg hs hy)
  obtain ⟨q,e2,k2⟩:=Kz h2 (cg hs hz)
  have he:∀ d,(Op.equalIn (d+1) t (.pointer p) (.pointer q)).run c.P w=.ok (b1&&b2) w:=fun d=>by
   subst k1 k2
   cases p <;>cases q <;>simp at h <;>simp[Op.equalIn,run_underlying hu]
  refine ⟨.bool (if neg then !(b1&&b2) else (b1&&b2)),?_,nQ _⟩
  cases neg <;>simp only[execOp,ho,e1,e2,if_true,Bool.false_eq_true,if_false,Sem.run_bind,eqGuard] <;>simp[binOp,Op.equal,Op.maxDepth,he]
end
section
variable {c:cQ} {A:af} {o:Oper} {x:I}
theorem YU{t:TypeId}{d:Nat}(ho:o.op=.makeMap t none)(hd:o.dst=some d)(hn:d<c.n)(hf:A.o d=none):iU c A o ((A.aK d (.cz [] [])).put d (.mref d)):=by
 intro a w D E hs
 have h1:=hs.aiR (.inl hn) hf
 have h2:=h1.put (x:=.mref d) (v:=.map (some w.heap.size)) hn ⟨_,by simp[bK,I.isAgg];rfl,by
  simp only[ah,if_true]
  exact ⟨w.heap.size,rfl,rfl⟩⟩
 exact ⟨w.alloc (.map #[] 0),.inl ⟨.map (some w.heap.size),by simp[execOp,ho,Instr.makeMap],D,_,by rw[hd];exact h2⟩⟩
theorem zt{w:World}{D:aN}{E:aZ} : ∀ {xs ys:List I} {us vs:List Value},aF w D E xs us→aF w D E ys vs→aF w D E (xs++ys) (us++vs)
 | [],ys,us,vs,h,k=>by simp only[aF] at h;subst h;simpa using k
 |x::xs,ys,us,vs,h,k=>by
  simp only[aF,List.cons_append] at *
  obtain ⟨v,rest,cs,rfl,h1,h2,h3⟩:=h
  exact ⟨v,rest++vs,cs,rfl,h1,h2,zt h3 k⟩
theorem Ou{w:World}{D:aN}{E:aZ} : ∀ {xs:List I} {us:List Value} {i:Nat} {y:I} {v:Value} {cs:List Value},aF w D E xs us→bK y v cs→ah w D E y cs→aF w D E (xs.set i y) (us.set i v)
 | [],us,i,y,v,cs,h,_,_=>by simp only[aF] at h;subst h;simp[aF]
 |x::xs,us,i,y,v,cs,h,k1,k2=>by
  simp only[aF] at h
  obtain ⟨u,rest,ds,rfl,h1,h2,h3⟩:=h
  cases i with
  |zero=>simp only[List.set_cons_zero,aF];exact ⟨v,rest,cs,rfl,k1,k2,h3⟩
  |succ i=>simp only[List.set_cons_succ,aF];exact ⟨u,_,ds,rfl,h1,h2,Ou h3 k1 k2⟩
theorem Ot{w:World}{D:aN}{E:aZ}{y:I}{v:Value}{cs:List Value}(h1:bK y v cs)(h2:ah w D E y cs):aF w D E [y] [v]:=by
 simp only[aF];exact ⟨v,[],cs,rfl,h1,h2,rfl⟩
theorem DY{ty:cM}{k:I} : ∀ {ks:List I} {i j:Nat},fc ty k ks i=some (some j)→∃ x,ks[j-i]?=some x∧i≤j∧cu ty k x=some true
 | [],i,j,h=>by simp[fc] at h
 |x::xs,i,j,h=>by
  simp only[fc] at h
  split at h
  ·rename_i hb
   simp only[Option.some.injEq] at h
   subst h
   exact ⟨x,by simp,Nat.le_refl _,hb⟩
  ·obtain ⟨y,h1,h2,h3⟩:=DY h
   refine ⟨y,?_,by omega,h3⟩
   rw[show j-i=(j-(i+1))+1 from by omega]
   simpa using h1
  ·cases h
theorem Dl{t kt et:TypeId}{m k v:Operand}{m' k' v':aH}{ty:cM}{n:Nat}{ks vs ks' vs':List I}(ho:o.op=.mapUpdate t m k v∨o.op=.insert t m k v)(hu:c.P.underlying t=some (.map kt et))(hk:lX c.P kt=some ty)
  (hm:bJ c.P 0 m=some m') (hk':bJ c.P 0 k=some k') (hv':bJ c.P et v=some v') (hmm:ae A m'=.mref n) (hn:A.o n=some (.cz ks vs)) (hl:gp ty (ae A k') (ae A v') ks vs=some (ks',vs')) (hd:o.dst=none) :
  iU c A o (A.aK n (.cz ks' vs')):=by
 intro a w D E hs
 have h1:=cg hs hm
 have h2:=cg hs hk'
 have h3:=cg hs hv'
 rw[hmm] at h1
 unfold gp at hl
 split at hl
 case isFalse=>cases hl
 rename_i hc
 obtain ⟨hkk,hkv,hvv⟩:=hc
 obtain ⟨rk,hrk⟩:=Option.isSome_iff_exists.1 hkk
 have hchk:=fun em=>C0 (P:=c.P) (w:=w) (em:=em) hk h2 hrk 9998
 obtain ⟨kcs,kp1,kp2⟩:=pg hkv h2
 obtain ⟨vcs,vp1,vp2⟩:=pg hvv h3
 obtain ⟨b,es,ck,k1,k2,k3,k4,k5,k6,k7⟩:=hs.map hn
 have hmv:a.eval m=.map (some b):=by
  obtain ⟨cs,q1,q2⟩:=h1
  simp only[ah] at q2
  obtain ⟨b',q3,q4⟩:=q2
  rw[k1] at q3;cases q3
  simpa[bK,I.isAgg,q4] using q1.symm
 -- the new entries
 have step:∀ (es':Array MapEntry) (ck':Nat),(Instr.mapUpdate t (.map (some b)) (a.eval k) (a.eval v)).run c.P w=.ok () (w.putObj b (.map es' ck'))→qw es' ck'→aF w D E ks' (es'.toList.map (·.key))→aF w D E vs' (es'.toList.map (·.val)) →
   ∃ w',((∃ u,(execOp a.eval o).run c.P w=.ok (.value u) w'∧cw c (A.aK n (.cz ks' vs')) (a.put o.dst u) w')∨((execOp a.eval o).run c.P w=.ok .skip w'∧cw c (A.aK n (.cz ks' vs')) (a.put o.dst undef) w')):=fun es' ck' hrun hst hks hvs=>by
  refine ⟨w.putObj b (.map es' ck'),.inr ⟨?_,?_⟩⟩
  ·rcases ho with ho | ho <;>simp only[execOp,ho,hmv,Sem.run_bind,hrun,Result.andThen_ok,Sem.run_pure]
  ·rw[hd]
   have:=hs.Oz (o':=.map es' ck') (x:=.cz ks' vs') k1 rfl rfl k3 rfl (fun q=>by simp) k2 (fun hl' hh hno=>⟨b,es',ck',k1,k2,hh,hst,aF.bL hl' _ _ hks,aF.bL hl' _ _ hvs,hno⟩)
   exact ⟨D,E,this⟩
 split at hl
 ·rename_i i hfi
  simp only[Option.some.injEq,Prod.mk.injEq] at hl
  obtain ⟨rfl,rfl⟩:=hl
  obtain ⟨q,q1,q2⟩:=sY hk h2 k5 hfi
  rcases q2 with ⟨e,_⟩ | ⟨j,e,e1,e2,rfl⟩
  ·cases e
  simp only[Nat.zero_add,Option.some.injEq] at e1
  subst e1
  obtain ⟨y,y1,_,y2⟩:=DY hfi
  simp only[Nat.sub_zero] at y1
  obtain ⟨y',y3,y4⟩:=m3 (j:=i) (v:=e.key) k5 (by simp only[List.getElem?_map,e2,Option.map_some])
  rw[y1,Option.some.injEq] at y3
  subst y3
  obtain ⟨_,kk2,kk3⟩:=ahT hk y2 h2 y4
  have hes:es[i]?=some e:=by rw[←Array.getElem?_toList];exact e2
  have hlen:i<es.size:=(Array.getElem?_eq_some_iff.1 hes).1
  refine step (es.modify i fun e => { e with key:=a.eval k,val:=a.eval v }) ck ?_ ?_ ?_ ?_
  ·have hsb:Instr.sameBits 10000 (((es[i]?).map (·.key)).getD (a.eval k)) (a.eval k)=true:=by
    rw[hes];simp only[Option.map_some,Option.getD_some];rw[←kk2];rw[←kk2] at kk3;exact kk3
   simp only[Instr.mapUpdate,Sem.run_bind,run_underlying hu,Result.andThen_ok,MapKept.run_getObj_map k3,hchk,q1,Nat.zero_add,Instr.keyThatStays,hsb,if_true,Sem.run_pure,MapKept.run_setObj_map _ k3]
   rfl
  all_goals
   have em:(es.modify i fun e => { e with key:=a.eval k,val:=a.eval v }).toList=es.toList.set i { e with key:=a.eval k,val:=a.eval v } :=by
    rw[Array.toList_modify]
    apply List.ext_getElem?
    intro j
    rw[List.getElem?_modify,List.getElem?_set]
    by_cases hij:i=j
    ·subst hij
     have hge:es[i]'hlen=e:=(Array.getElem?_eq_some_iff.1 hes).2
     simp[hlen,hge]
    ·simp[hij]
  ·refine ⟨fun x hx =>?_,?_⟩
   ·rw[em] at hx
    rcases List.mem_or_eq_of_mem_set hx with hx | rfl
    ·exact k4.1 x hx
    ·exact k4.1 e (List.mem_of_getElem? e2)
   ·rw[em]
    have:(es.toList.set i { e with key:=a.eval k,val:=a.eval v }).map (·.born)=es.toList.map (·.born):=by
     rw[List.map_set]
     apply List.ext_getElem?
     intro j
     rw[List.getElem?_set]
     split
     ·rename_i hij;subst hij
      simp[e2]
      exact hlen
     ·rfl
    rw[this];exact k4.2
  ·rw[em,List.map_set]
   have:(es.toList.map (·.key)).set i (a.eval k)=es.toList.map (·.key):=by
    apply List.ext_getElem?
    intro j
    rw[List.getElem?_set]
    split
    ·rename_i hij;subst hij
     simp[e2,kk2]
     exact hlen
    ·rfl
   simp only[this];exact k5
  ·rw[em,List.map_set];exact Ou k6 vp1 vp2
 ·rename_i hfi
  simp only[Option.some.injEq,Prod.mk.injEq] at hl
  obtain ⟨rfl,rfl⟩:=hl
  obtain ⟨q,q1,q2⟩:=sY hk h2 k5 hfi
  rcases q2 with ⟨_,rfl⟩ | ⟨j,e,e1,_⟩
  case inr=>cases e1
  refine step (es.push { key:=a.eval k,val:=a.eval v,born:=ck }) (ck+1) ?_ ⟨fun x hx =>?_,?_⟩ ?_ ?_
  ·simp only[Instr.mapUpdate,Sem.run_bind,run_underlying hu,Result.andThen_ok,MapKept.run_getObj_map k3,hchk,q1,MapKept.run_setObj_map _ k3]
   rfl
  ·simp only[Array.toList_push,List.mem_append,List.mem_singleton] at hx
   rcases hx with hx | rfl
   ·have:=k4.1 x hx;omega
   ·simp
  ·simp only[Array.toList_push,List.map_append,List.map_cons,List.map_nil]
   refine List.nodup_append.2 ⟨k4.2,by simp,fun x hx y hy =>?_⟩
   simp only[List.mem_singleton] at hy
   subst hy
   obtain ⟨e,he,rfl⟩:=List.mem_map.1 hx
   exact Nat.ne_of_lt (k4.1 e he)
  ·simp only[Array.toList_push,List.map_append,List.map_cons,List.map_nil];exact zt k5 (Ot kp1 kp2)
  ·simp only[Array.toList_push,List.map_append,List.map_cons,List.map_nil];exact zt k6 (Ot vp1 vp2)
 ·cases hl
theorem YW{t kt et:TypeId}{y:Operand}{y':aH}{ks vs:List I}{d:Nat}(ho:o.op=.range t y)(hu:c.P.underlying t=some (.map kt et))(hy:bJ c.P 0 y=some y')(h:ae A y'=.cT ks vs)(hd:o.dst=some d)(hn:d<c.n)(hf:A.o d=none) :
  iU c A o ((A.aK d (.it ks vs (List.range ks.length) none)).put d (.dv d)):=by
 intro a w D E hs
 have h1:=cg hs hy
 rw[h] at h1
 obtain ⟨cs,q1,q2⟩:=h1
 simp only[ah] at q2
 obtain ⟨b,es,ck,q3,q4,q5,q6⟩:=q2
 have hv:a.eval y=.map (some b):=by simpa[bK,I.isAgg,q3] using q1.symm
 have h2:=hs.aiQ (.inl hn) hf q4 q5 q6
 have h3:=h2.put (x:=.dv d) (v:=.pointer (some ⟨w.heap.size,0,none⟩)) hn ⟨_,by simp[bK,I.isAgg];rfl,by
  simp only[ah,if_true]
  exact ⟨w.heap.size,rfl,rfl⟩⟩
 refine ⟨w.alloc (.mapIter (some b) ck #[] ck),.inl ⟨.pointer (some ⟨w.heap.size,0,none⟩),?_,D,_,by rw[hd];exact h3⟩⟩
 simp only[execOp,ho,hv,Sem.run_bind,run_range_map w t kt et b es ck hu q4.1,Result.andThen_ok,Sem.run_pure]
theorem KI{es:Array MapEntry}{cm:Array Nat}{i:Nat} : i∈oG es cm↔∃ e,es[i]?=some e∧cm.contains e.born=false:=by
 unfold oG
 simp only[List.mem_filter,List.mem_range]
 constructor
 ·rintro ⟨h1,h2⟩
  rw[Array.getElem?_eq_getElem h1] at h2 ⊢
  exact ⟨_,rfl,by simpa using h2⟩
 ·rintro ⟨e,h1,h2⟩
  exact ⟨(Array.getElem?_eq_some_iff.1 h1).1,by rw[h1];simpa using h2⟩
theorem alH{es:Array MapEntry}{ck:Nat}(hst:qw es ck){i j:Nat}{e f:MapEntry}(hi:es[i]?=some e)(hj:es[j]?=some f)(h:e.born=f.born):i=j:=by
 have hn:=hst.2
 rw[←Array.getElem?_toList] at hi hj
 have h1:(es.toList.map (·.born))[i]?=some e.born:=by rw[List.getElem?_map,hi];rfl
 have h2:(es.toList.map (·.born))[j]?=some e.born:=by rw[List.getElem?_map,hj,h];rfl
 have hil:i<(es.toList.map (·.born)).length:=(List.getElem?_eq_some_iff.1 h1).1
 have hjl:j<(es.toList.map (·.born)).length:=(List.getElem?_eq_some_iff.1 h2).1
 exact (List.getElem?_inj hil hn).1 (h1.trans h2.symm)
theorem aia{es:Array MapEntry}{cm:Array Nat}{ck i:Nat}{e:MapEntry}(hst:qw es ck)(hi:es[i]?=some e):oG es (cm.push e.born)=(oG es cm).filter (· != i):=by
 unfold oG
 rw[List.filter_filter]
 refine List.filter_congr fun j hj =>?_
 have hjl:j<es.size:=by simpa using hj
 rw[Array.getElem?_eq_getElem hjl]
 simp only[Array.contains_push]
 by_cases hij:j=i
 ·subst hij
  rw[Array.getElem?_eq_getElem hjl,Option.some.injEq] at hi
  simp[hi]
 ·have:(es[j].born==e.born)=false:=by
   simp only[beq_eq_false_iff_ne,ne_eq]
   exact fun h=>hij (alH hst (Array.getElem?_eq_getElem hjl) hi h)
  have h2:(j != i)=true:=by simpa using hij
  simp[this,h2]
theorem aiS{y:Operand}{y':aH}{ks vs:List I}{left:List Nat}{cur:Option Nat}{n:Nat}(ho:o.op=.next y false)(hy:bJ c.P 0 y=some y')(h:ae A y'=.dv n)(hn:A.o n=some (.it ks vs left cur))(hdn:∀ k,o.dst=some k→k<c.n){a:Act}{w:World}{D:aN}{E:aZ}(hs:aT c A a w D E) :
  ∃ w' v,(execOp a.eval o).run c.P w=.ok (.value v) w'∧((left=[]∧cw c (A.aJ o.dst (.tuple [.bool false])) (a.put o.dst v) w') ∨
   ∃ i k x,i∈left∧ks[i]?=some k∧vs[i]?=some x∧cw c ((A.aK n (.it ks vs (left.filter (· != i)) (some i))).aJ o.dst (.tuple [.bool true,k,x])) (a.put o.dst v) w'):=by
 have h1:=cg hs hy
 rw[h] at h1
 obtain ⟨cs,q1,q2⟩:=h1
 simp only[ah] at q2
 obtain ⟨r,q3,q4⟩:=q2
 have hv:a.eval y=.pointer (some ⟨r,0,none⟩):=by simpa[bK,I.isAgg,q4] using q1.symm
 have hob:=hs.bS n
 rw[hn] at hob
 obtain ⟨r',b,es,ck,since,cm,last,k1,k2,k3,k4,k5,k6,k7,k8,k9,k9',k10⟩:=hob
 rw[k1] at q3;cases q3
 rcases run_next_at (P:=c.P) w o.type r b since last cm es ck k3 k4.1 k7 k8.1 with ⟨h0,hrun⟩ | ⟨e,he,w1,hal,hrun⟩
 ·refine ⟨w,.tuple #[.bool false],by simp only[execOp,ho,hv,Sem.run_bind,hrun,Result.andThen_ok,Sem.run_pure],.inl ⟨?_,D,E,hs.aJ hdn ?_⟩⟩
  ·rw[k9]
   refine List.eq_nil_iff_forall_not_mem.2 fun i hi =>?_
   obtain ⟨e,h1,h2⟩:=KI.1 hi
   have hm:e∈leftOf es cm:=by
    unfold leftOf
    simp only[Array.mem_filter]
    exact ⟨Array.mem_of_getElem? h1,by simpa using h2⟩
   rw[Array.eq_empty_of_size_eq_zero h0] at hm
   simp at hm
  ·simp only[aW,aF]
   exact ⟨[.bool false],rfl,.bool false,[],[.bool false],rfl,by simp[bK,I.isAgg],by simp[ah],rfl⟩
 ·have hmem:e∈es.toList∧cm.contains e.born=false:=by
   unfold leftOf at he
   simp only[Array.toList_filter,List.mem_filter] at he
   exact ⟨he.1,by simpa using he.2⟩
  obtain ⟨i,hi⟩:=List.getElem?_of_mem hmem.1
  have hie:es[i]?=some e:=by rw[←Array.getElem?_toList];exact hi
  obtain ⟨k,hk1,hk2⟩:=m3 (j:=i) (v:=e.key) k5 (by simp only[List.getElem?_map,hi,Option.map_some])
  obtain ⟨x,hx1,hx2⟩:=m3 (j:=i) (v:=e.val) k6 (by simp only[List.getElem?_map,hi,Option.map_some])
  have hsw:aT c A a w1 D E:=by
   rcases hal with rfl | rfl
   ·exact hs
   ·exact hs.grow (w':=w.drew) (D':=D) ⟨rfl,rfl,rfl,Nat.le_refl _,fun _ _=>rfl⟩ (fun _ _ h=>h) (fun _ _ h _=>h) (fun b o hd=>hs.dg b o hd)
  have hw1:w1.heap=w.heap:=by rcases hal with rfl | rfl <;>rfl
  have k3':w1.heap[r]?=some (.mapIter (some b) since cm last):=by rw[hw1];exact k3
  have hset:=hsw.Oz (x:=.it ks vs (left.filter (· != i)) (some i)) (o':=.mapIter (some b) since (cm.push e.born) ck) k1 rfl rfl k3' rfl (fun q=>by simp) k2
   (fun hl hh hno=>by
    have hm:oL w1 D b es ck:=⟨by rw[hw1];exact k4.1,k4.2.1,k4.2.2⟩
    have hob:=hsw.bS n
    rw[hn] at hob
    refine ⟨r,b,es,ck,since,cm.push e.born,ck,k1,k2,hh,hm.bL hl,aF.bL hl _ _ ?_,aF.bL hl _ _ ?_,k7,?_,?_,fun j hj =>?_,hno⟩
    ·obtain ⟨dH,b2,es2,ck2,si2,se2,la2,g1,g2,g3,g4,g5,g6,_⟩:=hob
     rw[k1] at g1;cases g1
     rw[k3'] at g3;cases g3
     have:=g4.1;rw[hw1,k4.1] at this;cases this
     exact g5
    ·obtain ⟨dH,b2,es2,ck2,si2,se2,la2,g1,g2,g3,g4,g5,g6,_⟩:=hob
     rw[k1] at g1;cases g1
     rw[k3'] at g3;cases g3
     have:=g4.1;rw[hw1,k4.1] at this;cases this
     exact g6
    ·exact ⟨k8.2,k8.2⟩
    ·rw[k9,aia k4.2.2 hie]
    ·cases hj
     exact ⟨e,hie,by simp,rfl⟩)
  have hset':aT c (A.aK n (.it ks vs (left.filter (· != i)) (some i))) a (ChangeMaps.setBlock w1 r (.mapIter (some b) since (cm.push e.born) ck)) D E:=hset
  refine ⟨_,.tuple #[.bool true,e.key,e.val],by simp only[execOp,ho,hv,Sem.run_bind,hrun,Result.andThen_ok,Sem.run_pure],.inr ⟨i,k,x,?_,hk1,hx1,D,E,hset'.aJ hdn ?_⟩⟩
  ·rw[k9];exact KI.2 ⟨e,hie,hmem.2⟩
  ·have hob2:=hset'.bS n
   simp only[af.aK,if_true] at hob2
   obtain ⟨dH,b2,es2,ck2,si2,se2,la2,g1,g2,g3,g4,g5,g6,_⟩:=hob2
   rw[k1] at g1;cases g1
   have hr2:(ChangeMaps.setBlock w1 r (.mapIter (some b) since (cm.push e.born) ck)).heap[r]?=some (.mapIter (some b) since (cm.push e.born) ck):=World.putObj_heap_same (w:=w1) (gb k3')
   rw[hr2] at g3;cases g3
   have hb2:(ChangeMaps.setBlock w1 r (.mapIter (some b) since (cm.push e.born) ck)).heap[b]?=some (.map es ck):=by
    have:b≠r:=fun e=>by rw[e] at k4;rw[k4.1] at k3;cases k3
    refine (World.putObj_heap_other (w:=w1) this).trans ?_
    rw[hw1];exact k4.1
   have:=g4.1;rw[hb2] at this;cases this
   obtain ⟨kk,a1,a2⟩:=m3 (j:=i) (v:=e.key) g5 (by simp only[List.getElem?_map,hi,Option.map_some])
   rw[hk1] at a1;cases a1
   obtain ⟨xx,b1,b2⟩:=m3 (j:=i) (v:=e.val) g6 (by simp only[List.getElem?_map,hi,Option.map_some])
   rw[hx1] at b1;cases b1
   obtain ⟨c1,c2,c3⟩:=pg (qn k5 hk1) a2
   obtain ⟨d1,d2,d3⟩:=pg (qn k6 hx1) b2
   simp only[aW,aF]
   exact ⟨[.bool true,e.key,e.val],rfl,.bool true,_,[.bool true],rfl,by simp[bK,I.isAgg],by simp[ah],e.key,_,c1,rfl,c2,c3,e.val,[],d1,rfl,d2,d3,rfl⟩
theorem ahb{y:Operand}{y':aH}{ks vs:List I}{left:List Nat}{i n:Nat}{k x:I}(ho:o.op=.entry y)(hy:bJ c.P 0 y=some y')(h:ae A y'=.dv n)(hn:A.o n=some (.it ks vs left (some i)))(hk:ks[i]?=some k)(hx:vs[i]?=some x):dR c A o (.tuple [k,x]) :=
 .same fun a w D E hs=>by
  have h1:=cg hs hy
  rw[h] at h1
  obtain ⟨cs,q1,q2⟩:=h1
  simp only[ah] at q2
  obtain ⟨r,q3,q4⟩:=q2
  have hv:a.eval y=.pointer (some ⟨r,0,none⟩):=by simpa[bK,I.isAgg,q4] using q1.symm
  have hob:=hs.bS n
  rw[hn] at hob
  obtain ⟨r',b,es,ck,since,cm,last,k1,k2,k3,k4,k5,k6,k7,k8,k9,k9',k10⟩:=hob
  rw[k1] at q3;cases q3
  obtain ⟨e,e1,e2,rfl⟩:=k9' i rfl
  have hi:es.toList[i]?=some e:=by rw[Array.getElem?_toList];exact e1
  obtain ⟨kk,a1,a2⟩:=m3 (j:=i) (v:=e.key) k5 (by simp only[List.getElem?_map,hi,Option.map_some])
  rw[hk] at a1;cases a1
  obtain ⟨xx,b1,b2⟩:=m3 (j:=i) (v:=e.val) k6 (by simp only[List.getElem?_map,hi,Option.map_some])
  rw[hx] at b1;cases b1
  obtain ⟨c1,c2,c3⟩:=pg (qn k5 hk) a2
  obtain ⟨d1,d2,d3⟩:=pg (qn k6 hx) b2
  have hf:es.find? (·.born==e.born)=some e:=by rw[←Array.find?_toList];exact find_born e es.toList k4.2.2.2 (List.mem_of_getElem? hi)
  refine ⟨.tuple #[e.key,e.val],?_,?_⟩
  ·have hr:(Instr.entry (.pointer (some ⟨r,0,none⟩))).run c.P w=.ok (.tuple #[e.key,e.val]) w:=by
    simp only[Instr.entry,getObj,Sem.run_bind,Sem.run,k3,k4.1,Result.andThen,e2,bne_self_eq_false,Bool.false_eq_true,if_false,hf]
    rfl
   simp only[execOp,ho,hv,Sem.run_bind,hr,Result.andThen_ok,Sem.run_pure]
  ·simp only[aW,aF]
   exact ⟨[e.key,e.val],rfl,e.key,_,c1,rfl,c2,c3,e.val,[],d1,rfl,d2,d3,rfl⟩
theorem N1{w:World}{D:aN}{E:aZ}{z:I}{v:Value}(h:ah w D E z [v]):∀ n:Nat,aG w D E (List.replicate n z) (List.replicate n v)
 |0=>by simp[aG]
 |n+1=>by simp only[List.replicate_succ,aG];exact ⟨[v],_,rfl,h,N1 h n⟩
theorem YV{t e:TypeId}{l l':Operand}{n':aH}{z:I}{n d:Nat}{k:IntKind}(ho:o.op=.makeSlice t l l')(hll:l'=l)(hu:c.P.underlying t=some (.slice e))(hl:bJ c.P 0 l=some n')(h:ae A n'=.int k n)(hz:gj c.P e=some z)(hz1:z.size=1)
  (hc1:c.P.cellsOf e=1) (hby:n*c.P.bytesOf e≤281474976710656) (hmax:n≤maxLen) (hd:o.dst=some d) (hn:d<c.n) (hf:A.o d=none):iU c A o ((A.aK d (.box (.agg (List.replicate n z)))).put d (.view d [] 1 0 n)):=by
 subst hll
 intro a w D E hs
 have h1:=cg hs hl
 rw[h] at h1
 obtain ⟨e1,_⟩:=fy h1
 obtain ⟨i,zv,hi,hzz,hzr⟩:=mn hz
 have hzc:=ah.length _ _ (hzr w D E)
 rw[hz1] at hzc
 obtain ⟨u,hu1⟩:∃ u,zv.cells = #[u]:=by
  have:zv.cells.size=1:=by simpa using hzc
  obtain ⟨u,hu⟩:=Array.size_eq_one_iff.1 this
  exact ⟨u,hu⟩
 have hsz:i.size=1:=by have:=hc1;simp only[Program.cellsOf,hi,Option.map_some,Option.getD_some] at this;exact this
 have hbytes:(i.bytes:Int)*(n:Int)≤281474976710656:=by
  have:c.P.bytesOf e=i.bytes:=by simp[Program.bytesOf,hi]
  rw[this] at hby
  have h2:((i.bytes*n:Nat):Int)≤281474976710656:=by rw[Nat.mul_comm] at hby;omega
  rwa [Int.natCast_mul] at h2
 have hrun:=run_make (P:=c.P) w t e i zv hu hi hzz k k n n (by omega) (Int.le_refl _) hbytes (by have h9:=hmax;unfold maxLen at h9;omega)
 simp only[Int.toNat_natCast,hsz,Nat.mul_one] at hrun
 have hmc:(madeCells zv.cells n).toList=List.replicate n u:=by
  rw[hu1]
  simp only[madeCells]
  apply List.ext_getElem?
  intro j
  simp[List.getElem?_replicate]
  split <;>simp_all[Nat.mod_one]
 have hcells:ah w D E (.agg (List.replicate n z)) (madeCells zv.cells n).toList:=by
  rw[hmc]
  simp only[ah]
  refine N1 ?_ n
  have:=hzr w D E
  rw[hu1] at this
  simpa using this
 have h2:=hs.rG (T:=e) (.inl hn) hf hcells
 have h3:=h2.put (x:=.view d [] 1 0 n) (v:=.slice (some ⟨w.heap.size,0,none⟩) n n) hn ⟨_,by simp[bK,I.isAgg];rfl,by
  simp only[ah,if_true]
  refine ⟨w.heap.size,_,0,I.cK (List.replicate n z),rfl,by simp[cO.off],by simp[I.aP,cO.part],by simp[I.dn],by simpa[I.dn] using hmax,by simp[I.dn],fun s hs =>?_⟩
  rw[I.dn] at hs
  obtain ⟨y,hy,rfl⟩:=List.mem_map.1 hs
  rw[I.mg,(List.mem_replicate.1 hy).2,hz1]⟩
 refine ⟨_,.inl ⟨_,?_,D,_,by rw[hd];exact h3⟩⟩
 simp only[execOp,ho,e1,Sem.run_bind,hrun,Result.andThen_ok,Sem.run_pure]
end
end Go.Abs
namespace Go.Abs
open Go Go.RowKit
mutual
/-- Values that lead to no memory. -/
def I.flat:I→Bool
 | .agg fs | .tuple fs=>I.pN fs
 | .bool _ | .int _ _ | .cY _ | .nilp | .dh | .dX | .raw _ | .undef | .df=>true
 |_=>false
def I.pN:List I→Bool
 | []=>true
 |x::xs=>x.flat&&I.pN xs
end
mutual
theorem ah.flat{w w':World}{D D':aN}{E E':aZ} : ∀ (x:I) (cs:List Value),x.flat=true→ah w D E x cs→ah w' D' E' x cs
 | .agg fs,cs,hf,hr=>by simp only[ah,I.flat] at *;exact aG.flat fs cs hf hr
 | .bool b,cs,_,hr=>by simpa only[ah] using hr
 | .int k n,cs,_,hr=>by simpa only[ah] using hr
 | .cY s,cs,_,hr=>by simpa only[ah] using hr
 | .nilp,cs,_,hr=>by simpa only[ah] using hr
 | .dh,cs,_,hr=>by simpa only[ah] using hr
 | .dX,cs,_,hr=>by simpa only[ah] using hr
 | .raw _,cs,_,hr=>by simpa only[ah] using hr
 | .undef,_,_,hr=>by simp only[ah] at hr
 | .df,_,_,hr=>by simp only[ah] at hr
 | .tuple _,_,_,hr=>by simp only[ah] at hr
 | .nils _,_,hf,_ | .c0 _,_,hf,_ | .slice _ _,_,hf,_ | .ref _,_,hf,_ | .func _ _,_,hf,_ | .iface _ _,_,hf,_ | .ptr _ _,_,hf,_ | .own _ _,_,hf,_ | .view _ _ _ _ _,_,hf,_ | .mref _,_,hf,_ | .dv _,_,hf,_ | .cT _ _,_,hf,_=>by simp[I.flat] at hf
theorem aG.flat{w w':World}{D D':aN}{E E':aZ} : ∀ (xs:List I) (cs:List Value),I.pN xs=true→aG w D E xs cs→aG w' D' E' xs cs
 | [],cs,_,hr=>by simpa only[aG] using hr
 |x::xs,cs,hf,hr=>by
  simp only[aG,I.pN,Bool.and_eq_true] at *
  obtain ⟨c1,c2,h1,h2,h3⟩:=hr
  exact ⟨c1,c2,h1,ah.flat x c1 hf.1 h2,aG.flat xs c2 hf.2 h3⟩
end
theorem aF.flat{w w':World}{D D':aN}{E E':aZ} : ∀ (xs:List I) (vs:List Value),I.pN xs=true→aF w D E xs vs→aF w' D' E' xs vs
 | [],vs,_,hr=>by simpa only[aF] using hr
 |x::xs,vs,hf,hr=>by
  simp only[aF,I.pN,Bool.and_eq_true] at *
  obtain ⟨v,rest,cs,h1,h2,h3,h4⟩:=hr
  exact ⟨v,rest,cs,h1,h2,ah.flat x cs hf.1 h3,aF.flat xs rest hf.2 h4⟩
theorem aW.flat{w w':World}{D D':aN}{E E':aZ}{x:I}{v:Value}(hf:x.flat=true)(hr:aW w D E x v):aW w' D' E' x v:=by
 cases x <;>simp only[aW] at * <;>first
  |exact hr
  |(obtain ⟨vs,h1,h2⟩:=hr;exact ⟨vs,h1,aF.flat _ _ (by simpa[I.flat] using hf) h2⟩)
  |(obtain ⟨cs,h1,h2⟩:=hr;exact ⟨cs,h1,ah.flat _ _ hf h2⟩)
def dK:aZ:=fun _=>none
def aA(P:Program)(f:FuncId)(args:List I)(r:I):Prop :=
 hT P f=true∧∀ (w:World) (D:aN) (vs:List Value),(∀ b o,D b o→b<w.heap.size)→aF w D dK args vs →
  Calls P f vs.toArray w fun e w'=>∃ v D',e=.returned v∧aW w' D' dK r v∧Below w.heap.size w w'∧(∀ b o,D' b o→b<w'.heap.size)∧∀ b o,D' b o→b<w.heap.size→D b o
def cF(P:Program)(f:FuncId)(args:List I)(os:List (Nat×ai))(post:cR):Prop :=
 hT P f=true∧qC (Calls P f) (fun _ _ _=>True) args os post
def a7(p:Nat→Bool):List (Nat×ai)→Prop
 | []=>True
 |(_,v)::r=>v.only p=true∧a7 p r
def c7(ns:List Nat)(os:List (Nat×ai)):List (Nat×ai):=os.filter fun q => !ns.contains q.1
def gB(ns:List Nat)(ts:List (Nat×I)):List (Nat×I):=ts.map fun q=>(q.1,if q.2.only (fun n => !ns.contains n) then q.2 else .df)
def jc(ns:List Nat)(os:List (Nat×ai)):List (Nat×ai):=os.filter fun q=>ns.contains q.1
def jZ(ρ:List (Nat×Nat))(os:List (Nat×ai)):List Nat:=os.map fun q=>bD ρ q.1
def jt(aC:Bool)(A0:af)(ρ:List (Nat×Nat))(os:List (Nat×ai)):List I→List I→Prop
 | [],[]=>True
 |x::xs,c::cs=>((x=c.aR (bD ρ)∧c.only (au os)=true∧c.cj=true)∨br aC A0 x=some c)∧jt aC A0 ρ os xs cs
 |_,_=>False
structure aB where
 dst:Option Nat
 op:b8
 guard:Option (Nat×Bool)
 deriving Inhabited
inductive cI where
 |done (A:af)
 |fail
 |call (f:FuncId) (avs:List I) (a1 a2:Option (List I)) (dst:Option Nat) (rest:List aB) (A:af)
 |pD (v:Value) (avs:List I) (dst:Option Nat) (rest:List aB) (A:af)
 |jq (f:FuncId) (avs:List I) (dst:Option Nat) (rest:List aB) (A:af)
 |any (p:Nat→Prop) (k:Nat→cI)
def cN(x:Option I)(k:I→cI):cI:=match x with
 |some v=>k v
 |none=>.fail
def yM(s:Option Nat)(v old:I):Prop:=v.cj=true∧bY s v=true∧v.aP=old.aP
def yF(e esz bytes l sz:Nat)(ys:List I)(T sz':Nat)(es:List I):Prop:=l=es.length∧sz=esz∧T=e∧sz'=esz∧ys≠[]∧es.length+ys.length≤maxLen∧(es.length+ys.length)*bytes≤140737488355328
def rp(ys:List I):List Int:=ys.filterMap fun y=>match y with | .int .i64 i=>some i | _=>none
def yG(e esz bytes l:Nat)(ys:List I)(T:Nat)(xs:List Int)(z:I):Prop:=l=xs.length∧esz=1∧T=e∧z=.int .i64 0∧ys=(rp ys).map (.int .i64)∧ys≠[]∧xs.length+ys.length≤maxLen∧(xs.length+ys.length)*bytes≤140737488355328
def kc:I→Bool
 | .slice _ es=>es.isEmpty
 | .c0 _=>true
 |_=>false
open Classical in
noncomputable def gl(A:af)(dst:Option Nat)(esz bytes:Nat)(z:I)(es ys:List I)(k:af→cI):cI :=
 match dst with
 |some d=>match A.o d with
  |none=>if (es.length+ys.length)*bytes≤140737488355328∧es.length+ys.length≤maxLen then
    .any (fun m=>es.length+ys.length+m≤maxLen) (fun m=>k ((A.aK d (.box (.agg (es++(ys++List.replicate m z))))).aJ dst (.view d [] esz 0 (es.length+ys.length)))) else .fail
  |some _=>.fail
 |none=>.fail
open Classical in
noncomputable def fp(A:af)(dst:Option Nat)(esz bytes:Nat)(z:I)(s:I):Option (List I)→Option (List I)→(af→cI)→cI
 |some es,some ys,k=>if ys=[] then k (A.aJ dst s) else match s with
  | .nils _=>gl A dst esz bytes z es ys k
  | .c0 _=>gl A dst esz bytes z es ys k
  | .view n p sz lo l=>match A.o n with
   |some (.box b)=>match b.at p with
    |some (.agg fs)=>if lo+l+ys.length≤fs.length then
      (if sz=esz∧I.cK ys=I.cK ((fs.drop (lo+l)).take ys.length) then k ((A.aK n (.box (iA b p (lo+l) fs ys))).aJ dst (.view n p esz lo (l+ys.length))) else .fail)
      else gl A dst esz bytes z es ys k
    |_=>.fail
   |_=>.fail
  |_=>.fail
 |_,_,_=>.fail
open Classical in
noncomputable def qK(A:af)(dst:Option Nat)(esz bytes:Nat)(z:I)(m:Nat)(s:I):Option (List I)→(af→cI)→cI
 |some es,k=>match s with
  | .view n p _ lo l=>match A.o n with
   |some (.box b)=>match b.at p with
    |some (.agg fs)=>if 0<m∧fs.length<lo+l+m then gl A dst esz bytes z es (List.replicate m z) k else .fail
    |_=>.fail
   |_=>.fail
  |_=>.fail
 |_,_=>.fail
open Classical in
noncomputable def nu(A:af)(esz:Nat)(z:I)(k:af→cI):I→cI
 | .view n p sz lo l=>match A.o n with
  |some (.box b)=>match b.at p with
   |some (.agg fs)=>if sz=esz∧I.cK (List.replicate l z)=I.cK ((fs.drop lo).take l) then k (A.aK n (.box (iA b p lo fs (List.replicate l z)))) else .fail
   |_=>.fail
  |_=>.fail
 | .nils _=>k A
 | .c0 _=>k A
 |_=>.fail
open Classical in
noncomputable def ot(A:af)(dst:Option Nat)(esz:Nat)(k:af→cI):I→Option (List I)→cI
 | .view n p sz lo l,some ys=>match A.o n with
  |some (.box b)=>match b.at p with
   |some (.agg fs)=>if sz=esz∧I.cK (ys.take (min ys.length l))=I.cK ((fs.drop lo).take (min ys.length l)) then k ((A.aK n (.box (iA b p lo fs (ys.take (min ys.length l))))).aJ dst (.int .i64 (min ys.length l:Nat))) else .fail
   |_=>.fail
  |_=>.fail
 |_,_=>.fail
open Classical in
noncomputable def bj(A:af)(dst:Option Nat)(op:b8)(rest:List aB)(k:af→cI):cI :=
 match op with
 | .alloc z=>match dst with
  |some d=>match A.o d with
   |none=>k ((A.aK d (.box z)).put d (.ptr d []))
   |some _=>.fail
  |none=>.fail
 | .box x=>match dst with
  |some d=>match A.o d with
   |none=>if (ae A x).cj then k ((A.aK d (.box (ae A x))).put d (.ptr d [])) else .fail
   |some _=>.fail
  |none=>.fail
 | .bu s x v=>match dst with
  |none=>match ae A x with
   | .ptr n p=>match A.o n with
    |some (.box b)=>match b.at p with
     |some old=>if yM s (ae A v) old then k (A.aK n (.box (b.dz p (ae A v)))) else .fail
     |none=>.fail
    |_=>.fail
   |_=>.fail
  |some _=>.fail
 | .dC e esz bytes z s x=>match ae A s with
  | .own n l=>match ae A x with
   | .slice sz ys=>match A.o n with
    |some (.bT T sz' es)=>if yF e esz bytes l sz ys T sz' es then k ((A.aK n (.bT e esz (es++ys))).aJ dst (.own n (es.length+ys.length))) else .fail
    |some (.cV T xs)=>if yG e esz bytes l ys T xs z then k ((A.aK n (.cV e (xs++rp ys))).aJ dst (.own n (xs.length+ys.length))) else .fail
    |_=>.fail
   |_=>.fail
  |s'=>fp A dst esz bytes z s' (er A esz s') (er A esz (ae A x)) k
 | .kL _ esz bytes z s n=>match ae A n with
  | .int _ m=>qK A dst esz bytes z m.toNat (ae A s) (er A esz (ae A s)) k
  |_=>.fail
 | .nilS neg x=>if kc (ae A x) then .any (fun m=>m<2) (fun m=>k (A.aJ dst (.bool (m==0)))) else cN (bx A (.nilS neg x)) fun v=>k (A.aJ dst v)
 | .ju esz z x=>match dst with
  |none=>nu A esz z k (ae A x)
  |some _=>.fail
 | .iI esz x y=>ot A dst esz k (ae A x) (er A esz (ae A y))
 | .call f args=>.call f (args.map (ae A)) (b7 true A (args.map (ae A))) (b7 false A (args.map (ae A))) dst rest A
 | .eD x args=>match ae A x with
  | .func f caps=>.call f (args.map (ae A)++caps) (b7 true A (args.map (ae A)++caps)) (b7 false A (args.map (ae A)++caps)) dst rest A
  | .raw v=>.pD v (args.map (ae A)) dst rest A
  |_=>.fail
 | .jq f args=>.jq f (args.map (ae A)) dst rest A
 | .jX=>match dst with
  |some d=>match A.o d with
   |none=>k ((A.aK d (.cz [] [])).put d (.mref d))
   |some _=>.fail
  |none=>.fail
 | .ky _ bytes z n=>match dst with
  |some d=>match A.o d with
   |none=>match ae A n with
    | .int _ n=>if 0≤n∧n.toNat*bytes≤281474976710656∧n.toNat≤maxLen then k ((A.aK d (.box (.agg (List.replicate n.toNat z)))).put d (.view d [] 1 0 n.toNat)) else .fail
    |_=>.fail
   |some _=>.fail
  |none=>.fail
 | .gQ ty m key v=>match dst with
  |none=>match ae A m with
   | .mref n=>match A.o n with
    |some (.cz ks vs)=>match gp ty (ae A key) (ae A v) ks vs with
     |some (ks',vs')=>k (A.aK n (.cz ks' vs'))
     |none=>.fail
    |_=>.fail
   |_=>.fail
  |some _=>.fail
 | .kF x=>match dst with
  |some d=>match A.o d with
   |none=>match ae A x with
    | .cT ks vs=>k ((A.aK d (.it ks vs (List.range ks.length) none)).put d (.dv d))
    |_=>.fail
   |some _=>.fail
  |none=>.fail
 | .jD x=>match ae A x with
  | .dv n=>match A.o n with
   |some (.it ks vs left cur)=>if left=[] then k (A.aJ dst (.tuple [.bool false])) else
     .any (fun i=>i∈left) fun i=>match ks[i]?,vs[i]? with
      |some kk,some x=>k ((A.aK n (.it ks vs (left.filter (· != i)) (some i))).aJ dst (.tuple [.bool true,kk,x]))
      |_,_=>.fail
   |_=>.fail
  |_=>.fail
 |op=>cN (bx A op) fun v=>k (A.aJ dst v)
noncomputable def az:List aB→af→cI
 | [],A=>.done A
 |g::rest,A=>match g.guard with
  |none=>bj A g.dst g.op rest (az rest)
  |some (t,b)=>match A.t t with
   | .bool b'=>if b'=b then bj A g.dst g.op rest (az rest) else az rest (A.aJ g.dst .undef)
   | .undef=>az rest (A.aJ g.dst .undef)
   |_=>.fail
def Ay(P:Program)(A:af)(f:FuncId)(avs:List I)(r:I):Prop :=
 ∀ (c:cQ) (a:Act) (w:World) (D:aN) (E:aZ) (vs:List Value),c.P=P→aT c A a w D E→fX (aW w D E) avs vs→∃ v,(callFunc f vs.toArray).run P w=.ok (.value v) w∧aW w D E r v
inductive a8 (P:Program) (Y:Value→List I→List (Nat×ai)→cR→Prop) (dr:Bool) (K:af→Prop):cI→Prop where
 |done {A:af} : K A→a8 P Y dr K (.done A)
 |flat {f:FuncId} {avs cargs:List I} {a2:Option (List I)} {dst:Option Nat} {rest:List aB} {A:af} (r:I):aA P f cargs r→r.flat=true→a8 P Y dr K (az rest (A.aJ dst r))→a8 P Y dr K (.call f avs (some cargs) a2 dst rest A)
 |lead {f:FuncId} {avs cargs:List I} {a1:Option (List I)} {dst:Option Nat} {rest:List aB} {A:af} (r:I):aA P f cargs r→a8 P Y dr K (az rest (A.aJ dst r))→a8 P Y dr K (.call f avs a1 (some cargs) dst rest A)
 |iL {f:FuncId} {avs cargs:List I} {a1 a2:Option (List I)} {dst:Option Nat} {rest:List aB} {ts:List (Nat×I)} {os0:List (Nat×ai)} (ns:List Nat) (r:I):dr=false→aA P f cargs r→b7 true (av ts (jc ns os0)) avs=some cargs →
   a7 (fun n => !ns.contains n) (c7 ns os0)→a8 P Y dr K (az rest ((av (gB ns ts) (c7 ns os0)).aJ dst r))→a8 P Y dr K (.call f avs a1 a2 dst rest (av ts os0))
 |bS {f:FuncId} {avs:List I} {a1 a2:Option (List I)} {dst:Option Nat} {rest:List aB} {ts:List (Nat×I)} {os0:List (Nat×ai)} (aC:Bool) (ρ:List (Nat×Nat)) (os:List (Nat×ai)) (cargs:List I) (post:cR):dr=false→cF P f cargs os post →
   fP ρ os os0→jt aC (av ts (c7 (jZ ρ os) os0)) ρ os avs cargs→(∀ r os',post r os'→dx aC ρ os os0 r os') →
   (∀ r os',post r os'→a8 P Y dr K (az rest ((av ts (dJ ρ os'++os0)).aJ dst (r.aR (bD ρ)))))→a8 P Y dr K (.call f avs a1 a2 dst rest (av ts os0))
 |zQ {v:Value} {avs:List I} {dst:Option Nat} {rest:List aB} {ts:List (Nat×I)} {os0:List (Nat×ai)} (os:List (Nat×ai)) (cargs:List I) (post:cR):dr=false→Y v cargs os post →
   fP [] os os0→jt false (av ts (c7 (jZ [] os) os0)) [] os avs cargs→(∀ r os',post r os'→dx false [] os os0 r os') →
   (∀ r os',post r os'→a8 P Y dr K (az rest ((av ts (dJ [] os'++os0)).aJ dst (r.aR (bD [])))))→a8 P Y dr K (.pD v avs dst rest (av ts os0))
 |ext {f:FuncId} {avs:List I} {dst:Option Nat} {rest:List aB} {A:af} (r:I):dr=false→Ay P A f avs r→a8 P Y dr K (az rest (A.aJ dst r))→a8 P Y dr K (.jq f avs dst rest A)
 |any {p:Nat→Prop} {k:Nat→cI} : dr=false→(∀ m,p m→a8 P Y dr K (k m))→a8 P Y dr K (.any p k)
def Dm(n:Nat):Option Nat→Bool
 |some d=>decide (d<n)
 |none=>true
def pC(P:Program)(n:Nat)(bV:Array Oper)(o:Oper):Option aB :=
 match dD P o with
 |none=>none
 |some g=>if Dm n o.dst=true then
   match o.guard with
   |none=>some ⟨o.dst,g,none⟩
   |some (j,b)=>match (bV[j]?).bind (·.dst) with
    |some t=>some ⟨o.dst,g,some (t,b)⟩
    |none=>none
  else none
def kN(P:Program)(n:Nat)(bV:Array Oper):List Oper→Option (List aB)
 | []=>some []
 |o::l=>match pC P n bV o,kN P n bV l with
  |some g,some gs=>some (g::gs)
  |_,_=>none
end Go.Abs
namespace Go.Abs
open Go Go.RowKit
section
variable {c:cQ} {A:af} {o:Oper} {x:I}
theorem akF{g:b8}(hg:dD c.P o=some g)(h:bx A g=some x):dR c A o x:=by
 unfold dD at hg
 split at hg
 -- move
 ·rename_i y ho
  simp only[Option.map_eq_some_iff] at hg
  obtain ⟨z,hz,rfl⟩:=hg
  simp only[bx,Option.some.injEq] at h
  subst h
  exact Ka (.inl ho) hz
 ·rename_i y ho
  simp only[Option.map_eq_some_iff] at hg
  obtain ⟨z,hz,rfl⟩:=hg
  simp only[bx,Option.some.injEq] at h
  subst h
  exact Ka (.inr ho) hz
 -- pick
 ·rename_i q y z ho
  split at hg
  ·rename_i q' y' z' h1 h2 h3
   simp only[Option.some.injEq] at hg
   subst hg
   simp only[bx] at h
   split at h
   ·rename_i t ht
    simp only[Option.some.injEq] at h
    subst h
    exact ahs ho h1 h2 h3 ht
   ·cases h
  ·cases hg
 -- binOp
 ·rename_i op t y z yt ho
  split at hg
  ·rename_i k y' z' hu h1 h2
   simp only[Option.some.injEq] at hg
   subst hg
   exact J8 ho h1 h2 h
  ·rename_i y' z' hu h1 h2
   simp only[Option.some.injEq] at hg
   subst hg
   exact J8 ho h1 h2 h
  ·rename_i e y' z' hu h1 h2
   split at hg
   ·rename_i s
    split at hg
    ·rename_i hop
     simp only[Option.some.injEq] at hg
     subst hg
     have ho':o.op=.binOp (if (op==.neq)=true then .neq else .eql) t y z yt:=by
      rcases hop with rfl | rfl <;>simpa using ho
     simp only[bx] at h
     split at h
     ·rename_i s' hs'
      simp only[Option.some.injEq] at h
      subst h
      have:=xD (r:=true) ho' hu h1 h2 (.inl ⟨s',hs',rfl⟩)
      rw[show (if (op==BinOp.neq)=true then !true else true) = !(op==BinOp.neq) from by cases (op==BinOp.neq) <;>rfl] at this
      exact this
     ·rename_i s' es hs'
      split at h
      ·cases h
      ·rename_i hne
       simp only[Option.some.injEq] at h
       subst h
       have:=xD (r:=false) ho' hu h1 h2 (.inr (.inl ⟨s',es,hs',by simpa using hne,rfl⟩))
       rw[show (if (op==BinOp.neq)=true then !false else false)=(op==BinOp.neq) from by cases (op==BinOp.neq) <;>rfl] at this
       exact this
     ·rename_i n p s' lo k hs'
      simp only[Option.some.injEq] at h
      subst h
      have:=xD (r:=false) ho' hu h1 h2 (.inr (.inr ⟨n,p,s',lo,k,hs',rfl⟩))
      rw[show (if (op==BinOp.neq)=true then !false else false)=(op==BinOp.neq) from by cases (op==BinOp.neq) <;>rfl] at this
      exact this
     ·cases h
    ·cases hg
   ·cases hg
  ·rename_i e y' z' hu h1 h2
   split at hg
   ·rename_i hop
    simp only[Option.some.injEq] at hg
    subst hg
    have ho':o.op=.binOp (if (op==.neq)=true then .neq else .eql) t y z yt:=by
     rcases hop with rfl | rfl <;>simpa using ho
    simp only[bx] at h
    cases hb1:jb (ae A y') with
    |none=>rw[hb1] at h;cases h
    |some b1=>cases hb2:jb (ae A z') with
     |none=>rw[hb1,hb2] at h;cases h
     |some b2 =>
      rw[hb1,hb2] at h
      simp only[mT] at h
      split at h
      ·rename_i hor
       simp only[Option.some.injEq] at h
       subst h
       exact aht ho' hu h1 h2 hb1 hb2 (by simpa using hor)
      ·cases h
   ·cases hg
  ·rename_i d y' z' _ _ _ _ hu h1 h2
   split at hg
   ·rename_i hop
    simp only[Option.map_eq_some_iff] at hg
    obtain ⟨ty,hty,rfl⟩:=hg
    have ho':o.op=.binOp (if (op==.neq)=true then .neq else .eql) t y z yt:=by
     rcases hop.1 with rfl | rfl <;>simpa using ho
    simp only[bx,Option.map_eq_some_iff] at h
    obtain ⟨r,hr,rfl⟩:=h
    exact ahc ho' h1 h2 hop.2 hty hr
   ·cases hg
  ·cases hg
 -- unOp
 ·rename_i op t y ho
  simp only[Option.map_eq_some_iff] at hg
  obtain ⟨z,hz,rfl⟩:=hg
  simp only[bx] at h
  split at h
  ·rename_i b hb
   simp only[Option.some.injEq] at h
   subst h
   exact ahr ho hz hb
  ·rename_i k n hb
   simp only[Option.some.injEq] at h
   subst h
   exact ahq ho hz hb
  ·rename_i k n hb
   simp only[Option.some.injEq] at h
   subst h
   exact aha ho hz hb
  ·cases h
 -- nilCheck
 ·rename_i y ho
  simp only[Option.map_eq_some_iff] at hg
  obtain ⟨z,hz,rfl⟩:=hg
  simp only[bx] at h
  cases hy:ae A z <;>rw[hy] at h <;>simp only[mP,Option.some.injEq] at h <;>try (cases h;done)
  ·subst h;rw[←hy];exact Kb ho hz (.inr ⟨_,hy⟩)
  ·subst h;rw[←hy];exact Kb ho hz (.inl ⟨_,_,hy⟩)
 -- makeMap
 ·simp only[Option.some.injEq] at hg
  subst hg
  simp[bx] at h
 -- lookup
 ·rename_i t m k ok ho
  split at hg
  ·rename_i kt et m' k' hu h1 h2
   split at hg
   ·rename_i ty z hk hz
    split at hg
    ·rename_i hp
     simp only[Option.some.injEq] at hg
     subst hg
     simp only[bx] at h
     cases hm:gE A (ae A m') with
     |none=>rw[hm] at h;cases h
     |some q =>
      obtain ⟨ks,vs⟩:=q
      rw[hm] at h
      simp only[rA] at h
      cases hl:gC ty z (ae A k') ks vs with
      |none=>rw[hl] at h;cases h
      |some q =>
       obtain ⟨v,b⟩:=q
       rw[hl] at h
       simp only[rB,Option.some.injEq] at h
       subst h
       exact aho ho hu hk hz hp h1 h2 hm hl
    ·cases hg
   ·cases hg
  ·cases hg
 -- mapUpdate,insert
 iterate 2
  ·split at hg
   ·split at hg
    ·simp only[Option.some.injEq] at hg
     subst hg
     simp[bx] at h
    ·cases hg
   ·cases hg
 -- makeSlice
 ·split at hg
  ·split at hg
   ·split at hg
    ·simp only[Option.some.injEq] at hg
     subst hg
     simp[bx] at h
    ·cases hg
   ·cases hg
  ·cases hg
 -- range
 ·split at hg
  ·simp only[Option.map_eq_some_iff] at hg
   obtain ⟨z,_,rfl⟩:=hg
   simp[bx] at h
  ·cases hg
 -- next
 ·simp only[Option.map_eq_some_iff] at hg
  obtain ⟨z,_,rfl⟩:=hg
  simp[bx] at h
 -- entry
 ·rename_i y ho
  simp only[Option.map_eq_some_iff] at hg
  obtain ⟨z,hz,rfl⟩:=hg
  simp only[bx] at h
  split at h
  ·rename_i n hn
   split at h
   ·rename_i ks vs left cur hob
    cases cur with
    |none=>cases h
    |some i =>
     simp only[pI] at h
     split at h
     ·rename_i kk xx hk hx
      simp only[Option.some.injEq] at h
      subst h
      exact ahb ho hz hn hob hk hx
     ·cases h
   ·cases h
  ·cases h
 -- convert
 ·rename_i n8 dst y ho
  split at hg
  ·rename_i k0 k y' h1 h2 h3
   simp only[Option.some.injEq] at hg
   subst hg
   simp only[bx] at h
   split at h
   ·rename_i k1 n hn
    simp only[Option.some.injEq] at h
    subst h
    exact ag9 ho h1 h2 h3 hn
   ·cases h
  ·cases hg
 -- load
 ·rename_i t y ho
  split at hg
  ·rename_i s y' h1 h2
   simp only[Option.some.injEq] at hg
   subst hg
   simp only[bx] at h
   split at h
   ·rename_i v hv
    split at h
    ·rename_i hok
     simp only[Option.some.injEq] at h
     subst h
     exact ahn ho h1 h2 hv hok
    ·cases h
   ·cases h
  ·cases hg
 -- fieldAddr
 ·rename_i t y f ho
  split at hg
  ·rename_i fs y' hu h1
   split at hg
   ·rename_i fd hf
    split at hg
    ·cases hg
    ·rename_i hz
     simp only[Option.some.injEq] at hg
     subst hg
     simp only[bx] at h
     split at h
     ·rename_i gs hgs
      split at h
      ·rename_i v hv
       split at h
       ·rename_i hoff
        simp only[Option.some.injEq] at h
        subst h
        exact ahf ho hu hf hz h1 hgs hv hoff
       ·cases h
      ·cases h
     ·rename_i n p hp
      split at h
      ·rename_i gs hgs
       split at h
       ·rename_i hoff
        simp only[Option.some.injEq] at h
        subst h
        exact ahe ho hu hf hz h1 hp hgs hoff.1 hoff.2
       ·cases h
      ·cases h
     ·cases h
   ·cases hg
  ·cases hg
 -- field
 ·rename_i t y f ho
  split at hg
  ·rename_i fs y' hu h1
   split at hg
   ·rename_i fd hf
    simp only[Option.map_eq_some_iff] at hg
    obtain ⟨s,hs,rfl⟩:=hg
    simp only[bx] at h
    split at h
    ·rename_i gs hgs
     split at h
     ·rename_i v hv
      split at h
      ·rename_i hoff
       simp only[Option.some.injEq] at h
       subst h
       exact ahg ho hu hf hs h1 hgs hv hoff.1 hoff.2
      ·cases h
     ·cases h
    ·cases h
   ·cases hg
  ·cases hg
 -- indexAddr
 ·rename_i t y i ho
  split at hg
  ·rename_i n e y' i' hu h1 h2
   split at hg
   ·rename_i hinfo
    obtain ⟨ti,hti⟩:=Option.isSome_iff_exists.1 hinfo
    simp only[Option.some.injEq] at hg
    subst hg
    simp only[bx] at h
    split at h
    ·rename_i kk k hk
     split at h
     ·rename_i hb
      split at h
      ·rename_i gs hgs
       split at h
       ·rename_i hev
        simp only[Option.map_eq_some_iff] at h
        obtain ⟨v,hv,rfl⟩:=h
        exact ahi ho hu hti h1 h2 hgs hk hb hev hv
       ·cases h
      ·rename_i m p hp
       split at h
       ·rename_i gs hgs
        split at h
        ·rename_i hev
         simp only[Option.some.injEq] at h
         subst h
         exact ahh ho hu hti h1 h2 hp hk hb hgs hev
        ·cases h
       ·cases h
      ·cases h
     ·cases h
    ·cases h
   ·cases hg
  ·rename_i e y' i' hu h1 h2
   split at hg
   ·rename_i hinfo
    obtain ⟨ti,hti⟩:=Option.isSome_iff_exists.1 hinfo
    simp only[Option.some.injEq] at hg
    subst hg
    simp only[bx] at h
    split at h
    ·rename_i kk k hk
     split at h
     ·rename_i sz es hes
      split at h
      ·rename_i hb
       obtain ⟨rfl,hb⟩:=hb
       simp only[Option.map_eq_some_iff] at h
       obtain ⟨v,hv,rfl⟩:=h
       exact ahj ho hu hti h1 h2 hes hk hb hv
      ·cases h
     ·rename_i m l hm
      split at h
      ·rename_i T sz es hes
       split at h
       ·rename_i hb
        obtain ⟨rfl,rfl,hb⟩:=hb
        simp only[Option.map_eq_some_iff] at h
        obtain ⟨v,hv,rfl⟩:=h
        exact ahk ho hu hti h1 h2 hm hes hk hb hv
       ·cases h
      ·cases h
     ·rename_i m p sz lo l hm
      split at h
      ·rename_i fs hfs
       split at h
       ·rename_i hb
        simp only[Option.some.injEq] at h
        subst h
        exact ahl ho hu hti h1 h2 hb.1 hm hfs hk hb.2
       ·cases h
      ·cases h
     ·cases h
    ·cases h
   ·cases hg
  ·cases hg
 -- index
 ·rename_i t y i ho
  split at hg
  ·rename_i n e y' i' hu h1 h2
   simp only[Option.map_eq_some_iff] at hg
   obtain ⟨s,hs,rfl⟩:=hg
   simp only[bx] at h
   split at h
   ·rename_i kk k hk
    split at h
    ·rename_i hb
     split at h
     ·rename_i gs hgs
      split at h
      ·rename_i hev
       split at h
       ·rename_i v hv
        split at h
        ·rename_i hok
         simp only[Option.some.injEq] at h
         subst h
         exact ahm ho hu hs h1 h2 hgs hk hb hev hv hok
        ·cases h
       ·cases h
      ·cases h
     ·cases h
    ·cases h
   ·cases h
  ·cases hg
 -- slice
 ·rename_i t y lo hi mx ho
  split at hg
  ·rename_i n e y' hu h1
   split at hg
   ·split at hg
    ·rename_i hinfo
     obtain ⟨ti,hti⟩:=Option.isSome_iff_exists.1 hinfo
     simp only[Option.some.injEq] at hg
     subst hg
     simp only[bx] at h
     split at h
     ·rename_i m p hp
      split at h
      ·rename_i gs hgs
       split at h
       ·rename_i hev
        simp only[Option.some.injEq] at h
        subst h
        exact ahv ho hu hti h1 hp hgs hev.1 hev.2.1 hev.2.2
       ·cases h
      ·cases h
     ·rename_i gs hgs
      split at h
      ·rename_i hev
       simp only[Option.some.injEq] at h
       subst h
       exact ahw ho hu hti h1 hgs hev.1 hev.2.1
      ·cases h
     ·cases h
    ·cases hg
   ·cases hg
  ·rename_i e y' hu h1
   split at hg
   ·rename_i lo' hi' mx' q1 q2 q3
    split at hg
    ·rename_i hc
     obtain ⟨ti,hti⟩:=Option.isSome_iff_exists.1 hc.2
     simp only[Option.some.injEq] at hg
     subst hg
     simp only[bx] at h
     split at h
     ·rename_i sz es hes
      split at h
      ·rename_i hsz
       subst hsz
       exact xE ho hu hti h1 q1 q2 q3 hc.1 (.inl hes) h
      ·cases h
     ·rename_i sz hes
      split at h
      ·rename_i hsz
       subst hsz
       exact xE ho hu hti h1 q1 q2 q3 hc.1 (.inr (.inl ⟨hes,rfl⟩)) h
      ·cases h
     ·rename_i sz hes
      split at h
      ·rename_i hsz
       subst hsz
       exact xE ho hu hti h1 q1 q2 q3 hc.1 (.inr (.inr ⟨hes,rfl⟩)) h
      ·cases h
     ·rename_i n p sz l0 k hv
      split at h
      ·rename_i fs hfs
       split at h
       ·rename_i hsz
        exact ahu ho hu hti h1 q1 q2 q3 hc.1 hsz hv hfs h
       ·cases h
      ·cases h
     ·cases h
    ·cases hg
   ·cases hg
  ·cases hg
 -- build
 ·rename_i t parts ho
  split at hg
  ·rename_i zs ps hz hp
   split at hg
   ·rename_i fs hu
    split at hg
    ·rename_i hc
     simp only[Option.some.injEq] at hg
     subst hg
     simp only[bx,Option.map_eq_some_iff] at h
     obtain ⟨zs',h,rfl⟩:=h
     exact J9 ho hz hp (.inl ⟨fs,hu,hc.1,hc.2⟩) h
    ·cases hg
   ·rename_i n e hu
    split at hg
    ·rename_i hc
     simp only[Option.some.injEq] at hg
     subst hg
     simp only[bx,Option.map_eq_some_iff] at h
     obtain ⟨zs',h,rfl⟩:=h
     exact J9 ho hz hp (.inr ⟨n,e,hu,hc.1,hc.2.1,hc.2.2⟩) h
    ·cases hg
   ·cases hg
  ·cases hg
 -- buildSlice
 ·rename_i t len parts ho
  split at hg
  ·rename_i e hu
   split at hg
   ·rename_i ps hp
    split at hg
    ·rename_i h0
     obtain ⟨rfl,rfl,h0⟩:=h0
     obtain ⟨ti,hti⟩:=Option.isSome_iff_exists.1 h0
     simp only[Option.some.injEq] at hg
     subst hg
     simp only[bx,Option.some.injEq] at h
     subst h
     exact ag8 ho hu hti
    split at hg
    ·rename_i hc
     obtain ⟨c1,c2,c3,iy,lD⟩:=hc
     simp only[Option.some.injEq] at hg
     subst hg
     simp only[bx] at h
     split at h
     ·rename_i es hes
      split at h
      ·rename_i hev
       simp only[Option.some.injEq] at h
       subst h
       refine ag7 ho hu hp c1 c2 c3 iy lD hes (fun y hy =>?_) hev.2
       have:=List.all_eq_true.1 hev.1 y hy
       simpa using this
      ·cases h
     ·cases h
    ·cases hg
   ·cases hg
  ·cases hg
 -- extract
 ·rename_i y i ho
  simp only[Option.map_eq_some_iff] at hg
  obtain ⟨z,hz,rfl⟩:=hg
  simp only[bx] at h
  split at h
  ·rename_i fs hfs
   exact ahd ho hz hfs h
  ·cases h
 -- makeFunc
 ·rename_i f first caps ho
  split at hg
  ·rename_i hfirst
   simp only[Option.map_eq_some_iff] at hg
   obtain ⟨ys,hys,rfl⟩:=hg
   simp only[bx] at h
   split at h
   ·rename_i hv
    simp only[Option.some.injEq] at h
    subst h
    have hf:first = #[]:=by simpa using hfirst
    rw[hf] at ho
    refine ahp ho hys (fun y hy =>?_)
    have:=List.all_eq_true.1 hv (ae A y) (List.mem_map.2 ⟨y,hy,rfl⟩)
    exact this
   ·cases h
  ·cases hg
 -- alloc
 ·simp only[Option.map_eq_some_iff] at hg
  obtain ⟨z,_,rfl⟩:=hg
  simp[bx] at h
 -- box
 ·simp only[Option.map_eq_some_iff] at hg
  obtain ⟨z,_,rfl⟩:=hg
  simp[bx] at h
 -- store
 ·split at hg
  ·split at hg
   ·simp only[Option.some.injEq] at hg
    subst hg
    simp[bx] at h
   ·cases hg
  ·cases hg
 -- call
 ·split at hg
  ·simp only[Option.map_eq_some_iff] at hg
   obtain ⟨z,_,rfl⟩:=hg
   simp[bx] at h
  ·simp only[Option.map_eq_some_iff] at hg
   obtain ⟨z,_,rfl⟩:=hg
   simp[bx] at h
 ·split at hg
  ·simp only[Option.some.injEq] at hg
   subst hg
   simp[bx] at h
  ·cases hg
 -- len
 ·rename_i args tys ho
  split at hg
  ·rename_i y ty hargs htys
   have ho':o.op=.call { callee:=.builtin .len,args := #[y],argTypes := #[ty] } :=by
    rw[ho]
    have e1:args = #[y]:=by apply Array.ext';simpa using hargs
    have e2:tys = #[ty]:=by apply Array.ext';simpa using htys
    rw[e1,e2]
   split at hg
   ·rename_i e hu
    simp only[Option.map_eq_some_iff] at hg
    obtain ⟨y',hy,rfl⟩:=hg
    simp only[bx] at h
    split at h
    ·rename_i sz es hes
     simp only[Option.some.injEq] at h
     subst h
     refine pP ho' hu (.inl ⟨e,rfl⟩) hy (fun a w D E hs v hv =>?_)
     rw[hes] at hv
     obtain ⟨ad,cap,e1,e2,e3,_⟩:=mZ hv
     exact ⟨Nat.le_trans e2 e3,fun _=>⟨ad,cap,e1⟩,fun e=>by cases e⟩
    ·rename_i sz hes
     simp only[Option.some.injEq] at h
     subst h
     refine pP (n:=0) ho' hu (.inl ⟨e,rfl⟩) hy (fun a w D E hs v hv =>?_)
     rw[hes] at hv
     obtain ⟨cs,q1,q2⟩:=hv
     simp only[ah] at q2
     exact ⟨by simp[maxLen],fun _=>⟨none,0,by simpa[bK,I.isAgg,q2] using q1.symm⟩,fun e=>by cases e⟩
    ·rename_i sz hes
     simp only[Option.some.injEq] at h
     subst h
     refine pP (n:=0) ho' hu (.inl ⟨e,rfl⟩) hy (fun a w D E hs v hv =>?_)
     rw[hes] at hv
     obtain ⟨cs,q1,q2⟩:=hv
     simp only[ah] at q2
     obtain ⟨ad,q2⟩:=q2
     exact ⟨by simp[maxLen],fun _=>⟨ad,0,by simpa[bK,I.isAgg,q2] using q1.symm⟩,fun e=>by cases e⟩
    ·rename_i m l hm
     split at h
     ·rename_i T sz es hes
      split at h
      ·rename_i hl
       subst hl
       simp only[Option.some.injEq] at h
       subst h
       refine pP ho' hu (.inl ⟨e,rfl⟩) hy (fun a w D E hs v hv =>?_)
       rw[hm] at hv
       rcases hs.own hes hv with ⟨rfl,_,rfl⟩ | ⟨b,cap,cs,pre,rest,_,rfl,_,_,_,_,_,k8,k9,_⟩
       ·exact ⟨by simp[maxLen],fun _=>⟨none,0,rfl⟩,fun e=>by cases e⟩
       ·exact ⟨Nat.le_trans k8 k9,fun _=>⟨_,_,rfl⟩,fun e=>by cases e⟩
      ·cases h
     ·cases h
    ·rename_i n p sz lo k hm
     simp only[Option.some.injEq] at h
     subst h
     refine pP ho' hu (.inl ⟨e,rfl⟩) hy (fun a w D E hs v hv =>?_)
     rw[hm] at hv
     obtain ⟨cs,q1,q2⟩:=hv
     simp only[ah] at q2
     obtain ⟨b,aP,off,l,_,_,_,q2,q3,q4,_⟩:=q2
     exact ⟨by omega,fun _=>⟨_,_,by simpa[bK,I.isAgg,q2] using q1.symm⟩,fun e=>by cases e⟩
    ·cases h
   ·rename_i hu
    simp only[Option.map_eq_some_iff] at hg
    obtain ⟨y',hy,rfl⟩:=hg
    simp only[bx] at h
    split at h
    ·rename_i s hs'
     simp only[Option.some.injEq] at h
     subst h
     refine pP ho' hu (.inr rfl) hy (fun a w D E hs v hv =>?_)
     rw[hs'] at hv
     obtain ⟨e1,e2⟩:=nZ hv
     exact ⟨e2,(fun e=>by obtain ⟨_,e⟩:=e;cases e),fun _=>⟨s,e1,rfl⟩⟩
    ·cases h
   ·cases hg
  ·cases hg
 -- append
 ·split at hg
  ·split at hg
   ·split at hg
    ·simp only[Option.map_eq_some_iff] at hg
     obtain ⟨z,_,rfl⟩:=hg
     simp[bx] at h
    ·split at hg
     ·simp only[Option.map_eq_some_iff] at hg
      obtain ⟨z,_,rfl⟩:=hg
      simp[bx] at h
     ·cases hg
   ·cases hg
  ·cases hg
 -- cap
 ·rename_i args tys ho
  split at hg
  ·rename_i y ty hargs htys
   have ho':o.op=.call { callee:=.builtin .cap,args := #[y],argTypes := #[ty] } :=by
    rw[ho]
    have e1:args = #[y]:=by apply Array.ext';simpa using hargs
    have e2:tys = #[ty]:=by apply Array.ext';simpa using htys
    rw[e1,e2]
   split at hg
   ·rename_i e hu
    simp only[Option.map_eq_some_iff] at hg
    obtain ⟨y',hy,rfl⟩:=hg
    simp only[bx] at h
    split at h
    ·rename_i sz hes
     simp only[Option.some.injEq] at h
     subst h
     refine xC ho' hu hy (fun a w D E hs v hv =>?_)
     rw[hes] at hv
     obtain ⟨cs,q1,q2⟩:=hv
     simp only[ah] at q2
     exact ⟨by simp[maxLen],_,_,by simpa[bK,I.isAgg,q2] using q1.symm⟩
    ·rename_i sz hes
     simp only[Option.some.injEq] at h
     subst h
     refine xC ho' hu hy (fun a w D E hs v hv =>?_)
     rw[hes] at hv
     obtain ⟨cs,q1,q2⟩:=hv
     simp only[ah] at q2
     obtain ⟨ad,q2⟩:=q2
     exact ⟨by simp[maxLen],_,_,by simpa[bK,I.isAgg,q2] using q1.symm⟩
    ·rename_i n p sz lo k hm
     split at h
     ·rename_i fs hfs
      simp only[Option.some.injEq] at h
      subst h
      refine xC ho' hu hy (fun a w D E hs v hv =>?_)
      rw[hm] at hv
      obtain ⟨_,b,cs,T,off,c1,c2,c3,_,_,_,_,_,_,_,_,_,_,_,q1,q2⟩:=hs.view hv hfs
      exact ⟨by omega,_,_,q2⟩
     ·cases h
    ·cases h
   ·cases hg
  ·cases hg
 -- clear
 ·split at hg
  ·split at hg
   ·simp only[Option.map_eq_some_iff] at hg
    obtain ⟨z,_,rfl⟩:=hg
    simp[bx] at h
   ·cases hg
  ·cases hg
 -- copy
 ·split at hg
  ·split at hg
   ·split at hg
    ·simp only[Option.some.injEq] at hg
     subst hg
     simp[bx] at h
    ·cases hg
   ·cases hg
  ·cases hg
 ·cases hg
theorem fX.append{α β:Type}{R:α→β→Prop} : ∀ {xs:List α} {ys:List β} {xs':List α} {ys':List β},fX R xs ys→fX R xs' ys'→fX R (xs++xs') (ys++ys')
 |_,_,_,_,.nil,h=>h
 |_,_,_,_,.cons h1 h2,h=>.cons h1 (h2.append h)
theorem zr{w:World}{D:aN}{E:aZ} : ∀ {xs:List I} {vs:List Value},aF w D E xs vs→fX (aW w D E) xs vs
 | [],vs,h=>by simp only[aF] at h;subst h;exact .nil
 |x::xs,vs,h=>by
  simp only[aF] at h
  obtain ⟨v,rest,cs,rfl,h1,h2,h3⟩:=h
  exact .cons (mO h1 h2) (zr h3)
theorem TI {P : Program} {f : FuncId} (h : hT P f = true) : ∃ fn, P.funcs[f]? = some fn ∧ ¬ fn.name = "runtime.NumGoroutine" ∧ ¬ fn.body = none := by
 unfold hT at h
 cases hf:P.funcs[f]? with
 |none=>simp[hf] at h
 |some fn =>
  simp only[hf,Option.any_some,Bool.and_eq_true,bne_iff_ne,ne_eq] at h
  refine ⟨fn,rfl,by simpa using h.1,?_⟩
  cases hb:fn.body <;>simp_all
theorem zn{P:Program}{w:World}{f:FuncId}{args:Array Value}(h:hT P f=true):(callFunc f args).run P w=.ok (.enter f args) w:=by
 obtain ⟨fn,h1,h2,h3⟩:=TI h
 simp[callFunc,h1,h2,h3]
theorem aA.alY{f:FuncId}{avs cargs:List I}{r:I}{vs:List Value}{a:Act}{w:World}{D:aN}{E:aZ}(hs:aT c A a w D E)(h:aA c.P f cargs r)(hf:r.flat=true)(hc:b7 true A avs=some cargs)(hv:fX (aW w D E) avs vs) :
  Calls c.P f vs.toArray w fun e w'=>∃ v D',e=.returned v∧aT c A a w' D' E∧aW w' D' E r v:=by
 have hw:iE true A D E (fun b _=>b<w.heap.size):=by
  refine ⟨fun b o hd=>hs.dg b o hd,fun n T sz es b cap hn aw o _=>hs.fY aw rfl,fun _ n x b aP hn aw o _=>hs.fY aw rfl,fun _ n ks vs b hn aw=>hs.fY aw rfl⟩
 have hrv:=mG (E':=dK) hs (fun _ _ h=>h) hw avs cargs vs (m7 _ _ hv (qZ hc)) hc
 refine (h.2 w _ vs (fun _ _ hd=>hd) hrv).mono fun e w' ⟨v,D',he,h1,h2,h3,h4⟩=>⟨v,D,he,?_,aW.flat hf h1⟩
 exact hs.grow h2 (fun _ _ hd=>hd) (fun _ _ hd _=>hd) (fun b o hd=>Nat.lt_of_lt_of_le (hs.dg b o hd) h2.size)
theorem aA.al0{f:FuncId}{avs cargs:List I}{r:I}{vs:List Value}{a:Act}{w:World}{D:aN}{E:aZ}(hs:aT c A a w D E)(h:aA c.P f cargs r)(hc:b7 false A avs=some cargs)(hv:fX (aW w D E) avs vs) :
  Calls c.P f vs.toArray w fun e w'=>∃ v D',e=.returned v∧aT c A a w' D' E∧aW w' D' E r v:=by
 obtain ⟨hs1,hw⟩:=hs.oZ
 have hrv:=mG (E':=dK) hs (fun _ _ h=>h) hw avs cargs vs (m7 _ _ hv (qZ hc)) hc
 refine (h.2 w _ vs hs1.dg hrv).mono fun e w' ⟨v,D',he,h1,h2,h3,h4⟩=>⟨v,fun b o=>oU A D E b o∨(w.heap.size≤b∧D' b o),he,?_,?_⟩
 ·refine hs1.grow h2 (fun _ _ hd=>.inl hd) ?_ ?_
  ·rintro b o (hd | ⟨hle,_⟩) hlt
   ·exact hd
   ·omega
  ·rintro b o (hd | ⟨_,hd⟩)
   ·exact Nat.lt_of_lt_of_le (hs1.dg b o hd) h2.size
   ·exact h3 b o hd
 ·refine aW.bL (E:=dK) ⟨fun b o hd =>?_,fun _ _ _ _ h=>h,fun n b aP hn=>by simp[dK] at hn,fun n aE l hn=>by simp[dK] at hn,fun n b hn=>by simp[dK] at hn,fun n b hn=>by simp[dK] at hn,fun _ _ _ _ h=>h⟩ h1
  rcases Nat.lt_or_ge b w.heap.size with hlt | hge
  ·exact .inl (h4 b o hd hlt)
  ·exact .inr ⟨hge,hd⟩
theorem KO(p:Nat→Bool)(os:List (Nat×ai))(n:Nat):al (os.filter fun q=>p q.1) n=if p n then al os n else none:=by
 induction os with
 |nil=>simp[al]
 |cons q os ih =>
  obtain ⟨k,v⟩:=q
  simp only[List.filter_cons]
  by_cases hk:p k=true
  ·simp only[hk,if_true,al,ih]
   by_cases hn:n=k
   ·subst hn;simp only[hk,if_true]
   ·simp only[if_neg hn]
  ·simp only[hk,Bool.false_eq_true,if_false,ih,al]
   by_cases hn:n=k
   ·subst hn;simp[hk]
   ·simp only[if_neg hn]
theorem nL(ns:List Nat)(os:List (Nat×ai))(n:Nat):al (c7 ns os) n=if ns.contains n then none else al os n:=by
 rw[c7,KO (fun n => !ns.contains n)]
 cases ns.contains n <;>rfl
theorem oH(ns:List Nat)(os:List (Nat×ai))(n:Nat):al (jc ns os) n=if ns.contains n then al os n else none:=KO _ _ _
theorem yP{p:Nat→Bool} : ∀ {os:List (Nat×ai)},a7 p os→∀ k x,al os k=some x→x.only p=true
 | [],_,k,x,hx=>by simp[al] at hx
 |(j,v)::r,h,k,x,hx=>by
  simp only[a7] at h
  simp only[al] at hx
  split at hx
  ·simp only[Option.some.injEq] at hx;subst hx;exact h.1
  ·exact yP h.2 k x hx
theorem KP(ns:List Nat):∀ (ts:List (Nat×I)) (t:Nat),cn (gB ns ts) t=if (cn ts t).only (fun n => !ns.contains n) then cn ts t else .df
 | [],t=>by simp[gB,cn,I.only]
 |(k,v)::r,t=>by
  simp only[gB,List.map_cons,cn]
  by_cases h:t=k
  ·simp only[if_pos h]
  ·simp only[if_neg h];exact KP ns r t
theorem aT.D6{a:Act}{w:World}{D:aN}{E:aZ}{ts:List (Nat×I)}{os0:List (Nat×ai)}(h:aT c (av ts os0) a w D E)(ns:List Nat)(ho:a7 (fun n => !ns.contains n) (c7 ns os0)) :
  ∃ D' E',aT c (av (gB ns ts) (c7 ns os0)) a w D' E'∧iE true (av ts (jc ns os0)) D E D':=by
 have h1:=h.oZ.1
 have hw1:=h.oZ.2
 obtain ⟨D1,hD1⟩:∃ D1,D1=oU (av ts os0) D E:=⟨_,rfl⟩
 rw[←hD1] at h1 hw1
 obtain ⟨D2,hD2⟩:∃ D2:aN,D2=fun b o=>D1 b o∨(∃ n x aP,ns.contains n=true∧al os0 n=some (.box x)∧E n=some (.aC b aP)∧o<x.size)∨∃ n ks vs,ns.contains n=true∧al os0 n=some (.cz ks vs)∧E n=some (.cz b)∧o=0:=⟨_,rfl⟩
 obtain ⟨E2,hE2⟩:∃ E2:aZ,E2=fun n=>if ns.contains n then none else E n:=⟨_,rfl⟩
 have e2:∀ n,(!ns.contains n)=true→E2 n=E n:=fun n hn=>by rw[hE2];simp at hn;simp[hn]
 have hl:dS w D1 E2 w D2 E2:=⟨fun b o hd=>by rw[hD2];exact .inl hd,fun _ _ _ _ h=>h,fun _ _ _ h=>h,fun _ aE l h=>⟨aE,l,h,Nat.le_refl _,fun _=>rfl⟩,fun _ _ h=>h,fun _ _ h=>h,fun _ _ _ _ h=>h⟩
 have p9:∀ b o,D2 b o→D1 b o∨∃ n e q,ns.contains n=true∧E n=some e∧e.aE=some b∧c.fm b∧w.heap[b]?=some q:=fun b o hd=>by
  rw[hD2] at hd
  rcases hd with hd | ⟨n,x,aP,k1,k2,k3,k4⟩ | ⟨n,ks,vs,k1,k2,k3,_⟩
  ·exact .inl hd
  ·obtain ⟨b',cs,T,q1,q2,q3,_⟩:=h.box (n:=n) (x:=x) (by simpa[av] using k2)
   rw[k3] at q1
   simp only[Option.some.injEq,bU.aC.injEq] at q1
   obtain ⟨rfl,rfl⟩:=q1
   exact .inr ⟨n,_,_,k1,k3,rfl,q2,q3⟩
  ·obtain ⟨b',es,ck,q1,q2,q3,_⟩:=h.map (n:=n) (ks:=ks) (vs:=vs) (by simpa[av] using k2)
   rw[k3] at q1
   cases q1
   exact .inr ⟨n,_,_,k1,k3,rfl,q2,q3⟩
 refine ⟨D2,E2,⟨h1.sz,h1.eV,fun t =>?_,h1.dZ,fun b o hd hm =>?_,fun b o hd =>?_,fun n =>?_,fun n m e e' b g1 g2 g3 g4 =>?_,fun n e hn =>?_,h1.ff,fun b o hd=>hl.c6 b o (h1.cL b o hd),h1.fk,h1.fL⟩,?_⟩
 ·simp only[av,KP]
  have ht:=h1.ew t
  simp only[av] at ht
  split
  ·rename_i hp
   exact aW.bL hl (aW.dy e2 hp ht)
  ·simp[aW]
 ·rcases p9 b o hd with hd | ⟨n,e,q,_,_,_,k,_⟩
  ·exact h1.c6 b o hd hm
  ·exact absurd k hm
 ·rcases p9 b o hd with hd | ⟨n,e,q,_,_,_,_,k⟩
  ·exact h1.dg b o hd
  ·exact gb k
 ·simp only[av,nL]
  by_cases hn:ns.contains n=true
  ·simp only[hn,if_true,c9];rw[hE2];simp only[hn,if_true]
  ·have hnb:(!ns.contains n)=true:=by simpa using hn
   simp only[hn,Bool.false_eq_true,if_false]
   have hob:=h1.bS n
   simp only[av] at hob
   cases hx:al os0 n with
   |none=>rw[hx] at hob;simp only[c9] at hob ⊢;rw[e2 n hnb];exact hob
   |some x =>
    have hon:=yP ho n x (by rw[nL,if_neg hn];exact hx)
    have nD:∀ e b,E n=some e→e.aE=some b→∀ o,D2 b o→D1 b o:=fun e b he hb o hd=>by
     rcases p9 b o hd with hd | ⟨m,e',q,k1,k3,k2,_⟩
     ·exact hd
     ·have:=h.cU n m e _ b he k3 hb k2
      subst this
      exact absurd k1 hn
    rw[hx] at hob
    cases x with
    |box x =>
     obtain ⟨b,cs,T,k1,k2,k3,k4,k5⟩:=hob
     exact ⟨b,cs,T,(e2 n hnb).trans k1,k2,k3,ah.bL hl _ _ (ah.dy e2 _ _ (by simpa[ai.only] using hon) k4),fun o hd=>k5 o (nD _ b k1 rfl o hd)⟩
    |bT T sz es =>
     obtain ⟨aE,k1,k2,k3⟩:=hob
     refine ⟨aE,(e2 n hnb).trans k1,k2,?_⟩
     cases aE with
     |none=>exact k3
     |some bc =>
      obtain ⟨b,cap⟩:=bc
      obtain ⟨cs,pre,rest,q1,q2,q3,q4,q5,q6,q7,q8⟩:=k3
      exact ⟨cs,pre,rest,q1,q2,q3,aG.bL hl _ _ (aG.dy e2 _ _ (by simpa[ai.only] using hon) q4),q5,q6,q7,fun o hd=>q8 o (nD _ b k1 rfl o hd)⟩
    |cV T xs =>
     obtain ⟨aE,k1,k2,k3⟩:=hob
     refine ⟨aE,(e2 n hnb).trans k1,k2,?_⟩
     cases aE with
     |none=>exact k3
     |some bc =>
      obtain ⟨b,cap⟩:=bc
      obtain ⟨cs,r,q1,q2,q3,q4,q5,q6,q7⟩:=k3
      exact ⟨cs,r,q1,q2,q3,q4,q5,q6,fun o hd=>q7 o (nD _ b k1 rfl o hd)⟩
    |dO x =>
     obtain ⟨b,k1,k2,k3,k4,k5⟩:=hob
     exact ⟨b,(e2 n hnb).trans k1,k2,k3,k4,fun o hd=>k5 o (nD _ b k1 rfl o hd)⟩
    |cz ks vs =>
     obtain ⟨b,es,ck,k1,k2,k3,k4,k5,k6,k7⟩:=hob
     simp only[ai.only,Bool.and_eq_true] at hon
     exact ⟨b,es,ck,(e2 n hnb).trans k1,k2,k3,k4,aF.bL hl _ _ (aF.dy e2 _ _ hon.1 k5),aF.bL hl _ _ (aF.dy e2 _ _ hon.2 k6),fun o hd=>k7 o (nD _ b k1 rfl o hd)⟩
    |it ks vs left cur =>
     obtain ⟨r,b,es,ck,si,se,la,k1,k2,k3,k4,k5,k6,k7,k8,k9,k9',k10⟩:=hob
     simp only[ai.only,Bool.and_eq_true] at hon
     exact ⟨r,b,es,ck,si,se,la,(e2 n hnb).trans k1,k2,k3,k4.bL hl,aF.bL hl _ _ (aF.dy e2 _ _ hon.1 k5),aF.bL hl _ _ (aF.dy e2 _ _ hon.2 k6),k7,k8,k9,k9',fun o hd=>k10 o (nD _ r k1 rfl o hd)⟩
 ·have cut:∀ n e,E2 n=some e→E n=some e:=fun n e he=>by
   rw[hE2] at he
   simp only at he
   split at he
   ·cases he
   ·exact he
  exact h.cU n m e e' b (cut n e g1) (cut m e' g2) g3 g4
 ·by_cases hm:ns.contains n=true
  ·left;rw[hE2];simp only[hm,if_true]
  ·rw[e2 n (by simpa using hm)];exact h.eb n e hn
 ·refine ⟨fun b o hd=>by rw[hD2];exact .inl (hw1.c6 b o hd),fun n T sz es b cap hn aw o hlt =>?_,fun _ n x b aP hn aw o hlt =>?_,fun _ n ks vs b hn aw =>?_⟩
  ·simp only[av,oH] at hn
   split at hn
   ·rw[hD2];exact .inl (hw1.bT n T sz es b cap hn aw o hlt)
   ·cases hn
  ·simp only[av,oH] at hn
   split at hn
   ·rename_i hk
    rw[hD2];exact .inr (.inl ⟨n,x,aP,hk,hn,aw,hlt⟩)
   ·cases hn
  ·simp only[av,oH] at hn
   split at hn
   ·rename_i hk
    rw[hD2];exact .inr (.inr ⟨n,ks,vs,hk,hn,aw,rfl⟩)
   ·cases hn
theorem aA.alZ{f:FuncId}{avs cargs:List I}{r:I}{vs:List Value}{a:Act}{w:World}{D:aN}{E:aZ}{ts:List (Nat×I)}{os0:List (Nat×ai)}(hs:aT c (av ts os0) a w D E)(ns:List Nat)(ho:a7 (fun n => !ns.contains n) (c7 ns os0))
  (h:aA c.P f cargs r) (hc:b7 true (av ts (jc ns os0)) avs=some cargs) (hv:fX (aW w D E) avs vs) :
  Calls c.P f vs.toArray w fun e w'=>∃ v D' E',e=.returned v∧aT c (av (gB ns ts) (c7 ns os0)) a w' D' E'∧aW w' D' E' r v:=by
 obtain ⟨D1,E1,hs1,hw⟩:=hs.D6 ns ho
 have hu:ez (av ts (jc ns os0)) (av ts os0):=fun n x hx=>by
  simp only[av,oH] at hx ⊢
  split at hx
  ·exact hx
  ·cases hx
 have hrv:=mG (E':=dK) hs hu hw avs cargs vs (m7 _ _ hv (qZ hc)) hc
 refine (h.2 w _ vs hs1.dg hrv).mono fun e w' ⟨v,D',he,h1,h2,h3,h4⟩=>⟨v,fun b o=>D1 b o∨(w.heap.size≤b∧D' b o),E1,he,?_,?_⟩
 ·refine hs1.grow h2 (fun _ _ hd=>.inl hd) ?_ ?_
  ·rintro b o (hd | ⟨hle,_⟩) hlt
   ·exact hd
   ·omega
  ·rintro b o (hd | ⟨_,hd⟩)
   ·exact Nat.lt_of_lt_of_le (hs1.dg b o hd) h2.size
   ·exact h3 b o hd
 ·refine aW.bL (E:=dK) ⟨fun b o hd =>?_,fun _ _ _ _ h=>h,fun n b aP hn=>by simp[dK] at hn,fun n aE l hn=>by simp[dK] at hn,fun n b hn=>by simp[dK] at hn,fun n b hn=>by simp[dK] at hn,fun _ _ _ _ h=>h⟩ h1
  rcases Nat.lt_or_ge b w.heap.size with hlt | hge
  ·exact .inl (h4 b o hd hlt)
  ·exact .inr ⟨hge,hd⟩
theorem vu{a:Act}{w:World}{D D1:aN}{E:aZ}{ts:List (Nat×I)}{os0 os:List (Nat×ai)}{ρ:List (Nat×Nat)}{aC:Bool}{A0:af}(hs:aT c (av ts os0) a w D E)(hu:ez A0 (av ts os0))(hD:∀ b o,D b o→D1 b o)(hw:iE aC A0 D E D1) :
  ∀ (avs cargs:List I) (vs:List Value),jt aC A0 ρ os avs cargs→fX (aW w D E) avs vs→aF w D1 (aw ρ os E) cargs vs
 | [],[],vs,_,hv=>by cases hv;simp[aF]
 | [],_::_,_,h,_=>by simp[jt] at h
 |_::_,[],_,h,_=>by simp[jt] at h
 |x::xs,y::ys,vs,h,hv=>by
  cases hv with
  |cons hv hvs =>
  rename_i v vs
  simp only[jt] at h
  have ih:=vu hs hu hD hw xs ys vs h.2 hvs
  have hl:dS w D (aw ρ os E) w D1 (aw ρ os E):=⟨hD,fun _ _ _ _ h=>h,fun _ _ _ h=>h,fun _ aE l h=>⟨aE,l,h,Nat.le_refl _,fun _=>rfl⟩,fun _ _ h=>h,fun _ _ h=>h,fun _ _ _ _ h=>h⟩
  have h1:∃ cs,bK y v cs∧ah w D1 (aw ρ os E) y cs:=by
   rcases h.1 with ⟨k1,k2,k3⟩ | k
   ·rw[k1] at hv
    have h2:=aW.bL hl ((aW.aR (w:=w) (D:=D) (p:=au os) (ρ:=bD ρ) (E:=aw ρ os E) (E':=E) (fun n hn=>by simp only[aw,hn,if_true]) k2).1 hv)
    cases y <;>simp only[aW] at h2 <;>first | (simp[I.cj] at k3;done) | exact h2
   ·have h2:aF w D E [x] [v]:=m7 [x] [v] (.cons hv .nil) (by
     intro z hz
     simp only[List.mem_singleton] at hz
     subst hz
     cases z <;>simp_all[br,I.cj])
    have h3:=mG (E':=aw ρ os E) hs hu hw [x] [y] [v] h2 (by simp[b7,k])
    simp only[aF] at h3
    obtain ⟨v',rest,cs,e,k1,k2,_⟩:=h3
    simp only[List.cons.injEq] at e
    obtain ⟨rfl,_⟩:=e
    exact ⟨cs,k1,k2⟩
  obtain ⟨cs,k1,k2⟩:=h1
  simp only[aF]
  exact ⟨v,vs,cs,rfl,k1,k2,ih⟩
theorem ez.drop(ts:List (Nat×I))(ns:List Nat)(os0:List (Nat×ai)):ez (av ts (c7 ns os0)) (av ts os0):=fun n x hx=>by
 simp only[av,nL] at hx ⊢
 split at hx
 ·cases hx
 ·exact hx
theorem qC.use{run:Array Value→World→(Ending→World→Prop)→Prop}{since:World→aN→aZ→Prop}{avs cargs:List I}{post:cR}{vs:List Value}{a:Act}{w:World}{D:aN}{E:aZ}{ts:List (Nat×I)}{os0 os:List (Nat×ai)}{ρ:List (Nat×Nat)}
  (hs:aT c (av ts os0) a w D E) (h:qC run since cargs os post) (aC:Bool) (hmono:∀ {vs w R R'},run vs w R→(∀ e w,R e w→R' e w)→run vs w R') (hsince:(aC=true→∀ D E,since w D E)∧(aC=false→since w (oU (av ts os0) D E) (aw ρ os E)))
  (hg:fP ρ os os0) (ha:jt aC (av ts (c7 (jZ ρ os) os0)) ρ os avs cargs) (hb:∀ r os',post r os'→dx aC ρ os os0 r os') (hv:fX (aW w D E) avs vs) :
  run vs.toArray w fun e w'=>∃ v r os' D2 E2,e=.returned v∧post r os'∧aT c (av ts (dJ ρ os'++os0)) a w' D2 E2∧aW w' D2 E2 (r.aR (bD ρ)) v∧∀ m e,aw ρ os E m=some e→au os' m=true→∃ e',E2 (bD ρ m)=some e'∧e.le e':=by
 have notName:∀ n,(jZ ρ os).contains n=false→∀ m,au os m=true→bD ρ m≠n:=fun n hn m hm he=>by
  obtain ⟨q,hq,rfl⟩:=xW.1 hm
  have:(jZ ρ os).contains n=true:=by simp only[jZ,List.contains_iff_mem,List.mem_map];exact ⟨q,hq,he⟩
  rw[this] at hn;cases hn
 have other:∀ {D:aN},aT c (av ts os0) a w D E→∀ n e b x,al (c7 (jZ ρ os) os0) n=some x→E n=some e→e.aE=some b→¬ dw (aw ρ os E) b:=fun hs n e b x hx he hb ho=>by
  obtain ⟨m,e',h1,h2,hb',_⟩:=hs.tq hg ho
  rw[nL] at hx
  split at hx
  ·cases hx
  ·rename_i hc
   have:=hs.cU n (bD ρ m) e _ b he h2 hb hb'
   exact notName n (by simpa using hc) m h1 this.symm
 cases aC with
 |true =>
  obtain ⟨D1,hD1⟩:∃ D1:aN,D1=fun b o=>D b o∨(b<w.heap.size∧¬ dw (aw ρ os E) b):=⟨_,rfl⟩
  have hD:∀ b o,D b o→D1 b o:=fun b o hd=>by rw[hD1];exact .inl hd
  have hw:iE true (av ts (c7 (jZ ρ os) os0)) D E D1:=by
   refine ⟨hD,fun n T sz es b cap hn aw o _ =>?_,fun _ n x b aP hn aw o _ =>?_,fun _ n ks vs b hn aw =>?_⟩
   ·rw[hD1];exact .inr ⟨hs.fY aw rfl,other hs n _ b _ hn aw rfl⟩
   ·rw[hD1];exact .inr ⟨hs.fY aw rfl,other hs n _ b _ hn aw rfl⟩
   ·rw[hD1];exact .inr ⟨hs.fY aw rfl,other hs n _ b _ hn aw rfl⟩
  have hrv:=vu hs (ez.drop ts _ os0) hD hw avs cargs vs ha hv
  refine hmono (h w D1 (aw ρ os E) vs (hsince.1 rfl _ _) (fun b o hd=>by
   rw[hD1] at hd
   rcases hd with hd | hd
   ·exact hs.dg b o hd
   ·exact hd.1) (hs.Ki hg hD fun b o hd ho=>by
    rw[hD1] at hd
    rcases hd with hd | hd
    ·exact hd
    ·exact absurd ho hd.2) hrv) ?_
  rintro e w' ⟨v,D',E',r,os',he,hp,h1,h2,h3,h4,h5,h6,h7,h8⟩
  obtain ⟨D2,E2,k1,k2⟩:=hs.py hg hD (fun h=>by cases h) (hb r os' hp) h1 h2 h3 h5 h4 h8 h6 h7
  exact ⟨v,r,os',D2,E2,he,hp,k1,k2⟩
 |false =>
  obtain ⟨hs1,hw⟩:=hs.oZ
  have hw':iE false (av ts (c7 (jZ ρ os) os0)) D E (oU (av ts os0) D E):=⟨hw.c6,fun n T sz es b cap hn aw o hlt=>hw.bT n T sz es b cap (ez.drop ts _ os0 n _ hn) aw o hlt,(fun hb=>by cases hb),fun hb=>by cases hb⟩
  have hrv:=vu hs (ez.drop ts _ os0) hw.c6 hw' avs cargs vs ha hv
  refine hmono (h w _ (aw ρ os E) vs (hsince.2 rfl) hs1.dg (hs1.Ki hg (fun _ _ h=>h) fun b o hd _=>hd) hrv) ?_
  rintro e w' ⟨v,D',E',r,os',he,hp,h1,h2,h3,h4,h5,h6,h7,h8⟩
  obtain ⟨D2,E2,k1,k2⟩:=hs1.py hg (fun _ _ h=>h) (fun _ _ _ h=>h) (hb r os' hp) h1 h2 h3 h5 h4 h8 h6 h7
  exact ⟨v,r,os',D2,E2,he,hp,k1,k2⟩
theorem aT.since{A:af}{a:Act}{w:World}{D:aN}{E E':aZ}(h:aT c A a w D E)(aw:∀ n,E' n=E n∨E' n=none):Ax c w D E' :=
 ⟨h.dZ,h.cL,h.c6,fun n e hn=>by
  rcases aw n with k | k
  ·rw[k];exact h.eb n e hn
  ·exact .inl k,h.fL⟩
theorem ox(c:cQ)(f:FuncId):c.bt.fn f:=by unfold cQ.bt;split <;>trivial
theorem Dj(c:cQ):c.bt.depth.isSome=true→1≤9:=fun _=>by omega
theorem mw{a:Act}{w:World} : ∀ f,o.about c.P w a.eval=some f→c.bt.fn f:=fun f _=>ox c f
theorem m9{g:b8}(hg:dD c.P o=some g)(r:Option Nat)(ρ:Operand→Value):o.semAt r ρ=execOp ρ o:=by
 cases r with
 |none=>rfl
 |some l =>
  refine Oper.semAt_some l ρ o fun cl h =>?_
  unfold dD at hg
  rw[h] at hg
  simp at hg
theorem TK{f:FuncId}{args:Array Value}{w:World}{R:Ending→World→Prop}(h:Calls c.P f args w R):CallsIn c.bt (9-1) c.P f args w R:=by
 have h1:CallsIn Fence.wide (9-1) c.P f args w R:=callsIn_wide.2 h
 unfold cQ.bt
 split
 ·exact h1
 ·exact h1
theorem sA.mono{P:Program}{v:Value}{vs:Array Value}{w:World}{R R':Ending→World→Prop}(h:sA P v vs w R)(hr:∀ e w,R e w→R' e w):sA P v vs w R':=by
 obtain ⟨l,h1,fn,tmps,assign,body,h2,h3⟩:=h
 exact ⟨l,h1,fn,tmps,assign,body,h2,h3.mono hr⟩
theorem ak7{l:Nat}{f:FuncId}{tmps:Array Value}{assign body:Code}{w:World}{R:Ending→World→Prop}(h:RoundIn Fence.wide 9 c.P l f tmps assign body w R):RoundIn c.bt (9-1) c.P l f tmps assign body w R:=by
 have h1:RoundIn Fence.wide (9-1) c.P l f tmps assign body w R:=⟨h.1,fun cc cs _=>h.2 cc cs (room_wide _)⟩
 unfold cQ.bt
 split
 ·exact h1
 ·exact h1
theorem iU.wp{B:af}{g:b8}(hg:dD c.P o=some g)(h:iU c A o B){a:Act}{w:World}{K:Act→World→Prop}{Q:Exit→Act→World→Prop}(hs:cw c A a w)(hK:∀ a w,cw c B a w→K a w):o.wpIn c.bt 9 c.P a w K Q:=by
 obtain ⟨D,E,hs⟩:=hs
 obtain ⟨w',h⟩:=h a w D E hs
 refine ⟨mw,?_⟩
 rw[m9 hg]
 rcases h with ⟨v,h1,h2⟩ | ⟨h1,h2⟩
 ·rw[h1];exact hK _ _ h2
 ·rw[h1];exact hK _ _ h2
theorem CU{dr:Bool}{K:af→Prop}{f:FuncId}{avs:List I}{a1 a2:Option (List I)}{vs:List Value}{dst:Option Nat}{rest:List aB}{a:Act}{w:World}{Kw:Act→World→Prop}{Q:Exit→Act→World→Prop}{g:b8}(hg:dD c.P o=some g)(h1:b7 true A avs=a1)(h2:b7 false A avs=a2)
  (hs:∀ D E,aT c A a w D E→fX (aW w D E) avs vs) (hsim:cw c A a w) (hwp:a8 c.P c.Y dr K (.call f avs a1 a2 dst rest A)) (hd:o.dst=dst) (hdn:∀ k,dst=some k→k<c.n)
  (hrun:hT c.P f=true→(execOp a.eval o).run c.P w=.ok (.enter f vs.toArray) w)
  (hK:∀ B a' w',a8 c.P c.Y dr K (az rest B)→cw c B a' w'→Kw a' w'):o.wpIn c.bt 9 c.P a w Kw Q:=by
 obtain ⟨D,E,hsw⟩:=hsim
 have pb:∀ {R:Ending→World→Prop},hT c.P f=true→Calls c.P f vs.toArray w R→(∀ e w',R e w'→∃ v,e=.returned v∧Kw (a.put o.dst v) w')→o.wpIn c.bt 9 c.P a w Kw Q:=fun {R} hc hcl hR=>by
  refine ⟨mw,?_⟩
  rw[m9 hg,hrun hc,Oper.uponIn_enter]
  refine ⟨Dj c,TK (hcl.mono fun e w' he =>?_)⟩
  obtain ⟨v,rfl,hv⟩:=hR e w' he
  exact hv
 cases hwp with
 |flat r hspec hflat hrest =>
  refine pb hspec.1 (hspec.alY hsw hflat h1 (hs D E hsw)) ?_
  rintro e w' ⟨v,D',he,hs',hv⟩
  refine ⟨v,he,?_⟩
  rw[hd]
  exact hK _ _ _ hrest ⟨D',E,hs'.aJ hdn hv⟩
 |lead r hspec hrest =>
  refine pb hspec.1 (hspec.al0 hsw h2 (hs D E hsw)) ?_
  rintro e w' ⟨v,D',he,hs',hv⟩
  refine ⟨v,he,?_⟩
  rw[hd]
  exact hK _ _ _ hrest ⟨D',E,hs'.aJ hdn hv⟩
 |iL ns r hdr hspec hf ho hrest =>
  refine pb hspec.1 (hspec.alZ hsw ns ho hf (hs D E hsw)) ?_
  rintro e w' ⟨v,D',E',he,hs',hv⟩
  refine ⟨v,he,?_⟩
  rw[hd]
  exact hK _ _ _ hrest ⟨D',E',hs'.aJ hdn hv⟩
 |bS aC ρ os cargs post hdr hspec hgv ha hb hrest =>
  refine pb hspec.1 (hspec.2.use hsw aC (fun h=>h.mono) ⟨fun _ _ _=>trivial,fun _=>trivial⟩ hgv ha hb (hs D E hsw)) ?_
  rintro e w' ⟨v,r,os',D2,E2,he,hp,hs',hv,_⟩
  refine ⟨v,he,?_⟩
  rw[hd]
  exact hK _ _ _ (hrest r os' hp) ⟨D2,E2,hs'.aJ hdn hv⟩
theorem TJ{dr:Bool}{K:af→Prop}{v:Value}{avs:List I}{vs:List Value}{dst:Option Nat}{rest:List aB}{a:Act}{w:World}{Kw:Act→World→Prop}{Q:Exit→Act→World→Prop}{g:b8}(hg:dD c.P o=some g)
  (hs:∀ D E,aT c A a w D E→fX (aW w D E) avs vs) (hsim:cw c A a w) (hwp:a8 c.P c.Y dr K (.pD v avs dst rest A)) (hd:o.dst=dst) (hdn:∀ k,dst=some k→k<c.n)
  (hrun:∀ l,v=.func (.yield l) #[] #[]→(execOp a.eval o).run c.P w=(Instr.yield l vs.toArray).run c.P w)
  (hK:∀ B a' w',a8 c.P c.Y dr K (az rest B)→cw c B a' w'→Kw a' w'):o.wpIn c.bt 9 c.P a w Kw Q:=by
 obtain ⟨D,E,hsw⟩:=hsim
 cases hwp with
 |zQ os cargs post hdr hY hgv ha hb hrest =>
  have hyr:=(hsw.fk _ _ _ _ hY).use (ρ:=[]) hsw false (fun h=>h.mono) ⟨(fun h=>by cases h),fun _=>hsw.oZ.1.since (fun n=>by simp only[aw,bD];split <;>simp)⟩ hgv ha hb (hs D E hsw)
  obtain ⟨l,rfl,fn,tmps,assign,body,h2,h3⟩:=hyr
  refine ⟨mw,?_⟩
  rw[m9 hg,hrun l rfl,h2,Oper.uponIn_round]
  refine ⟨Dj c,ak7 (h3.mono fun e w' he =>?_)⟩
  obtain ⟨v,r,os',D2,E2,rfl,hp,hs',hv,_⟩:=he
  rw[hd]
  exact hK _ _ _ (hrest r os' hp) ⟨D2,E2,hs'.aJ hdn hv⟩
end
section
variable {c:cQ} {A:af} {o:Oper}
theorem vC{P:Program}{n:Nat}{bV:Array Oper}{g:aB}(h:pC P n bV o=some g):dD P o=some g.op∧g.dst=o.dst∧(∀ k,o.dst=some k→k<n) ∧
  ((o.guard=none∧g.guard=none)∨∃ j b t,o.guard=some (j,b)∧(bV[j]?).bind (·.dst)=some t∧g.guard=some (t,b)):=by
 unfold pC at h
 split at h
 ·cases h
 rename_i g' hg'
 split at h
 case isFalse=>cases h
 rename_i hd
 have hdst:∀ k,o.dst=some k→k<n:=by
  intro k hk
  rw[hk] at hd
  simpa[Dm] using hd
 split at h
 ·rename_i hgd
  simp only[Option.some.injEq] at h
  subst h
  exact ⟨hg',rfl,hdst,.inl ⟨hgd,rfl⟩⟩
 ·rename_i j b hgd
  split at h
  ·rename_i t ht
   simp only[Option.some.injEq] at h
   subst h
   exact ⟨hg',rfl,hdst,.inr ⟨j,b,t,hgd,ht,rfl⟩⟩
  ·cases h
theorem J5{dr:Bool}{K:af→Prop}{op:b8}{dst:Option Nat}{rest:List aB}{a:Act}{w:World}{Kw:Act→World→Prop}{Q:Exit→Act→World→Prop}(hop:dD c.P o=some op)(hd:o.dst=dst)(hdn:∀ k,dst=some k→k<c.n)
  (hsim:cw c A a w) (hK:∀ B a' w',a8 c.P c.Y dr K (az rest B)→cw c B a' w'→Kw a' w') (h:a8 c.P c.Y dr K (cN (bx A op) fun v=>az rest (A.aJ dst v))):o.wpIn c.bt 9 c.P a w Kw Q:=by
 cases hv:bx A op with
 |some v =>
  rw[hv] at h
  exact ((akF hop hv).does (by rw[hd];exact hdn)).wp hop hsim (fun a' w' hs=>by rw[hd] at hs;exact hK _ a' w' h hs)
 |none=>rw[hv] at h;cases h
theorem agJ{dr:Bool}{K:af→Prop}{dst:Option Nat}{rest:List aB}{a:Act}{w:World}{Kw:Act→World→Prop}{Q:Exit→Act→World→Prop}{z:I}(hop:dD c.P o=some (.alloc z))(hd:o.dst=dst)(hdn:∀ k,dst=some k→k<c.n)
  (hwp:a8 c.P c.Y dr K (bj A dst (.alloc z) rest (az rest))) (hsim:cw c A a w) (hK:∀ B a' w',a8 c.P c.Y dr K (az rest B)→cw c B a' w'→Kw a' w'):o.wpIn c.bt 9 c.P a w Kw Q:=by
 have hop0:=hop
 simp only[bj] at hwp
 split at hwp
 case h_2=>cases hwp
 rename_i d
 split at hwp
 case h_2=>cases hwp
 rename_i hf
 unfold dD at hop
 split at hop <;>try (first | (simp at hop;done) | ((repeat' split at hop) <;>simp at hop;done))
 rename_i t ho
 simp only[Option.map_eq_some_iff,b8.alloc.injEq] at hop
 obtain ⟨z',hz,rfl⟩:=hop
 exact (YM ho hz hd (hdn d rfl) hf).wp hop0 hsim (fun a' w' hs=>hK _ a' w' hwp hs)
theorem agM{dr:Bool}{K:af→Prop}{dst:Option Nat}{rest:List aB}{a:Act}{w:World}{Kw:Act→World→Prop}{Q:Exit→Act→World→Prop}{x:aH}(hop:dD c.P o=some (.box x))(hd:o.dst=dst)(hdn:∀ k,dst=some k→k<c.n)
  (hwp:a8 c.P c.Y dr K (bj A dst (.box x) rest (az rest))) (hsim:cw c A a w) (hK:∀ B a' w',a8 c.P c.Y dr K (az rest B)→cw c B a' w'→Kw a' w'):o.wpIn c.bt 9 c.P a w Kw Q:=by
 have hop0:=hop
 simp only[bj] at hwp
 split at hwp
 case h_2=>cases hwp
 rename_i d
 split at hwp
 case h_2=>cases hwp
 rename_i hf
 split at hwp
 case isFalse=>cases hwp
 rename_i hv
 unfold dD at hop
 split at hop <;>try (first | (simp at hop;done) | ((repeat' split at hop) <;>simp at hop;done))
 rename_i t y ho
 simp only[Option.map_eq_some_iff,b8.box.injEq] at hop
 obtain ⟨z',hz,rfl⟩:=hop
 exact (YR ho hz hv hd (hdn d rfl) hf).wp hop0 hsim (fun a' w' hs=>hK _ a' w' hwp hs)
theorem agX{dr:Bool}{K:af→Prop}{dst:Option Nat}{rest:List aB}{a:Act}{w:World}{Kw:Act→World→Prop}{Q:Exit→Act→World→Prop}{s:Option Nat}{x v:aH}(hop:dD c.P o=some (.bu s x v))(hd:o.dst=dst)(hdn:∀ k,dst=some k→k<c.n)
  (hwp:a8 c.P c.Y dr K (bj A dst (.bu s x v) rest (az rest))) (hsim:cw c A a w) (hK:∀ B a' w',a8 c.P c.Y dr K (az rest B)→cw c B a' w'→Kw a' w'):o.wpIn c.bt 9 c.P a w Kw Q:=by
 have hop0:=hop
 simp only[bj] at hwp
 split at hwp
 case h_2=>cases hwp
 split at hwp
 case h_2=>cases hwp
 rename_i n p hp
 split at hwp
 case h_2=>cases hwp
 rename_i b hb
 split at hwp
 case h_2=>cases hwp
 rename_i old hat
 split at hwp
 case isFalse=>cases hwp
 rename_i hok
 unfold dD at hop
 split at hop <;>try (first | (simp at hop;done) | ((repeat' split at hop) <;>simp at hop;done))
 rename_i t y z ho
 split at hop
 case h_2=>cases hop
 rename_i s' x' v' h1 h2 h3
 split at hop
 case isFalse=>cases hop
 rename_i hk
 simp only[Option.some.injEq,b8.bu.injEq] at hop
 obtain ⟨rfl,rfl,rfl⟩:=hop
 exact (YX ho h1 hk h2 h3 hp hb hat hok.1 hok.2.1 hok.2.2 hd).wp hop0 hsim (fun a' w' hs=>hK _ a' w' hwp hs)
theorem agN{dr:Bool}{K:af→Prop}{dst:Option Nat}{rest:List aB}{a:Act}{w:World}{Kw:Act→World→Prop}{Q:Exit→Act→World→Prop}{f:FuncId}{args:List aH}(hop:dD c.P o=some (.call f args))(hd:o.dst=dst)(hdn:∀ k,dst=some k→k<c.n)
  (hwp:a8 c.P c.Y dr K (bj A dst (.call f args) rest (az rest))) (hsim:cw c A a w) (hK:∀ B a' w',a8 c.P c.Y dr K (az rest B)→cw c B a' w'→Kw a' w'):o.wpIn c.bt 9 c.P a w Kw Q:=by
 have hop0:=hop
 simp only[bj] at hwp
 unfold dD at hop
 split at hop <;>try (first | (simp at hop;done) | ((repeat' split at hop) <;>simp at hop;done))
 rename_i f' xs ts ho
 split at hop
 case isFalse=>simp at hop
 simp only[Option.map_eq_some_iff,b8.call.injEq] at hop
 obtain ⟨ys,hys,rfl,rfl⟩:=hop
 refine CU (vs:=xs.toList.map a.eval) hop0 rfl rfl (fun D E hs=>pw hs xs.toList ts.toList ys hys) hsim hwp hd hdn (fun hc =>?_) hK
 have e:xs.map a.eval=(xs.toList.map a.eval).toArray:=by apply Array.ext';simp
 simp only[execOp,ho,resolve,Act.eval,Deferred.ofValue,Sem.run_bind,Sem.run_pure,Result.andThen_ok,invoke,Array.append_empty,Array.empty_append,zn hc]
 rw[←e]
theorem agY{dr:Bool}{K:af→Prop}{dst:Option Nat}{rest:List aB}{a:Act}{w:World}{Kw:Act→World→Prop}{Q:Exit→Act→World→Prop}{f:FuncId}{args:List aH}(hop:dD c.P o=some (.jq f args))(hd:o.dst=dst)(hdn:∀ k,dst=some k→k<c.n)
  (hwp:a8 c.P c.Y dr K (bj A dst (.jq f args) rest (az rest))) (hsim:cw c A a w) (hK:∀ B a' w',a8 c.P c.Y dr K (az rest B)→cw c B a' w'→Kw a' w'):o.wpIn c.bt 9 c.P a w Kw Q:=by
 have hop0:=hop
 simp only[bj] at hwp
 unfold dD at hop
 split at hop <;>try (first | (simp at hop;done) | ((repeat' split at hop) <;>simp at hop;done))
 rename_i f' xs ts ho
 split at hop
 case isTrue=>simp at hop
 simp only[Option.map_eq_some_iff,b8.jq.injEq] at hop
 obtain ⟨ys,hys,rfl,rfl⟩:=hop
 obtain ⟨D,E,hs⟩:=hsim
 cases hwp with
 |ext r hdr hx hw =>
  obtain ⟨v,g1,g2⟩:=hx c a w D E (xs.toList.map a.eval) rfl hs (pw hs xs.toList ts.toList ys hys)
  have e:xs.map a.eval=(xs.toList.map a.eval).toArray:=by apply Array.ext';simp
  have hrun:(execOp a.eval o).run c.P w=.ok (.value v) w:=by
   simp only[execOp,ho,resolve,Act.eval,Deferred.ofValue,Sem.run_bind,Sem.run_pure,Result.andThen_ok,invoke,Array.append_empty,Array.empty_append]
   rw[←e] at g1
   exact g1
  refine ⟨mw,?_⟩
  rw[m9 hop0,hrun,Oper.uponIn_value]
  exact hK _ _ _ hw ⟨D,E,by rw[hd];exact hs.aJ hdn g2⟩
theorem agR{dr:Bool}{K:af→Prop}{dst:Option Nat}{rest:List aB}{a:Act}{w:World}{Kw:Act→World→Prop}{Q:Exit→Act→World→Prop} (hop:dD c.P o=some (.jX))(hd:o.dst=dst)(hdn:∀ k,dst=some k→k<c.n)
  (hwp:a8 c.P c.Y dr K (bj A dst (.jX) rest (az rest))) (hsim:cw c A a w) (hK:∀ B a' w',a8 c.P c.Y dr K (az rest B)→cw c B a' w'→Kw a' w'):o.wpIn c.bt 9 c.P a w Kw Q:=by
 have hop0:=hop
 simp only[bj] at hwp
 split at hwp
 case h_2=>cases hwp
 rename_i d
 split at hwp
 case h_2=>cases hwp
 rename_i hf
 unfold dD at hop
 split at hop <;>try (first | (simp at hop;done) | ((repeat' split at hop) <;>simp at hop;done))
 rename_i t ho
 exact (YU ho hd (hdn d rfl) hf).wp hop0 hsim (fun a' w' hs=>hK _ a' w' hwp hs)
theorem agS{dr:Bool}{K:af→Prop}{dst:Option Nat}{rest:List aB}{a:Act}{w:World}{Kw:Act→World→Prop}{Q:Exit→Act→World→Prop}{e:TypeId}{bytes:Nat}{z:I}{n:aH}(hop:dD c.P o=some (.ky e bytes z n))(hd:o.dst=dst)(hdn:∀ k,dst=some k→k<c.n)
  (hwp:a8 c.P c.Y dr K (bj A dst (.ky e bytes z n) rest (az rest))) (hsim:cw c A a w) (hK:∀ B a' w',a8 c.P c.Y dr K (az rest B)→cw c B a' w'→Kw a' w'):o.wpIn c.bt 9 c.P a w Kw Q:=by
 have hop0:=hop
 simp only[bj] at hwp
 split at hwp
 case h_2=>cases hwp
 rename_i d
 split at hwp
 case h_2=>cases hwp
 rename_i hf
 split at hwp
 case h_2=>cases hwp
 rename_i k m hn
 split at hwp
 case isFalse=>cases hwp
 rename_i hc
 unfold dD at hop
 split at hop <;>try (first | (simp at hop;done) | ((repeat' split at hop) <;>simp at hop;done))
 rename_i t l l' ho
 split at hop
 case h_2=>cases hop
 rename_i e' n' hu hl
 split at hop
 case h_2=>cases hop
 rename_i z' hz
 split at hop
 case isFalse=>cases hop
 rename_i hc2
 simp only[Option.some.injEq,b8.ky.injEq] at hop
 obtain ⟨rfl,rfl,rfl,rfl⟩:=hop
 obtain ⟨j,rfl⟩:=Int.eq_ofNat_of_zero_le hc.1
 simp only[Int.toNat_natCast] at hc hwp
 exact (YV ho (alc hc2.1) hu hl hn hz hc2.2.1 hc2.2.2 hc.2.1 hc.2.2 hd (hdn d rfl) hf).wp hop0 hsim (fun a' w' hs=>hK _ a' w' hwp hs)
theorem agT{dr:Bool}{K:af→Prop}{dst:Option Nat}{rest:List aB}{a:Act}{w:World}{Kw:Act→World→Prop}{Q:Exit→Act→World→Prop}{ty:cM}{m k v:aH}(hop:dD c.P o=some (.gQ ty m k v))(hd:o.dst=dst)(hdn:∀ k,dst=some k→k<c.n)
  (hwp:a8 c.P c.Y dr K (bj A dst (.gQ ty m k v) rest (az rest))) (hsim:cw c A a w) (hK:∀ B a' w',a8 c.P c.Y dr K (az rest B)→cw c B a' w'→Kw a' w'):o.wpIn c.bt 9 c.P a w Kw Q:=by
 have hop0:=hop
 simp only[bj] at hwp
 split at hwp
 case h_2=>cases hwp
 split at hwp
 case h_2=>cases hwp
 rename_i n hm
 split at hwp
 case h_2=>cases hwp
 rename_i ks vs hn
 split at hwp
 case h_2=>cases hwp
 rename_i ks' vs' hl
 unfold dD at hop
 split at hop <;>try (first | (simp at hop;done) | ((repeat' split at hop) <;>simp at hop;done))
 all_goals
  rename_i t mo ko vo ho
  split at hop
  case h_2=>cases hop
  rename_i kt et m' k' hu h1 h2
  split at hop
  case h_2=>cases hop
  rename_i ty' v' hk h3
  simp only[Option.some.injEq,b8.gQ.injEq] at hop
  obtain ⟨rfl,rfl,rfl,rfl⟩:=hop
 ·exact (Dl (.inl ho) hu hk h1 h2 h3 hm hn hl hd).wp hop0 hsim (fun a' w' hs=>hK _ a' w' hwp hs)
 ·exact (Dl (.inr ho) hu hk h1 h2 h3 hm hn hl hd).wp hop0 hsim (fun a' w' hs=>hK _ a' w' hwp hs)
theorem agW{dr:Bool}{K:af→Prop}{dst:Option Nat}{rest:List aB}{a:Act}{w:World}{Kw:Act→World→Prop}{Q:Exit→Act→World→Prop}{x:aH}(hop:dD c.P o=some (.kF x))(hd:o.dst=dst)(hdn:∀ k,dst=some k→k<c.n)
  (hwp:a8 c.P c.Y dr K (bj A dst (.kF x) rest (az rest))) (hsim:cw c A a w) (hK:∀ B a' w',a8 c.P c.Y dr K (az rest B)→cw c B a' w'→Kw a' w'):o.wpIn c.bt 9 c.P a w Kw Q:=by
 have hop0:=hop
 simp only[bj] at hwp
 split at hwp
 case h_2=>cases hwp
 rename_i d
 split at hwp
 case h_2=>cases hwp
 rename_i hf
 split at hwp
 case h_2=>cases hwp
 rename_i ks vs hx
 unfold dD at hop
 split at hop <;>try (first | (simp at hop;done) | ((repeat' split at hop) <;>simp at hop;done))
 rename_i t y ho
 split at hop
 case h_2=>cases hop
 rename_i kt et hu
 simp only[Option.map_eq_some_iff,b8.kF.injEq] at hop
 obtain ⟨z,hz,rfl⟩:=hop
 exact (YW ho hu hz hx hd (hdn d rfl) hf).wp hop0 hsim (fun a' w' hs=>hK _ a' w' hwp hs)
theorem agV{dr:Bool}{K:af→Prop}{dst:Option Nat}{rest:List aB}{a:Act}{w:World}{Kw:Act→World→Prop}{Q:Exit→Act→World→Prop}{x:aH}(hop:dD c.P o=some (.jD x))(hd:o.dst=dst)(hdn:∀ k,dst=some k→k<c.n)
  (hwp:a8 c.P c.Y dr K (bj A dst (.jD x) rest (az rest))) (hsim:cw c A a w) (hK:∀ B a' w',a8 c.P c.Y dr K (az rest B)→cw c B a' w'→Kw a' w'):o.wpIn c.bt 9 c.P a w Kw Q:=by
 have hop0:=hop
 simp only[bj] at hwp
 split at hwp
 case h_2=>cases hwp
 rename_i n hx
 split at hwp
 case h_2=>cases hwp
 rename_i ks vs left cur hn
 unfold dD at hop
 split at hop <;>try (first | (simp at hop;done) | ((repeat' split at hop) <;>simp at hop;done))
 rename_i y ho
 simp only[Option.map_eq_some_iff,b8.jD.injEq] at hop
 obtain ⟨z,hz,rfl⟩:=hop
 obtain ⟨D,E,hs⟩:=hsim
 obtain ⟨w',v,hrun,hor⟩:=aiS ho hz hx hn (by rw[hd];exact hdn) hs
 refine ⟨mw,?_⟩
 rw[m9 hop0,hrun,Oper.uponIn_value]
 rw[hd] at hor
 split at hwp
 ·rename_i hl
  rcases hor with ⟨_,hor⟩ | ⟨i,k,x,hi,_⟩
  ·exact hK _ _ _ hwp (by rw[hd];exact hor)
  ·rw[hl] at hi;cases hi
 ·rename_i hl
  rcases hor with ⟨h,_⟩ | ⟨i,k,x,hi,hk,hx,hor⟩
  ·exact absurd h hl
  ·cases hwp with
   |any hdr hall =>
    have:=hall i hi
    simp only[hk,hx] at this
    exact hK _ _ _ this (by rw[hd];exact hor)
theorem agO{dr:Bool}{K:af→Prop}{dst:Option Nat}{rest:List aB}{a:Act}{w:World}{Kw:Act→World→Prop}{Q:Exit→Act→World→Prop}{x:aH}{args:List aH}(hop:dD c.P o=some (.eD x args))(hd:o.dst=dst)(hdn:∀ k,dst=some k→k<c.n)
  (hwp:a8 c.P c.Y dr K (bj A dst (.eD x args) rest (az rest))) (hsim:cw c A a w) (hK:∀ B a' w',a8 c.P c.Y dr K (az rest B)→cw c B a' w'→Kw a' w'):o.wpIn c.bt 9 c.P a w Kw Q:=by
 have hop0:=hop
 simp only[bj] at hwp
 unfold dD at hop
 split at hop <;>try (first | (simp at hop;done) | ((repeat' split at hop) <;>simp at hop;done))
 rename_i y xs ts _ ho
 split at hop
 case h_2=>cases hop
 rename_i y' ys h1 h2
 simp only[Option.some.injEq,b8.eD.injEq] at hop
 obtain ⟨rfl,rfl⟩:=hop
 obtain ⟨D,E,hs⟩:=hsim
 have hv:=cg hs h1
 split at hwp
 ·rename_i f caps hx
  rw[hx] at hv
  obtain ⟨cs,q1,q2⟩:=hv
  simp only[ah] at q2
  obtain ⟨vs,q3,q4⟩:=q2
  have hval:a.eval y=.func (.func f) #[] vs.toArray:=by simpa[bK,I.isAgg,q3] using q1.symm
  refine CU (vs:=xs.toList.map a.eval++vs) hop0 rfl rfl (fun D' E' hs'=>(pw hs' xs.toList ts.toList ys h2).append ?_) ⟨D,E,hs⟩ hwp hd hdn (fun hc =>?_) hK
  ·have hv':=cg hs' h1
   rw[hx] at hv'
   obtain ⟨cs',q1',q2'⟩:=hv'
   simp only[ah] at q2'
   obtain ⟨vs',q3',q4'⟩:=q2'
   have hval':a.eval y=.func (.func f) #[] vs'.toArray:=by simpa[bK,I.isAgg,q3'] using q1'.symm
   rw[hval] at hval'
   simp only[Value.func.injEq,true_and,Array.mk.injEq] at hval'
   subst hval'
   exact zr q4'
  ·have e:xs.map a.eval=(xs.toList.map a.eval).toArray:=by apply Array.ext';simp
   simp only[execOp,ho,resolve,hval,Deferred.ofValue,Sem.run_bind,Sem.run_pure,Result.andThen_ok,invoke,Array.empty_append,zn hc]
   rw[e]
   simp
 ·rename_i u hx
  rw[hx] at hv
  obtain ⟨cs,q1,q2⟩:=hv
  simp only[ah] at q2
  have hval:a.eval y=u:=by simpa[bK,I.isAgg,q2.1] using q1.symm
  refine TJ (vs:=xs.toList.map a.eval) hop0 (fun D' E' hs'=>pw hs' xs.toList ts.toList ys h2) ⟨D,E,hs⟩ hwp hd hdn (fun l hl =>?_) hK
  subst hl
  have e:xs.map a.eval=(xs.toList.map a.eval).toArray:=by apply Array.ext';simp
  simp only[execOp,ho,resolve,hval,Deferred.ofValue,Sem.run_bind,Sem.run_pure,Result.andThen_ok,invoke,Array.empty_append]
  rw[e]
 ·cases hwp
theorem agU{dr:Bool}{K:af→Prop}{dst:Option Nat}{rest:List aB}{a:Act}{w:World}{Kw:Act→World→Prop}{Q:Exit→Act→World→Prop}{neg:Bool}{x:aH}(hop:dD c.P o=some (.nilS neg x))(hd:o.dst=dst)(hdn:∀ k,dst=some k→k<c.n)
  (hwp:a8 c.P c.Y dr K (bj A dst (.nilS neg x) rest (az rest))) (hsim:cw c A a w) (hK:∀ B a' w',a8 c.P c.Y dr K (az rest B)→cw c B a' w'→Kw a' w'):o.wpIn c.bt 9 c.P a w Kw Q:=by
 have hop0:=hop
 simp only[bj] at hwp
 split at hwp
 case isFalse=>exact J5 hop hd hdn hsim hK hwp
 rename_i hu
 cases hwp with
 |any hdr hall =>
 unfold dD at hop
 split at hop <;>try (first | (simp at hop;done) | ((repeat' split at hop) <;>simp at hop;done))
 rename_i bop t y z yt ho
 split at hop
 ·simp at hop
 ·simp at hop
 ·rename_i e y' z' hut h1 h2
  split at hop
  ·rename_i s
   split at hop
   ·rename_i hopp
    simp only[Option.some.injEq,b8.nilS.injEq] at hop
    obtain ⟨rfl,rfl⟩:=hop
    have ho':o.op=.binOp (if (bop==.neq)=true then .neq else .eql) t y z yt:=by
     rcases hopp with rfl | rfl <;>simpa using ho
    obtain ⟨D,E,hs⟩:=hsim
    have hund:∃ sz,ae A y'=.slice sz []∨ae A y'=.c0 sz:=by
     generalize ae A y'=q at hu
     cases q <;>simp only[kc,Bool.false_eq_true,List.isEmpty_iff] at hu
     ·rename_i sz;exact ⟨sz,.inr rfl⟩
     ·rename_i sz es;subst hu;exact ⟨sz,.inl rfl⟩
    obtain ⟨b,hrun⟩:=aiT ho' hut h1 h2 hund hs
    refine ⟨mw,?_⟩
    rw[m9 hop0,hrun,Oper.uponIn_value]
    have hb:=hall (if b then 0 else 1) (by cases b <;>simp)
    refine hK _ _ _ hb ⟨D,E,?_⟩
    rw[hd]
    have e:((if b=true then (0:Nat) else 1)==0)=b:=by cases b <;>rfl
    rw[e]
    exact hs.aJ hdn (nQ b)
   ·cases hop
  ·cases hop
 ·split at hop <;>simp at hop
 ·split at hop <;>simp at hop
 ·cases hop
theorem agK{dr:Bool}{K:af→Prop}{dst:Option Nat}{rest:List aB}{a:Act}{w:World}{Kw:Act→World→Prop}{Q:Exit→Act→World→Prop}{e:TypeId}{esz bytes:Nat}{z:I}{s x:aH}(hop:dD c.P o=some (.dC e esz bytes z s x))(hd:o.dst=dst)(hdn:∀ k,dst=some k→k<c.n)
  (hwp:a8 c.P c.Y dr K (bj A dst (.dC e esz bytes z s x) rest (az rest))) (hsim:cw c A a w) (hK:∀ B a' w',a8 c.P c.Y dr K (az rest B)→cw c B a' w'→Kw a' w'):o.wpIn c.bt 9 c.P a w Kw Q:=by
 have hop0:=hop
 simp only[bj] at hwp
 unfold dD at hop
 split at hop <;>try (first | (simp at hop;done) | ((repeat' split at hop) <;>simp at hop;done))
 rename_i args tys ho
 split at hop
 case h_2=>cases hop
 rename_i y q t t' ha ht
 split at hop
 case h_2=>cases hop
 rename_i e' s' x' k1 k2 k3
 split at hop
 case isFalse=>split at hop <;>simp at hop
 rename_i hk
 simp only[Option.map_eq_some_iff,b8.dC.injEq] at hop
 obtain ⟨zz,hz1,rfl,rfl,rfl,rfl,rfl,rfl⟩:=hop
 obtain ⟨rfl,hk2,hk3⟩:=hk
 have ha':args = #[y,q]:=by apply Array.ext';simpa using ha
 have ht':tys = #[t,t]:=by apply Array.ext';simpa using ht
 subst ha' ht'
 rw[hz1] at hk3
 simp only[Option.map_some,Option.some.injEq] at hk3
 have hinfo:(c.P.info? e').isSome=true:=by
  obtain ⟨ti,_,hti,_⟩:=mn hz1
  rw[hti];rfl
 have grow:∀ es ys,er A (c.P.cellsOf e') (ae A s')=some es→er A (c.P.cellsOf e') (ae A x')=some ys→ys≠[]→(∀ a w D E,aT c A a w D E→∀ ad l cp,a.eval y=.slice ad l cp→cp<l+ys.length) →
   a8 c.P c.Y dr K (gl A dst (c.P.cellsOf e') (c.P.bytesOf e') zz es ys (az rest))→o.wpIn c.bt 9 c.P a w Kw Q:=fun es ys hse hsx hne hfull h=>by
  simp only[gl] at h
  split at h
  case h_2=>cases h
  rename_i d
  split at h
  case h_2=>cases h
  rename_i hf
  split at h
  case isFalse=>cases h
  rename_i hb
  cases h with
  |any hdr hall =>
   obtain ⟨D,E,hs⟩:=hsim
   obtain ⟨v,w',m,g1,g2,g3⟩:=Q8 ho k1 k2 k3 hz1 hk3 hse hsx hb.1 hd (hdn d rfl) hf hne hs (hfull a w D E hs) hb.2
   refine ⟨mw,?_⟩
   rw[m9 hop0,g1,Oper.uponIn_value,hd]
   rw[hd] at g3
   exact hK _ _ _ (hall m g2) g3
 split at hwp
 ·rename_i n l hs'
  split at hwp
  case h_2=>cases hwp
  rename_i sz ys hx'
  split at hwp
  case h_3=>cases hwp
  case h_2 =>
   rename_i T xs hn
   split at hwp
   case isFalse=>cases hwp
   rename_i hok
   obtain ⟨h1,h2,h3,h4,h5,h6,h7,h8⟩:=hok
   subst h3 h4
   have hl5:ys.length=(rp ys).length:=(congrArg List.length h5).trans (by simp)
   rw[hl5] at h7 h8 hwp
   rw[h5] at hx'
   have hd':=YO (o:=o) ho k1 k2 k3 hz1 h2 hs' hn h1 hx' (fun e=>h6 (by rw[h5,e];rfl)) h7 h8 (by rw[hd];exact hdn)
   exact hd'.wp hop0 hsim (fun a' w' hs=>by rw[hd] at hs;exact hK _ a' w' hwp hs)
  rename_i T sz' es hn
  split at hwp
  case isFalse=>cases hwp
  rename_i hok
  obtain ⟨h1,h2,h3,h4,h5,h6,h7⟩:=hok
  subst h2 h3 h4
  have hd':=YN (o:=o) ho k1 k2 k3 hz1 hk3 hk2 hs' hn h1 hx' rfl h5 h6 h7 (by rw[hd];exact hdn)
  exact hd'.wp hop0 hsim (fun a' w' hs=>by rw[hd] at hs;exact hK _ a' w' hwp hs)
 ·simp only[fp] at hwp
  split at hwp
  case h_2=>cases hwp
  rename_i es ys hse hsx
  split at hwp
  ·rename_i hne
   subst hne
   exact ((YQ ho k1 hinfo k2 k3 hse hsx).does (by rw[hd];exact hdn)).wp hop0 hsim (fun a' w' hs=>by rw[hd] at hs;exact hK _ a' w' hwp hs)
  ·rename_i hne
   have hpos:0<ys.length:=List.length_pos_iff.2 hne
   split at hwp
   ·rename_i z0 hsv
    refine grow es ys hse hsx hne (fun a w D E hs ad l cp hv =>?_) hwp
    have h0:=cg hs k2
    rw[hsv] at h0
    obtain ⟨cs,q1,q2⟩:=h0
    simp only[ah] at q2
    have:a.eval y=.slice none 0 0:=by simpa[bK,I.isAgg,q2] using q1.symm
    rw[this] at hv
    simp only[Value.slice.injEq] at hv
    omega
   ·rename_i z0 hsv
    refine grow es ys hse hsx hne (fun a w D E hs ad l cp hv =>?_) hwp
    have h0:=cg hs k2
    rw[hsv] at h0
    obtain ⟨cs,q1,q2⟩:=h0
    simp only[ah] at q2
    obtain ⟨ad',q2⟩:=q2
    have:a.eval y=.slice ad' 0 0:=by simpa[bK,I.isAgg,q2] using q1.symm
    rw[this] at hv
    simp only[Value.slice.injEq] at hv
    omega
   ·rename_i n p sz lo l hsv
    split at hwp
    case h_2=>cases hwp
    rename_i b hn
    split at hwp
    case h_2=>cases hwp
    rename_i fs hat
    split at hwp
    ·rename_i hroom
     split at hwp
     case isFalse=>cases hwp
     rename_i hok
     obtain ⟨rfl,hsh⟩:=hok
     exact (YP ho k1 hinfo k2 k3 hsv hn hat hsx hroom hsh (by rw[hd];exact hdn)).wp hop0 hsim (fun a' w' hs=>by rw[hd] at hs;exact hK _ a' w' hwp hs)
    ·rename_i hroom
     refine grow es ys hse hsx hne (fun a w D E hs ad l' cp hv =>?_) hwp
     have h0:=cg hs k2
     rw[hsv] at h0
     obtain ⟨_,bb,cs,T,off,c1,c2,c3,_,_,_,_,_,_,_,_,_,_,r1,dH,uw⟩:=hs.view (fs:=fs) h0 (by simp only[cC,hn,hat])
     rw[uw] at hv
     simp only[Value.slice.injEq] at hv
     omega
   ·cases hwp
theorem agL{dr:Bool}{K:af→Prop}{dst:Option Nat}{rest:List aB}{a:Act}{w:World}{Kw:Act→World→Prop}{Q:Exit→Act→World→Prop}{e:TypeId}{esz bytes:Nat}{z:I}{s n:aH}(hop:dD c.P o=some (.kL e esz bytes z s n))(hd:o.dst=dst)(hdn:∀ k,dst=some k→k<c.n)
  (hwp:a8 c.P c.Y dr K (bj A dst (.kL e esz bytes z s n) rest (az rest))) (hsim:cw c A a w) (hK:∀ B a' w',a8 c.P c.Y dr K (az rest B)→cw c B a' w'→Kw a' w'):o.wpIn c.bt 9 c.P a w Kw Q:=by
 have hop0:=hop
 simp only[bj] at hwp
 unfold dD at hop
 split at hop <;>try (first | (simp at hop;done) | ((repeat' split at hop) <;>simp at hop;done))
 rename_i args tys ho
 split at hop
 case h_2=>cases hop
 rename_i y q t t' ha ht
 split at hop
 case h_2=>cases hop
 rename_i e' s' x' k1 k2 k3
 split at hop
 case isTrue=>simp at hop
 split at hop
 case isFalse=>cases hop
 rename_i hk
 simp only[Option.map_eq_some_iff,b8.kL.injEq] at hop
 obtain ⟨zz,hz1,rfl,rfl,rfl,rfl,rfl,rfl⟩:=hop
 obtain ⟨hint,hk2,hk3⟩:=hk
 have ha':args = #[y,q]:=by apply Array.ext';simpa using ha
 have ht':tys = #[t,t']:=by apply Array.ext';simpa using ht
 subst ha' ht'
 rw[hz1] at hk3
 simp only[Option.map_some,Option.some.injEq] at hk3
 obtain ⟨kt,hkt⟩:∃ kt,c.P.underlying t'=some (.int kt):=by
  cases hu:c.P.underlying t' with
  |none=>rw[hu] at hint;cases hint
  |some dsc=>cases dsc <;>rw[hu] at hint <;>first | exact ⟨_,rfl⟩ | cases hint
 split at hwp
 case h_2=>cases hwp
 rename_i kx bd hx'
 simp only[qK] at hwp
 split at hwp
 case h_2=>cases hwp
 rename_i es hse
 split at hwp
 case h_2=>cases hwp
 rename_i nn p sz lo l hsv
 split at hwp
 case h_2=>cases hwp
 rename_i bb hn
 split at hwp
 case h_2=>cases hwp
 rename_i fs hat
 split at hwp
 case isFalse=>cases hwp
 rename_i hroom
 simp only[gl] at hwp
 split at hwp
 case h_2=>cases hwp
 rename_i d
 split at hwp
 case h_2=>cases hwp
 rename_i hf
 split at hwp
 case isFalse=>cases hwp
 rename_i hb
 rw[List.length_replicate] at hb
 cases hwp with
 |any hdr hall =>
  obtain ⟨D,E,hs⟩:=hsim
  obtain ⟨v,w',m,g1,g2,g3⟩:=Rc ho k1 k2 k3 hkt hx' rfl hroom.1 hk2 hz1 hk3 hse hb.1 hd (hdn d rfl) hf hs (fun ad l' cp hv=>by
   have h0:=cg hs k2
   rw[hsv] at h0
   have hsv':=hse
   obtain ⟨_,b1,cs,T,off,c1,c2,c3,_,_,_,_,_,_,_,_,_,_,r1,dH,uw⟩:=hs.view (fs:=fs) h0 (by simp only[cC,hn,hat])
   rw[uw] at hv
   simp only[Value.slice.injEq] at hv
   have hel:es.length=l:=by
    rw[hsv] at hse
    simp only[er,cC,hn,hat] at hse
    split at hse
    ·simp only[Option.some.injEq] at hse
     rw[←hse,List.length_take,List.length_drop]
     omega
    ·cases hse
   omega) hb.2
  refine ⟨mw,?_⟩
  rw[m9 hop0,g1,Oper.uponIn_value,hd]
  rw[hd] at g3
  have:=hall m (by rw[List.length_replicate];exact g2)
  rw[List.length_replicate] at this
  exact hK _ _ _ this g3
theorem agP{dr:Bool}{K:af→Prop}{dst:Option Nat}{rest:List aB}{a:Act}{w:World}{Kw:Act→World→Prop}{Q:Exit→Act→World→Prop}{esz:Nat}{z:I}{x:aH}(hop:dD c.P o=some (.ju esz z x))(hd:o.dst=dst)(hdn:∀ k,dst=some k→k<c.n)
  (hwp:a8 c.P c.Y dr K (bj A dst (.ju esz z x) rest (az rest))) (hsim:cw c A a w) (hK:∀ B a' w',a8 c.P c.Y dr K (az rest B)→cw c B a' w'→Kw a' w'):o.wpIn c.bt 9 c.P a w Kw Q:=by
 have hop0:=hop
 simp only[bj] at hwp
 split at hwp
 case h_2=>cases hwp
 unfold dD at hop
 split at hop <;>try (first | (simp at hop;done) | ((repeat' split at hop) <;>simp at hop;done))
 rename_i args tys ho
 split at hop
 case h_2=>cases hop
 rename_i y t ha ht
 split at hop
 case h_2=>cases hop
 rename_i e' x' k1 k2
 simp only[Option.map_eq_some_iff,b8.ju.injEq] at hop
 obtain ⟨zz,hz1,rfl,rfl,rfl⟩:=hop
 have ha':args = #[y]:=by apply Array.ext';simpa using ha
 have ht':tys = #[t]:=by apply Array.ext';simpa using ht
 subst ha' ht'
 have nothing:a8 c.P c.Y dr K (az rest A)→(∀ a w D E,aT c A a w D E→∃ ad cp,a.eval y=.slice ad 0 cp)→o.wpIn c.bt 9 c.P a w Kw Q:=fun h hv=>by
  obtain ⟨D,E,hs⟩:=hsim
  obtain ⟨ad,cp,hv⟩:=hv a w D E hs
  refine ⟨mw,?_⟩
  have hrun:(execOp a.eval o).run c.P w=.ok (.value (.tuple #[])) w:=by
   cases ad <;>simp[execOp,ho,resolve,invoke,builtin,Builtin.clear_,run_underlying k1,hv]
  rw[m9 hop0,hrun,Oper.uponIn_value,hd]
  exact hK _ _ _ h ⟨D,E,hs⟩
 unfold nu at hwp
 split at hwp
 ·rename_i n p sz lo l hv
  split at hwp
  case h_2=>cases hwp
  rename_i b hn
  split at hwp
  case h_2=>cases hwp
  rename_i fs hat
  split at hwp
  case isFalse=>cases hwp
  rename_i hok
  obtain ⟨rfl,hsh⟩:=hok
  exact (YS ho k1 k2 hz1 hv hn hat hsh hd).wp hop0 hsim (fun a' w' hs=>hK _ a' w' hwp hs)
 ·rename_i z0 hv
  refine nothing hwp fun a w D E hs =>?_
  have h0:=cg hs k2
  rw[hv] at h0
  obtain ⟨cs,q1,q2⟩:=h0
  simp only[ah] at q2
  exact ⟨none,0,by simpa[bK,I.isAgg,q2] using q1.symm⟩
 ·rename_i z0 hv
  refine nothing hwp fun a w D E hs =>?_
  have h0:=cg hs k2
  rw[hv] at h0
  obtain ⟨cs,q1,q2⟩:=h0
  simp only[ah] at q2
  obtain ⟨ad,q2⟩:=q2
  exact ⟨ad,0,by simpa[bK,I.isAgg,q2] using q1.symm⟩
 ·cases hwp
theorem agQ{dr:Bool}{K:af→Prop}{dst:Option Nat}{rest:List aB}{a:Act}{w:World}{Kw:Act→World→Prop}{Q:Exit→Act→World→Prop}{esz:Nat}{x y:aH}(hop:dD c.P o=some (.iI esz x y))(hd:o.dst=dst)(hdn:∀ k,dst=some k→k<c.n)
  (hwp:a8 c.P c.Y dr K (bj A dst (.iI esz x y) rest (az rest))) (hsim:cw c A a w) (hK:∀ B a' w',a8 c.P c.Y dr K (az rest B)→cw c B a' w'→Kw a' w'):o.wpIn c.bt 9 c.P a w Kw Q:=by
 have hop0:=hop
 simp only[bj] at hwp
 unfold dD at hop
 split at hop <;>try (first | (simp at hop;done) | ((repeat' split at hop) <;>simp at hop;done))
 rename_i args tys ho
 split at hop
 case h_2=>cases hop
 rename_i u v t t' ha ht
 split at hop
 case h_2=>cases hop
 rename_i e' x' y' k1 k2 k3
 split at hop
 case isFalse=>cases hop
 rename_i hk
 simp only[Option.some.injEq,b8.iI.injEq] at hop
 obtain ⟨rfl,rfl,rfl⟩:=hop
 obtain ⟨rfl,hinfo⟩:=hk
 have ha':args = #[u,v]:=by apply Array.ext';simpa using ha
 have ht':tys = #[t,t]:=by apply Array.ext';simpa using ht
 subst ha' ht'
 unfold ot at hwp
 split at hwp
 ·rename_i n p sz lo l ys hv hsx
  split at hwp
  case h_2=>cases hwp
  rename_i b hn
  split at hwp
  case h_2=>cases hwp
  rename_i fs hat
  split at hwp
  case isFalse=>cases hwp
  rename_i hok
  obtain ⟨rfl,hsh⟩:=hok
  exact (YT ho k1 hinfo k2 k3 hv hn hat hsx rfl hsh (by rw[hd];exact hdn)).wp hop0 hsim (fun a' w' hs=>by rw[hd] at hs;exact hK _ a' w' hwp hs)
 ·cases hwp
theorem xy{dr:Bool}{K:af→Prop}{op:b8}{dst:Option Nat}{rest:List aB}{a:Act}{w:World}{Kw:Act→World→Prop}{Q:Exit→Act→World→Prop}(hop:dD c.P o=some op)(hd:o.dst=dst)(hdn:∀ k,dst=some k→k<c.n)
  (hwp:a8 c.P c.Y dr K (bj A dst op rest (az rest))) (hsim:cw c A a w) (hK:∀ B a' w',a8 c.P c.Y dr K (az rest B)→cw c B a' w'→Kw a' w'):o.wpIn c.bt 9 c.P a w Kw Q:=by
 cases op with
 |alloc z=>exact agJ hop hd hdn hwp hsim hK
 |box x=>exact agM hop hd hdn hwp hsim hK
 |bu s x v=>exact agX hop hd hdn hwp hsim hK
 |call f args=>exact agN hop hd hdn hwp hsim hK
 |jq f args=>exact agY hop hd hdn hwp hsim hK
 |jX=>exact agR hop hd hdn hwp hsim hK
 |ky e bytes z n=>exact agS hop hd hdn hwp hsim hK
 |gQ ty m k v=>exact agT hop hd hdn hwp hsim hK
 |kF x=>exact agW hop hd hdn hwp hsim hK
 |jD x=>exact agV hop hd hdn hwp hsim hK
 |eD x args=>exact agO hop hd hdn hwp hsim hK
 |nilS neg x=>exact agU hop hd hdn hwp hsim hK
 |dC e esz bytes z s x=>exact agK hop hd hdn hwp hsim hK
 |kL e esz bytes z s n=>exact agL hop hd hdn hwp hsim hK
 |ju esz z x=>exact agP hop hd hdn hwp hsim hK
 |iI esz x y=>exact agQ hop hd hdn hwp hsim hK
 |_=>exact J5 hop hd hdn hsim hK (by simpa only[bj] using hwp)
theorem xF{j t:Nat}{bV:Array Oper}{a:Act}{w:World}{b b':Bool}(hs:cw c A a w)(hg:o.guard=some (j,b))(ht:(bV[j]?).bind (·.dst)=some t)(hv:A.t t=.bool b'):Region.wanted o (yielded bV a.tmps)=(b'==b):=by
 obtain ⟨D,E,hs⟩:=hs
 have h:=hs.ew t
 rw[hv] at h
 have h:=me h
 have hy:yielded bV a.tmps j=some b':=by
  unfold yielded
  rw[ht]
  simp only[Option.bind_some]
  simp only[Array.getD_eq_getD_getElem?] at h
  cases hh:a.tmps[t]? with
  |none=>simp[hh,undef] at h
  |some v=>simp only[hh,Option.getD_some] at h;subst h;rfl
 unfold Region.wanted
 rw[hg]
 simp only[hy]
 cases b <;>cases b' <;>rfl
theorem xG{j t:Nat}{bV:Array Oper}{a:Act}{w:World}{b:Bool}(hs:cw c A a w)(hg:o.guard=some (j,b))(ht:(bV[j]?).bind (·.dst)=some t)(hv:A.t t=.undef):Region.wanted o (yielded bV a.tmps)=false:=by
 obtain ⟨D,E,hs⟩:=hs
 have h:=hs.ew t
 rw[hv] at h
 simp only[aW] at h
 have hy:yielded bV a.tmps j=none:=by
  unfold yielded
  rw[ht]
  simp only[Option.bind_some]
  simp only[Array.getD_eq_getD_getElem?] at h
  cases hh:a.tmps[t]? with
  |none=>rfl
  |some v=>simp only[hh,Option.getD_some] at h;subst h;rfl
 unfold Region.wanted
 rw[hg]
 simp only[hy]
 rfl
theorem cw.qj{a:Act}{w:World}(h:cw c A a w){d:Option Nat}(hd:∀ k,d=some k→k<c.n):cw c (A.aJ d .undef) (a.put d undef) w:=by
 obtain ⟨D,E,h⟩:=h
 exact ⟨D,E,h.aJ hd (by simp[aW])⟩
theorem tr{dr:Bool}{K:af→Prop}{bV:Array Oper}{Q:Exit→Act→World→Prop}(hQ:∀ B a w,K B→cw c B a w→Q .normal a w):∀ (l:List Oper) (gs:List aB) (A:af) (a:Act) (w:World),kN c.P c.n bV l=some gs→a8 c.P c.Y dr K (az gs A) →
  cw c A a w→wpListIn c.bt 9 c.P bV Q l a w
 | [],gs,A,a,w,hc,hwp,hs=>by
  simp only[kN,Option.some.injEq] at hc
  subst hc
  simp only[az] at hwp
  cases hwp with
  |done hk=>exact hQ A a w hk hs
 |o::l,gs,A,a,w,hc,hwp,hs=>by
  simp only[kN] at hc
  split at hc
  case h_2=>cases hc
  rename_i g gs' hg hgs
  simp only[Option.some.injEq] at hc
  subst hc
  obtain ⟨h1,h2,h3,h4⟩:=vC hg
  have step:a8 c.P c.Y dr K (bj A g.dst g.op gs' (az gs'))→o.wpIn c.bt 9 c.P a w (wpListIn c.bt 9 c.P bV Q l) Q:=fun h =>
   xy h1 h2.symm (by rw[h2];exact h3) h hs (fun B a' w' hw hs'=>tr hQ l gs' B a' w' hgs hw hs')
  simp only[wpListIn]
  simp only[az] at hwp
  rcases h4 with ⟨h5,h6⟩ | ⟨j,b,t,h5,h6,h7⟩
  ·rw[h6] at hwp
   have hw:Region.wanted o (yielded bV a.tmps)=true:=by simp[Region.wanted,h5]
   rw[hw,if_pos rfl]
   exact step hwp
  ·rw[h7] at hwp
   simp only at hwp
   split at hwp
   ·rename_i b' hb'
    rw[xF hs h5 h6 hb']
    split at hwp
    ·rename_i hbb
     subst hbb
     simp only[BEq.rfl,if_true]
     exact step hwp
    ·rename_i hbb
     have:(b'==b)=false:=by simpa using hbb
     rw[this]
     simp only[Bool.false_eq_true,if_false]
     exact ⟨fun f _=>ox c f,tr hQ l gs' _ _ w hgs hwp (by rw[h2];exact hs.qj h3)⟩
   ·rename_i hb'
    rw[xG hs h5 h6 hb']
    simp only[Bool.false_eq_true,if_false]
    exact ⟨fun f _=>ox c f,tr hQ l gs' _ _ w hgs hwp (by rw[h2];exact hs.qj h3)⟩
   ·cases hwp
end
def aH.sl:aH→List Nat
 | .t n=>[n]
 | .c _=>[]
def ub:Option aH→List Nat
 |some x=>x.sl
 |none=>[]
def j9(l:List aH):List Nat:=l.flatMap aH.sl
def b8.c5:b8→List Nat
 | .mv x=>x.sl
 | .pick c a b=>c.sl++(a.sl++b.sl)
 | .bin _ x y=>x.sl++y.sl
 | .eqv _ _ x y=>x.sl++y.sl
 | .nilS _ x=>x.sl
 | .conv _ x=>x.sl
 | .un _ x=>x.sl
 | .ld _ x=>x.sl
 | .fa _ _ x=>x.sl
 | .fl _ _ _ x=>x.sl
 | .ia _ _ x i=>x.sl++i.sl
 | .is _ x i=>x.sl++i.sl
 | .ix _ _ _ x i=>x.sl++i.sl
 | .len x=>x.sl
 | .lenT x=>x.sl
 | .va _ _ x=>x.sl
 | .sl _ x lo hi mx=>x.sl++(ub lo++(ub hi++ub mx))
 | .bld _ ps=>j9 (ps.map (·.2))
 | .bs _ ps=>j9 ps
 | .ext x _=>x.sl
 | .mk _ caps=>j9 caps
 | .alloc _=>[]
 | .box x=>x.sl
 | .bu _ x v=>x.sl++v.sl
 | .dC _ _ _ _ s x=>s.sl++x.sl
 | .kL _ _ _ _ s x=>s.sl++x.sl
 | .cap x=>x.sl
 | .bs0 _=>[]
 | .ju _ _ x=>x.sl
 | .iI _ x y=>x.sl++y.sl
 | .call _ args=>j9 args
 | .eD x args=>x.sl++j9 args
 | .jq _ args=>j9 args
 | .nilC x=>x.sl
 | .ptrE _ x y=>x.sl++y.sl
 | .ky _ _ _ n=>n.sl
 | .jX=>[]
 | .lk _ _ _ m k=>m.sl++k.sl
 | .gQ _ m k v=>m.sl++(k.sl++v.sl)
 | .kF x=>x.sl
 | .jD x=>x.sl
 | .ent x=>x.sl
def aB.c5(g:aB):List Nat:=g.op.c5++(match g.guard with | some (t,_)=>[t] | none=>[])
def b8.gK:b8→Nat
 | .mv _ | .pick .. | .bin .. | .eqv .. | .nilS .. | .conv .. | .un .. | .fl .. | .ix .. | .lenT _ | .bld .. | .ext .. | .mk .. | .nilC _ | .ptrE .. =>0
 | .ld .. | .fa .. | .ia .. | .is .. | .len _ | .va .. | .bs .. | .sl .. | .cap _ | .bs0 _ | .lk .. | .ent _=>1
 | .call .. | .eD .. =>2
 | .alloc _ | .box _=>3
 | .bu .. =>4
 | .dC .. | .kL .. | .ju .. | .iI .. | .jq .. | .ky .. | .jX | .gQ .. | .kF _ | .jD _=>5
def vQ(a b:Nat):Bool:=(decide (a≤2)&&decide (b≤3))||(a==0&&b==4)
def nI(g h:aB):Bool:=vQ g.op.gK h.op.gK&&(match g.dst with
  |some d => !h.c5.contains d&&h.dst != some d
  |none=>true)&&(match h.dst with
  |some d => !g.c5.contains d
  |none=>true)
def ee(A A':af)(l:List Nat):Prop:=∀ k∈l,A'.t k=A.t k
section
variable {A A':af}
theorem de{x:aH}(h:ee A A' x.sl):ae A' x=ae A x:=by
 cases x with
 |t n=>exact h n (by simp[aH.sl])
 |c x=>rfl
theorem ee.l{l m:List Nat}(h:ee A A' (l++m)):ee A A' l:=fun k hk=>h k (List.mem_append_left _ hk)
theorem ee.r{l m:List Nat}(h:ee A A' (l++m)):ee A A' m:=fun k hk=>h k (List.mem_append_right _ hk)
theorem mE:∀ {l:List aH},ee A A' (j9 l)→l.map (ae A')=l.map (ae A)
 | [],_=>rfl
 |x::l,h=>by
  simp only[j9,List.flatMap_cons] at h
  simp only[List.map_cons,de h.l,mE (l:=l) h.r]
theorem pK{x:Option aH}(h:ee A A' (ub x)):x.map (ae A')=x.map (ae A):=by
 cases x with
 |none=>rfl
 |some x=>simp only[Option.map_some,de (x:=x) h]
theorem DH:∀ {l:List (Nat×aH)},ee A A' (j9 (l.map (·.2)))→(l.map fun p=>(p.1,ae A' p.2))=l.map fun p=>(p.1,ae A p.2)
 | [],_=>rfl
 |x::l,h=>by
  simp only[j9,List.map_cons,List.flatMap_cons] at h
  simp only[List.map_cons,de h.l,DH (l:=l) h.r]
theorem rF{f g:I→Option I}(h:∀ x v,f x=some v→g x=some v):∀ {xs vs:List I},fJ f xs=some vs→fJ g xs=some vs
 | [],vs,hx=>by simpa only[fJ] using hx
 |x::xs,vs,hx=>by
  simp only[fJ] at hx ⊢
  cases h1:f x with
  |none=>rw[h1] at hx;cases hx
  |some y=>cases h2:fJ f xs with
   |none=>rw[h1,h2] at hx;cases hx
   |some ys=>rw[h1,h2] at hx;rw[h x y h1,rF h h2];exact hx
theorem wv(hu:ez A A'):∀ (k:Nat) (x v:I),dL A k x=some v→dL A' k x=some v
 |0,_,_,h=>by simp[dL] at h
 |k+1,x,v,h=>by
  have ih:=wv hu k
  simp only[dL] at h ⊢
  split at h
  ·rename_i hc;rw[if_pos hc];exact h
  ·rename_i hc
   rw[if_neg hc]
   cases x <;>simp only[] at h ⊢ <;>try (cases h;done)
   case agg fs =>
    simp only[Option.map_eq_some_iff] at h ⊢
    obtain ⟨a,h1,h2⟩:=h
    exact ⟨a,rF ih h1,h2⟩
   case func f fs =>
    simp only[Option.map_eq_some_iff] at h ⊢
    obtain ⟨a,h1,h2⟩:=h
    exact ⟨a,rF ih h1,h2⟩
   case ptr n p =>
    cases hd:cC A (.ptr n p) with
    |none=>rw[hd] at h;cases h
    |some y =>
     rw[hd] at h;rw[jS hu hd]
     simp only[Option.map_eq_some_iff] at h ⊢
     obtain ⟨a,h1,h2⟩:=h
     exact ⟨a,ih _ _ h1,h2⟩
   case view n p sz lo l =>
    cases hd:cC A (.ptr n p) with
    |none=>rw[hd] at h;cases h
    |some y=>rw[hd] at h;rw[jS hu hd];exact h
   case mref n =>
    cases ho:A.o n with
    |none=>rw[ho] at h;cases h
    |some y =>
     rw[ho] at h;rw[hu n y ho]
     cases y <;>try (cases h;done)
     simp only at h ⊢
     split at h
     ·rename_i hk
      rw[if_pos hk]
      simp only[Option.map_eq_some_iff] at h ⊢
      obtain ⟨a,h1,h2⟩:=h
      exact ⟨a,rF ih h1,h2⟩
     ·cases h
   case own n l =>
    cases ho:A.o n with
    |none=>rw[ho] at h;cases h
    |some y=>rw[ho] at h;rw[hu n y ho];exact h
mutual
theorem DV(hu:ez A A'){aC:Bool} : ∀ {x v:I},br aC A x=some v→br aC A' x=some v
 | .ptr n p,v,h=>by
  simp only[br] at h ⊢
  cases aC <;>simp only[Bool.false_eq_true,if_false,if_true] at h ⊢
  ·exact h
  ·cases hd:cC A (.ptr n p) with
   |none=>rw[hd] at h;cases h
   |some y =>
    rw[hd] at h;rw[jS hu hd]
    simp only at h ⊢
    split at h
    ·rename_i hc;rw[if_pos hc];exact h
    ·rename_i hc
     rw[if_neg hc]
     simp only[Option.map_eq_some_iff] at h ⊢
     obtain ⟨a,h1,h2⟩:=h
     exact ⟨a,wv hu 9 _ _ h1,h2⟩
 | .mref n,v,h=>by
  simp only[br] at h ⊢
  cases aC <;>simp only[Bool.false_eq_true,if_false,if_true] at h ⊢
  ·exact h
  ·cases ho:A.o n with
   |none=>rw[ho] at h;cases h
   |some y =>
    rw[ho] at h;rw[hu n y ho]
    cases y <;>try (cases h;done)
    simp only at h ⊢
    split at h
    ·rename_i hk
     rw[if_pos hk]
     simp only[Option.map_eq_some_iff] at h ⊢
     obtain ⟨a,h1,h2⟩:=h
     exact ⟨a,rF (wv hu 9) h1,h2⟩
    ·cases h
 | .dv _,_,h=>by simp[br] at h
 | .cT _ _,_,h=>by simpa only[br] using h
 | .own n k,v,h=>by
  simp only[br] at h ⊢
  cases ho:A.o n with
  |none=>rw[ho] at h;cases h
  |some y=>rw[ho] at h;rw[hu n y ho];exact h
 | .view n p sz lo k,v,h=>by
  simp only[br] at h ⊢
  cases aC <;>simp only[Bool.false_eq_true,if_false,if_true] at h ⊢
  ·exact h
  ·cases hd:cC A (.ptr n p) with
   |none=>rw[hd] at h;cases h
   |some y=>rw[hd] at h;rw[jS hu hd];exact h
 | .func f caps,v,h=>by
  simp only[br,Option.map_eq_some_iff] at h ⊢
  obtain ⟨a,h1,h2⟩:=h
  exact ⟨a,lR hu h1,h2⟩
 | .agg fs,v,h=>by
  simp only[br,Option.map_eq_some_iff] at h ⊢
  obtain ⟨a,h1,h2⟩:=h
  exact ⟨a,lR hu h1,h2⟩
 | .nils _,_,h | .c0 _,_,h | .tuple _,_,h | .undef,_,h | .df,_,h | .bool _,_,h | .int _ _,_,h | .cY _,_,h | .nilp,_,h | .dh,_,h | .dX,_,h | .raw _,_,h | .slice _ _,_,h | .ref _,_,h | .iface _ _,_,h=>by simpa only[br] using h
theorem lR(hu:ez A A'){aC:Bool} : ∀ {xs vs:List I},b7 aC A xs=some vs→b7 aC A' xs=some vs
 | [],vs,h=>by simpa only[b7] using h
 |x::xs,vs,h=>by
  simp only[b7] at h ⊢
  cases h1:br aC A x with
  |none=>rw[h1] at h;cases h
  |some y=>cases h2:b7 aC A xs with
   |none=>rw[h1,h2] at h;cases h
   |some ys=>rw[h1,h2] at h;rw[DV hu h1,lR hu h2];exact h
end
theorem y8{op:b8}(hc:op.gK=0)(h:ee A A' op.c5):bx A' op=bx A op:=by
 cases op <;>simp only[b8.gK] at hc <;>try (cases hc;done)
 all_goals simp only[b8.c5] at h
 case mv x=>simp only[bx,de h]
 case pick c a b=>simp only[bx,de h.l,de h.r.l,de h.r.r]
 case bin _ x y=>simp only[bx,de h.l,de h.r]
 case eqv _ _ x y=>simp only[bx,de h.l,de h.r]
 case nilS x=>simp only[bx,de h]
 case conv x=>simp only[bx,de h]
 case un x=>simp only[bx,de h]
 case fl x=>simp only[bx,de h]
 case ix x i=>simp only[bx,de h.l,de h.r]
 case lenT x=>simp only[bx,de h]
 case bld zs ps=>simp only[bx,DH h]
 case ext x i=>simp only[bx,de h]
 case mk f caps=>simp only[bx,mE h]
 case nilC x=>simp only[bx,de h]
 case ptrE neg x y=>simp only[bx,de h.l,de h.r]
theorem ais(hu:ez A A'){m:I}{q:List I×List I}(h:gE A m=some q):gE A' m=some q:=by
 cases m with
 |mref n =>
  simp only[gE] at h ⊢
  cases hd:A.o n with
  |none=>simp only[hd] at h;cases h
  |some y=>simp only[hd] at h;simp only[hu n y hd];exact h
 |raw v=>cases v <;>first | (cases h;done) | (rename_i m;cases m <;>first | exact h | cases h)
 |cT ks vs=>exact h
 |_=>simp only[gE] at h;cases h
theorem L2{op:b8}(hu:ez A A')(h:ee A A' op.c5){v:I}(hv:bx A op=some v):bx A' op=some v:=by
 by_cases hc:op.gK=0
 ·rw[y8 hc h];exact hv
 cases op <;>try (exact absurd rfl hc)
 all_goals simp only[b8.c5] at h
 case ld s x =>
  simp only[bx,de h] at hv ⊢
  cases hd:cC A (ae A x) with
  |none=>rw[hd] at hv;cases hv
  |some y=>rw[hd] at hv;rw[jS hu hd];exact hv
 case fa f off x =>
  simp only[bx,de h] at hv ⊢
  generalize ae A x=z at *
  cases z <;>try (first | exact hv | (rename_i y;cases y <;>exact hv))
  rename_i n p
  cases hd:cC A (.ptr n p) with
  |none=>simp only[hd] at hv;cases hv
  |some y=>simp only[hd] at hv;simp only[jS hu hd];exact hv
 case ia n esz x i =>
  simp only[bx,de h.l,de h.r] at hv ⊢
  generalize ae A x=z at *
  cases z <;>try (first | exact hv | (rename_i y;cases y <;>exact hv))
  rename_i n p
  cases hd:cC A (.ptr n p) with
  |none=>simp only[hd] at hv;(repeat' split at hv) <;>cases hv
  |some y=>simp only[hd] at hv;simp only[jS hu hd];exact hv
 case is esz x i =>
  simp only[bx,de h.l,de h.r] at hv ⊢
  generalize ae A i=q at *
  cases q <;>try (exact hv)
  simp only at hv ⊢
  generalize ae A x=z at *
  cases z <;>try (first | exact hv | (rename_i y;cases y <;>exact hv))
  ·rename_i n p
   cases hd:A.o n with
   |none=>simp only[hd] at hv;cases hv
   |some y=>simp only[hd] at hv;simp only[hu n y hd];exact hv
  ·rename_i n p sz lo k
   simp only at hv ⊢
   cases hd:cC A (.ptr n p) with
   |none=>simp only[hd] at hv;cases hv
   |some y=>simp only[hd] at hv;simp only[jS hu hd];exact hv
 case len x =>
  simp only[bx,de h] at hv ⊢
  generalize ae A x=z at *
  cases z <;>try (first | exact hv | (rename_i y;cases y <;>exact hv))
  rename_i n p
  cases hd:A.o n with
  |none=>simp only[hd] at hv;cases hv
  |some y=>simp only[hd] at hv;simp only[hu n y hd];exact hv
 case cap x =>
  simp only[bx,de h] at hv ⊢
  generalize ae A x=z at *
  cases z <;>try (first | exact hv | (rename_i y;cases y <;>exact hv))
  rename_i n p sz lo k
  simp only at hv ⊢
  cases hd:cC A (.ptr n p) with
  |none=>simp only[hd] at hv;cases hv
  |some y=>simp only[hd] at hv;simp only[jS hu hd];exact hv
 case bs0 esz=>exact hv
 case sl esz x lo hi mx =>
  simp only[bx,de h.l,pK h.r.l,pK h.r.r.l,pK h.r.r.r] at hv ⊢
  generalize ae A x=z at *
  cases z <;>try (first | exact hv | (rename_i y;cases y <;>exact hv))
  rename_i n p sz l0 k
  simp only at hv ⊢
  cases hd:cC A (.ptr n p) with
  |none=>simp only[hd] at hv;cases hv
  |some y=>simp only[hd] at hv;simp only[jS hu hd];exact hv
 case va n esz x =>
  simp only[bx,de h] at hv ⊢
  generalize ae A x=z at *
  cases z <;>try (first | exact hv | (rename_i y;cases y <;>exact hv))
  rename_i n p
  cases hd:cC A (.ptr n p) with
  |none=>simp only[hd] at hv;cases hv
  |some y=>simp only[hd] at hv;simp only[jS hu hd];exact hv
 case lk ty z ok m k =>
  simp only[bx,de h.l,de h.r] at hv ⊢
  cases hd:gE A (ae A m) with
  |none=>rw[hd] at hv;cases hv
  |some y=>rw[hd] at hv;rw[ais hu hd];exact hv
 case ent x =>
  simp only[bx,de h] at hv ⊢
  generalize ae A x=z at *
  cases z <;>try (exact hv)
  rename_i n
  simp only at hv ⊢
  cases hd:A.o n with
  |none=>simp only[hd] at hv;cases hv
  |some y=>simp only[hd] at hv;simp only[hu n y hd];exact hv
 case bs esz ps =>
  simp only[bx,mE h] at hv ⊢
  cases hd:b7 false A (ps.map (ae A)) with
  |none=>rw[hd] at hv;cases hv
  |some y=>rw[hd] at hv;rw[lR hu hd];exact hv
 all_goals (simp only[bx] at hv;cases hv)
end
def pass(A:af)(g:aB):Prop:=match g.guard with | none=>True | some (t,b)=>A.t t=.bool b
def gF(A:af)(g:aB):Prop:=match g.guard with | none=>False | some (t,b)=>A.t t=.bool (!b)∨A.t t=.undef
inductive jM (P:Program) (A:af):b8→I→Prop where
 |pure {op:b8} {v:I} : bx A op=some v→jM P A op v
 |flat {f:FuncId} {args:List aH} {cargs:List I} {r:I} : b7 true A (args.map (ae A))=some cargs→aA P f cargs r→r.flat=true→jM P A (.call f args) r
 |lead {f:FuncId} {args:List aH} {cargs:List I} {r:I} : b7 false A (args.map (ae A))=some cargs→aA P f cargs r→jM P A (.call f args) r
 |uW {x:aH} {f:FuncId} {caps:List I} {args:List aH} {cargs:List I} {r:I} : ae A x=.func f caps→b7 true A (args.map (ae A)++caps)=some cargs→aA P f cargs r→r.flat=true→jM P A (.eD x args) r
 |uX {x:aH} {f:FuncId} {caps:List I} {args:List aH} {cargs:List I} {r:I} : ae A x=.func f caps→b7 false A (args.map (ae A)++caps)=some cargs→aA P f cargs r→jM P A (.eD x args) r
def sw(A:af)(op:b8)(x:I):Prop:=op=.alloc x∨∃ y,op=.box y∧(ae A y).cj=true∧x=ae A y
def sx(A:af)(op:b8)(n:Nat)(z:ai):Prop:=∃ s x v p b old,op=.bu s x v∧ae A x=.ptr n p∧A.o n=some (.box b)∧b.at p=some old∧yM s (ae A v) old∧z=.box (b.dz p (ae A v))
def QC(A:af)(dst:Option Nat)(op:b8)(B:af):Prop:=op.gK=5∧∀ (rest:List aB) (k:af→cI),bj A dst op rest k=k B
theorem alW{A:af}{neg:Bool}{x:aH}{v:I}(h:bx A (.nilS neg x)=some v):kc (ae A x)=false:=by
 simp only[bx] at h
 generalize ae A x=q at *
 cases q <;>simp only[kc] <;>simp only at h <;>try (cases h;done)
 rename_i sz es
 cases es with
 |nil=>simp at h
 |cons=>rfl
inductive fv (P:Program) (g:aB) (A:af):af→Prop where
 |skip:gF A g→fv P g A (A.aJ g.dst .undef)
 |val {v:I} : pass A g→jM P A g.op v→fv P g A (A.aJ g.dst v)
 |jC {d:Nat} {x:I} : pass A g→g.dst=some d→sw A g.op x→A.o d=none→fv P g A ((A.aK d (.box x)).put d (.ptr d []))
 |bu {n:Nat} {z:ai} : pass A g→g.dst=none→sx A g.op n z→fv P g A (A.aK n z)
 |iK {B:af} : pass A g→QC A g.dst g.op B→fv P g A B
theorem vx{b' b:Bool}(h:b'≠b):b' = !b:=by cases b <;>cases b' <;>simp_all
section
variable {P:Program} {Y:Value→List I→List (Nat×ai)→cR→Prop} {K:af→Prop}
theorem fv.Lh{A:af}{g:aB}{rest:List aB}(hp:pass A g)(h:a8 P Y true K (bj A g.dst g.op rest (az rest))):∃ B,fv P g A B∧a8 P Y true K (az rest B):=by
 have pure:a8 P Y true K (cN (bx A g.op) fun v=>az rest (A.aJ g.dst v))→∃ B,fv P g A B∧a8 P Y true K (az rest B):=by
  intro h
  cases hv:bx A g.op with
  |none=>rw[hv] at h;cases h
  |some v=>rw[hv] at h;exact ⟨_,.val hp (.pure hv),h⟩
 obtain ⟨dst,op,gd⟩:=g
 cases op with
 |alloc z =>
  simp only[bj] at h
  split at h
  case h_2=>cases h
  split at h
  case h_2=>cases h
  rename_i hd _ ho
  exact ⟨_,.jC hp rfl (.inl rfl) ho,h⟩
 |box x =>
  simp only[bj] at h
  split at h
  case h_2=>cases h
  split at h
  case h_2=>cases h
  rename_i hd _ ho
  split at h
  case isFalse=>cases h
  rename_i hv
  exact ⟨_,.jC hp rfl (.inr ⟨x,rfl,hv,rfl⟩) ho,h⟩
 |bu s x v =>
  simp only[bj] at h
  split at h
  case h_2=>cases h
  split at h
  case h_2=>cases h
  rename_i n p hx
  split at h
  case h_2=>cases h
  rename_i b hb
  split at h
  case h_2=>cases h
  rename_i old hat
  split at h
  case isFalse=>cases h
  rename_i hok
  exact ⟨_,.bu hp rfl ⟨s,x,v,p,b,old,rfl,hx,hb,hat,hok,rfl⟩,h⟩
 |nilS neg x =>
  simp only[bj] at h
  split at h
  ·cases h with | any hdr=>cases hdr
  ·exact pure h
 |dC e esz bytes z s x =>
  simp only[bj] at h
  split at h
  ·rename_i n l hs'
   split at h
   case h_2=>cases h
   rename_i sz ys hx'
   split at h
   case h_3=>cases h
   case h_2 =>
    rename_i T xs hn
    split at h
    case isFalse=>cases h
    rename_i hok
    exact ⟨_,.iK hp ⟨rfl,fun rest k=>by simp only[bj,hs',hx',hn,if_pos hok]⟩,h⟩
   rename_i T sz' es hn
   split at h
   case isFalse=>cases h
   rename_i hok
   exact ⟨_,.iK hp ⟨rfl,fun rest k=>by simp only[bj,hs',hx',hn,if_pos hok]⟩,h⟩
  ·rename_i hno
   have hg:∀ (rest:List aB) (k:af→cI),bj A dst (.dC e esz bytes z s x) rest k=fp A dst esz bytes z (ae A s) (er A esz (ae A s)) (er A esz (ae A x)) k:=fun rest k=>by
    simp only[bj]
   simp only[fp] at h hg
   split at h
   case h_2=>cases h
   rename_i es ys hse hsx
   simp only[hse,hsx] at hg
   have grow:¬ a8 P Y true K (gl A dst esz bytes z es ys (az rest)):=fun h=>by
    simp only[gl] at h
    split at h
    case h_2=>cases h
    split at h
    case h_2=>cases h
    split at h
    case isFalse=>cases h
    cases h with | any hdr=>cases hdr
   split at h
   ·rename_i hne
    simp only[if_pos hne] at hg
    exact ⟨_,.iK hp ⟨rfl,hg⟩,h⟩
   ·rename_i hne
    simp only[if_neg hne] at hg
    split at h
    ·exact absurd h grow
    ·exact absurd h grow
    ·rename_i n p sz lo l hsv
     split at h
     case h_2=>cases h
     rename_i b hn
     split at h
     case h_2=>cases h
     rename_i fs hat
     split at h
     ·rename_i hroom
      split at h
      case isFalse=>cases h
      rename_i hok
      simp only[hsv,hn,hat,if_pos hroom,if_pos hok] at hg
      exact ⟨_,.iK hp ⟨rfl,hg⟩,h⟩
     ·exact absurd h grow
    ·cases h
 |jq f args =>
  simp only[bj] at h
  cases h with | ext r hdr=>cases hdr
 |kL e esz bytes z s n =>
  exfalso
  simp only[bj] at h
  split at h
  case h_2=>cases h
  simp only[qK] at h
  split at h
  case h_2=>cases h
  split at h
  case h_2=>cases h
  split at h
  case h_2=>cases h
  split at h
  case h_2=>cases h
  split at h
  case isFalse=>cases h
  simp only[gl] at h
  split at h
  case h_2=>cases h
  split at h
  case h_2=>cases h
  split at h
  case isFalse=>cases h
  cases h with | any hdr=>cases hdr
 |jX =>
  simp only[bj] at h
  split at h
  case h_2=>cases h
  rename_i d
  split at h
  case h_2=>cases h
  rename_i hf
  exact ⟨_,.iK hp ⟨rfl,fun rest k=>by simp only[bj,hf]⟩,h⟩
 |ky e bytes z n =>
  simp only[bj] at h
  split at h
  case h_2=>cases h
  rename_i d
  split at h
  case h_2=>cases h
  rename_i hf
  split at h
  case h_2=>cases h
  rename_i k m hn
  split at h
  case isFalse=>cases h
  rename_i hc
  exact ⟨_,.iK hp ⟨rfl,fun rest k=>by simp only[bj,hf,hn,if_pos hc]⟩,h⟩
 |gQ ty m key v =>
  simp only[bj] at h
  split at h
  case h_2=>cases h
  split at h
  case h_2=>cases h
  rename_i n hm
  split at h
  case h_2=>cases h
  rename_i ks vs hn
  split at h
  case h_2=>cases h
  rename_i ks' vs' hl
  exact ⟨_,.iK hp ⟨rfl,fun rest k=>by simp only[bj,hm,hn,hl]⟩,h⟩
 |kF x =>
  simp only[bj] at h
  split at h
  case h_2=>cases h
  rename_i d
  split at h
  case h_2=>cases h
  rename_i hf
  split at h
  case h_2=>cases h
  rename_i ks vs hx
  exact ⟨_,.iK hp ⟨rfl,fun rest k=>by simp only[bj,hf,hx]⟩,h⟩
 |jD x =>
  simp only[bj] at h
  split at h
  case h_2=>cases h
  rename_i n hx
  split at h
  case h_2=>cases h
  rename_i ks vs left cur hn
  split at h
  ·rename_i hl
   exact ⟨_,.iK hp ⟨rfl,fun rest k=>by simp only[bj,hx,hn,if_pos hl]⟩,h⟩
  ·cases h with | any hdr=>cases hdr
 |ju esz z x =>
  simp only[bj] at h
  split at h
  case h_2=>cases h
  have hg:∀ (rest:List aB) (k:af→cI),bj A none (.ju esz z x) rest k=nu A esz z k (ae A x):=fun rest k=>rfl
  simp only[nu] at h hg
  split at h
  ·rename_i n p sz lo l hv
   split at h
   case h_2=>cases h
   rename_i b hn
   split at h
   case h_2=>cases h
   rename_i fs hat
   split at h
   case isFalse=>cases h
   rename_i hok
   simp only[hv,hn,hat,if_pos hok] at hg
   exact ⟨_,.iK hp ⟨rfl,hg⟩,h⟩
  ·rename_i z0 hv
   simp only[hv] at hg
   exact ⟨_,.iK hp ⟨rfl,hg⟩,h⟩
  ·rename_i z0 hv
   simp only[hv] at hg
   exact ⟨_,.iK hp ⟨rfl,hg⟩,h⟩
  ·cases h
 |iI esz x y =>
  have hg:∀ (rest:List aB) (k:af→cI),bj A dst (.iI esz x y) rest k=ot A dst esz k (ae A x) (er A esz (ae A y)):=fun rest k=>rfl
  simp only[bj] at h
  simp only[ot] at h hg
  split at h
  ·rename_i n p sz lo l ys hv hsx
   split at h
   case h_2=>cases h
   rename_i b hn
   split at h
   case h_2=>cases h
   rename_i fs hat
   split at h
   case isFalse=>cases h
   rename_i hok
   simp only[hv,hsx,hn,hat,if_pos hok] at hg
   exact ⟨_,.iK hp ⟨rfl,hg⟩,h⟩
  ·cases h
 |call f args =>
  simp only[bj] at h
  generalize h1:b7 true A (args.map (ae A))=a1 at h
  generalize h2:b7 false A (args.map (ae A))=a2 at h
  cases h with
  |flat r hc hf hw=>exact ⟨_,.val hp (.flat h1 hc hf),hw⟩
  |lead r hc hw=>exact ⟨_,.val hp (.lead h2 hc),hw⟩
  |iL ns r hdr=>cases hdr
  |bS aC ρ os cargs post hdr=>cases hdr
 |eD x args =>
  simp only[bj] at h
  split at h
  case h_3=>cases h
  case h_2=>cases h with | zQ os cargs post hdr=>cases hdr
  rename_i f caps hx
  generalize h1:b7 true A (args.map (ae A)++caps)=a1 at h
  generalize h2:b7 false A (args.map (ae A)++caps)=a2 at h
  cases h with
  |flat r hc hf hw=>exact ⟨_,.val hp (.uW hx h1 hc hf),hw⟩
  |lead r hc hw=>exact ⟨_,.val hp (.uX hx h2 hc),hw⟩
  |iL ns r hdr=>cases hdr
  |bS aC ρ os cargs post hdr=>cases hdr
 |_=>exact pure (by simpa only[bj] using h)
theorem fv.yD{A:af}{g:aB}{rest:List aB}(h:a8 P Y true K (az (g::rest) A)):∃ B,fv P g A B∧a8 P Y true K (az rest B):=by
 simp only[az] at h
 split at h
 ·rename_i hg
  exact fv.Lh (by simp only[pass,hg]) h
 ·rename_i t b hg
  split at h
  ·rename_i b' hb
   split at h
   ·rename_i hbb
    subst hbb
    exact fv.Lh (by simp only[pass,hg];exact hb) h
   ·rename_i hbb
    refine ⟨_,.skip (by simp only[gF,hg];exact .inl (by rw[hb,vx hbb])),h⟩
  ·rename_i hb
   exact ⟨_,.skip (by simp only[gF,hg];exact .inr hb),h⟩
  ·cases h
theorem oi{A:af}{g:aB}{rest:List aB}(hp:pass A g):az (g::rest) A=bj A g.dst g.op rest (az rest):=by
 simp only[az]
 cases hg:g.guard with
 |none=>rfl
 |some tb =>
  obtain ⟨t,b⟩:=tb
  simp only[pass,hg] at hp
  simp only[hp,if_true]
theorem fv.zM{A B:af}{g:aB}{rest:List aB}(h:fv P g A B)(hw:a8 P Y true K (az rest B)):a8 P Y true K (az (g::rest) A):=by
 cases h with
 |skip hn =>
  simp only[az]
  cases hg:g.guard with
  |none=>simp only[gF,hg] at hn
  |some tb =>
   obtain ⟨t,b⟩:=tb
   simp only[gF,hg] at hn
   rcases hn with hn | hn
   ·simp only[hn];rw[if_neg (by cases b <;>simp)];exact hw
   ·simp only[hn];exact hw
 |val hp hv =>
  rw[oi hp]
  obtain ⟨dst,op,gd⟩:=g
  cases hv with
  |pure hv =>
   have hv':bx A op=some _:=hv
   cases op <;>try (simp only[bj,hv',cN] <;>first | exact hw | (simp only[bx] at hv';cases hv');done)
   all_goals first
    |(simp only[bx] at hv';cases hv';done)
    |(simp only[bj,alW hv',Bool.false_eq_true,if_false,hv',cN];exact hw)
  |flat h1 h2 h3=>simp only[bj,h1];exact .flat _ h2 h3 hw
  |lead h1 h2=>simp only[bj,h1];exact .lead _ h2 hw
  |uW h0 h1 h2 h3=>simp only[bj,h0,h1];exact .flat _ h2 h3 hw
  |uX h0 h1 h2=>simp only[bj,h0,h1];exact .lead _ h2 hw
 |jC hp hd hm ho =>
  rw[oi hp]
  obtain ⟨dst,op,gd⟩:=g
  simp only at hd
  subst hd
  rcases hm with hm | ⟨y,hm,hv,rfl⟩ <;>simp only at hm <;>subst hm
  ·simp only[bj,ho];exact hw
  ·simp only[bj,ho,hv,if_true];exact hw
 |bu hp hd hm =>
  rw[oi hp]
  obtain ⟨dst,op,gd⟩:=g
  simp only at hd
  subst hd
  obtain ⟨s,x,v,p,b,old,h1,h2,h3,h4,h5,rfl⟩:=hm
  simp only at h1
  subst h1
  simp only[bj,h2,h3,h4,if_pos h5]
  exact hw
 |iK hp hm =>
  rw[oi hp,hm.2]
  exact hw
theorem jM.cL{A A':af}{op:b8}{v:I}(h:jM P A op v)(hu:ez A A')(ha:ee A A' op.c5):jM P A' op v:=by
 cases h with
 |pure h=>exact .pure (L2 hu ha h)
 |flat h1 h2 h3=>exact .flat (by rw[mE ha];exact lR hu h1) h2 h3
 |lead h1 h2=>exact .lead (by rw[mE ha];exact lR hu h1) h2
 |uW h0 h1 h2 h3=>simp only[b8.c5] at ha;exact .uW (by rw[de ha.l];exact h0) (by rw[mE ha.r];exact lR hu h1) h2 h3
 |uX h0 h1 h2=>simp only[b8.c5] at ha;exact .uX (by rw[de ha.l];exact h0) (by rw[mE ha.r];exact lR hu h1) h2
theorem jM.iL{A A':af}{op:b8}{v:I}(h:jM P A op v)(hc:op.gK=0)(ha:ee A A' op.c5):jM P A' op v:=by
 cases h with
 |pure h=>exact .pure (by rw[y8 hc ha];exact h)
 |_=>simp[b8.gK] at hc
theorem nT{A A':af}{g:aB}(ha:ee A A' g.c5)(h:pass A g):pass A' g:=by
 unfold pass at *
 cases hg:g.guard with
 |none=>trivial
 |some tb=>simp only[hg] at h ⊢;rw[ha tb.1 (by simp[aB.c5,hg])];exact h
theorem qd{A A':af}{g:aB}(ha:ee A A' g.c5)(h:gF A g):gF A' g:=by
 unfold gF at *
 cases hg:g.guard with
 |none=>simp only[hg] at h
 |some tb=>simp only[hg] at h ⊢;rw[ha tb.1 (by simp[aB.c5,hg])];exact h
theorem aB.kC{A A':af}{g:aB}(ha:ee A A' g.c5):ee A A' g.op.c5:=fun k hk=>ha k (List.mem_append_left _ hk)
def lA(P:Program)(g:aB)(A:af)(v:I):Prop:=(gF A g∧v=.undef)∨(pass A g∧jM P A g.op v)
theorem lA.step{A:af}{g:aB}{v:I}(h:lA P g A v):fv P g A (A.aJ g.dst v):=by
 rcases h with ⟨h,rfl⟩ | ⟨h,k⟩
 ·exact .skip h
 ·exact .val h k
theorem lA.cL{A A':af}{g:aB}{v:I}(h:lA P g A v)(hu:ez A A')(ha:ee A A' g.c5):lA P g A' v:=by
 rcases h with ⟨h,rfl⟩ | ⟨h,k⟩
 ·exact .inl ⟨qd ha h,rfl⟩
 ·exact .inr ⟨nT ha h,k.cL hu (aB.kC ha)⟩
theorem lA.iL{A A':af}{g:aB}{v:I}(h:lA P g A v)(hc:g.op.gK=0)(ha:ee A A' g.c5):lA P g A' v:=by
 rcases h with ⟨h,rfl⟩ | ⟨h,k⟩
 ·exact .inl ⟨qd ha h,rfl⟩
 ·exact .inr ⟨nT ha h,k.iL hc (aB.kC ha)⟩
theorem fv.zI{A B:af}{g:aB}(h:fv P g A B)(hc:g.op.gK≤2):∃ v,lA P g A v∧B=A.aJ g.dst v:=by
 cases h with
 |skip h=>exact ⟨_,.inl ⟨h,rfl⟩,rfl⟩
 |val h k=>exact ⟨_,.inr ⟨h,k⟩,rfl⟩
 |jC h1 h2 h3 h4=>rcases h3 with h3 | ⟨y,h3,_⟩ <;>(rw[h3] at hc;simp[b8.gK] at hc)
 |bu h1 h2 h3=>obtain ⟨s,x,v,p,b,old,h4,_⟩:=h3;rw[h4] at hc;simp[b8.gK] at hc
 |iK h1 h3=>rw[h3.1] at hc;omega
theorem qk{A:af}{a b:Option Nat}{v u:I}(h:∀ d,a=some d→b≠some d):(A.aJ a v).aJ b u=(A.aJ b u).aJ a v:=by
 cases a with
 |none=>rfl
 |some d=>cases b with
  |none=>rfl
  |some e =>
   have hne:d≠e:=fun he=>h d rfl (by rw[he])
   simp only[af.aJ,af.put,af.mk.injEq,and_true]
   funext k
   by_cases h1:k=e <;>by_cases h2:k=d <;>simp_all
theorem iQ{A:af}{d:Option Nat}{v:I} : (A.aJ d v).o=A.o:=by cases d <;>rfl
theorem mU{A:af}{d:Option Nat}{v:I}{l:List Nat}(h:∀ k,d=some k→k∉l):ee A (A.aJ d v) l:=by
 cases d with
 |none=>exact fun _ _=>rfl
 |some e =>
  intro k hk
  have:k≠e:=fun he=>h e rfl (he▸hk)
  simp[af.aJ,af.put,this]
theorem ee.symm{A A':af}{l:List Nat}(h:ee A A' l):ee A' A l:=fun k hk=>(h k hk).symm
theorem sw.same{A A':af}{op:b8}{x:I}(h:sw A op x)(ha:ee A A' op.c5):sw A' op x:=by
 rcases h with h | ⟨y,h1,h2,h3⟩
 ·exact .inl h
 ·subst h1
  have:=de (x:=y) ha
  exact .inr ⟨y,rfl,by rw[this];exact h2,by rw[this];exact h3⟩
theorem sx.same{A A':af}{op:b8}{n:Nat}{z:ai}(h:sx A op n z)(ho:A'.o=A.o)(ha:ee A A' op.c5):sx A' op n z:=by
 obtain ⟨s,x,v,p,b,old,h1,h2,h3,h4,h5,h6⟩:=h
 subst h1
 simp only[b8.c5] at ha
 have e1:=de ha.l
 have e2:=de ha.r
 exact ⟨s,x,v,p,b,old,rfl,by rw[e1];exact h2,by rw[ho];exact h3,h4,by rw[e2];exact h5,by rw[e2];exact h6⟩
theorem ahF{g h:aB}(hi:nI g h=true):vQ g.op.gK h.op.gK=true∧(∀ d,g.dst=some d→d∉h.c5)∧(∀ d,g.dst=some d→h.dst≠some d)∧(∀ d,h.dst=some d→d∉g.c5):=by
 simp only[nI,Bool.and_eq_true] at hi
 obtain ⟨⟨h1,h2⟩,h3⟩:=hi
 refine ⟨h1,fun d hd =>?_,fun d hd =>?_,fun d hd =>?_⟩
 ·rw[hd] at h2;simp at h2;exact h2.1
 ·rw[hd] at h2;simp at h2;exact h2.2
 ·rw[hd] at h3;simpa using h3
theorem fv.swap{A B C:af}{g h:aB}(hi:nI g h=true)(h1:fv P g A B)(h2:fv P h B C):∃ B',fv P h A B'∧fv P g B' C:=by
 obtain ⟨hc,i1,i2,i3⟩:=ahF hi
 simp only[vQ,Bool.or_eq_true,Bool.and_eq_true,decide_eq_true_eq,beq_iff_eq] at hc
 have hg2:g.op.gK≤2:=by rcases hc with hc | hc <;>omega
 obtain ⟨v,hv,rfl⟩:=h1.zI hg2
 have ag:ee (A.aJ g.dst v) A h.c5:=(mU i1).symm
 have cL:ez (A.aJ g.dst v) A:=fun n x hx=>by rwa [iQ] at hx
 cases h2 with
 |skip hn =>
  exact ⟨_,.skip (qd ag hn),by
   rw[qk i2];exact (hv.cL (by intro n x hx;rwa [iQ]) (mU i3)).step⟩
 |val hp hu =>
  exact ⟨_,.val (nT ag hp) (hu.cL cL (aB.kC ag)),by
   rw[qk i2];exact (hv.cL (by intro n x hx;rwa [iQ]) (mU i3)).step⟩
 |jC hp hd hm ho =>
  rename_i d x
  rw[iQ] at ho
  refine ⟨_,.jC (nT ag hp) hd (hm.same (aB.kC ag)) ho,?_⟩
  have e:((A.aJ g.dst v).aK d (.box x)).put d (.ptr d [])=((A.aK d (.box x)).put d (.ptr d [])).aJ g.dst v:=by
   cases hgd:g.dst with
   |none=>rfl
   |some e =>
    have hne:e≠d:=fun he=>i2 e hgd (by rw[hd,he])
    simp only[af.aJ,af.put,af.aK,af.mk.injEq,and_true]
    funext k
    by_cases h1:k=e <;>by_cases h2:k=d <;>simp_all
  rw[e]
  refine (hv.cL (fun n y hy =>?_) (fun k hk =>?_)).step
  ·have:n≠d:=fun he=>by rw[he,ho] at hy;cases hy
   simp only[af.put,af.aK,this,if_false];exact hy
  ·have:k≠d:=fun he=>i3 d hd (he▸hk)
   simp only[af.put,af.aK,this,if_false]
 |bu hp hd hm =>
  rename_i n z
  have hc0:g.op.gK=0:=by
   obtain ⟨s,x,v,p,b,old,h4,_⟩:=hm
   rcases hc with hc | hc
   ·rw[h4] at hc;exact absurd hc.2 (by simp[b8.gK])
   ·exact hc.1
  refine ⟨_,.bu (nT ag hp) hd (hm.same iQ.symm (aB.kC ag)),?_⟩
  have e:(A.aJ g.dst v).aK n z=(A.aK n z).aJ g.dst v:=by cases g.dst <;>rfl
  rw[e]
  exact (lA.iL (A':=A.aK n z) hv hc0 (fun _ _=>rfl)).step
 |iK hp hm =>
  exfalso
  rw[hm.1] at hc
  omega
theorem a8.swap{A:af}{g h:aB}{rest:List aB}(hi:nI g h=true)(hw:a8 P Y true K (az (g::h::rest) A)):a8 P Y true K (az (h::g::rest) A):=by
 obtain ⟨B,h1,h2⟩:=fv.yD hw
 obtain ⟨C,h3,h4⟩:=fv.yD h2
 obtain ⟨B',h5,h6⟩:=fv.swap hi h1 h3
 exact h5.zM (h6.zM h4)
theorem a8.qN{g:aB} : ∀ {l:List aB} {r:List aB} {A:af},(∀ j∈l,nI j g=true)→a8 P Y true K (az (l++g::r) A)→a8 P Y true K (az (g::(l++r)) A)
 | [],r,A,_,h=>h
 |j::l,r,A,hi,h=>by
  obtain ⟨B,h1,h2⟩:=fv.yD (g:=j) (rest:=l++g::r) h
  have h3:=a8.qN (l:=l) (r:=r) (fun k hk=>hi k (by simp[hk])) h2
  exact a8.swap (hi j (by simp)) (h1.zM h3)
end
def eE(o:Oper):List Nat:=(o.after.toList.filter fun e=>Region.binds .any e).map (·.on)
def pc(cl:List Nat):List Nat→Nat
 | []=>0
 |k::ks=>(2^k ||| cl.getD k 0) ||| pc cl ks
def sR(on:List (List Nat))(gs:List aB)(cl:List Nat):Bool :=
 (List.range gs.length).all fun i=>(on.getD i []).all (fun k=>decide (k<i))&&Nat.beq (cl.getD i 0) (pc cl (on.getD i [])) &&
  (List.range i).all fun j=>(cl.getD i 0).testBit j||nI (gs.getD j default) (gs.getD i default)
theorem zN{cl:List Nat}{j:Nat} : ∀ {l:List Nat},(pc cl l).testBit j=true→j∈l∨∃ k∈l,(cl.getD k 0).testBit j=true
 | [],h=>by simp[pc] at h
 |k::ks,h=>by
  simp only[pc,Nat.testBit_or,Bool.or_eq_true,Nat.testBit_two_pow,decide_eq_true_eq] at h
  rcases h with (h | h) | h
  ·exact .inl (by simp[h])
  ·exact .inr ⟨k,by simp,h⟩
  ·rcases zN h with h | ⟨m,h1,h2⟩
   ·exact .inl (by simp[h])
   ·exact .inr ⟨m,by simp[h1],h2⟩
structure u3 (l:List Oper) (gs:List aB):Prop where
 py:∀ i o,l[i]?=some o→∀ k∈eE o,k<i
 xM:∀ (S:Nat→Prop),(∀ i o,l[i]?=some o→S i→∀ k∈eE o,S k)→∀ i o g j,l[i]?=some o→gs[i]?=some g→(∀ k∈eE o,S k)→j<i→¬ S j→nI (gs.getD j default) g=true
theorem Y0{l:List Oper}{gs:List aB}{cl:List Nat}(hlen:gs.length=l.length)(h:sR (l.map eE) gs cl=true):u3 l gs:=by
 simp only[sR,List.all_eq_true,List.mem_range] at h
 have aX:∀ i o,l[i]?=some o→∃ g,gs[i]?=some g∧(∀ k∈eE o,k<i)∧(∀ j,(cl.getD i 0).testBit j=true→j∈eE o∨∃ k∈eE o,(cl.getD k 0).testBit j=true)∧∀ j,j<i→(cl.getD i 0).testBit j=true∨nI (gs.getD j default) g=true:=by
  intro i o ho
  have hi:i<l.length:=(List.getElem?_eq_some_iff.1 ho).1
  have h1:=h i (by omega)
  have hon:(l.map eE).getD i []=eE o:=by simp[List.getD_eq_getElem?_getD,ho]
  have hgi:i<gs.length:=by omega
  have hg:gs[i]?=some gs[i]:=List.getElem?_eq_getElem hgi
  have hgd:gs.getD i default=gs[i]:=by simp[List.getD_eq_getElem?_getD,hg]
  rw[hon,hgd] at h1
  simp only[Bool.and_eq_true,List.all_eq_true,decide_eq_true_eq,Bool.or_eq_true,List.mem_range] at h1
  have hb:=Nat.eq_of_beq_eq_true h1.1.2
  exact ⟨_,hg,h1.1.1,fun j hj=>zN (by rw[←hb];exact hj),h1.2⟩
 refine ⟨fun i o ho=>(aX i o ho).choose_spec.2.1,?_⟩
 intro S hS i o g j ho hg hon hj hnj
 have key:∀ n i o,i≤n→l[i]?=some o→(∀ k∈eE o,S k)→∀ j,(cl.getD i 0).testBit j=true→S j:=by
  intro n
  induction n with
  |zero =>
   intro i o hi ho hon j hj
   obtain ⟨g,_,h1,h2,_⟩:=aX i o ho
   rcases h2 j hj with h | ⟨k,hk,_⟩
   ·exact hon j h
   ·have:=h1 k hk;omega
  |succ n ih =>
   intro i o hi ho hon j hj
   obtain ⟨g,_,h1,h2,_⟩:=aX i o ho
   rcases h2 j hj with h | ⟨k,hk,hjk⟩
   ·exact hon j h
   ·have hki:=h1 k hk
    have hkl:k<l.length:=Nat.lt_trans hki (List.getElem?_eq_some_iff.1 ho).1
    obtain ⟨ok,hok⟩:∃ ok,l[k]?=some ok:=⟨l[k],List.getElem?_eq_getElem hkl⟩
    exact ih k ok (by omega) hok (hS k ok hok (hon k hk)) j hjk
 obtain ⟨g',hg',_,_,h3⟩:=aX i o ho
 rw[hg,Option.some.injEq] at hg'
 subst hg'
 rcases h3 j hj with h | h
 ·exact absurd (key i i o (Nat.le_refl _) ho hon j h) hnj
 ·exact h
def ji(listed:Array Bool)(n:Nat):List Nat:=(List.range n).filter fun i => !listed.getD i true
def oQ(gs:List aB)(listed:Array Bool)(n:Nat):List aB:=(ji listed n).map fun i=>gs.getD i default
theorem NX{i n:Nat}(h:i<n):List.range n=List.range i++i::(List.range (n-(i+1))).map (i+1 + ·):=by
 conv=>lhs;rw[show n=(i+1)+(n-(i+1)) by omega,List.range_add]
 rw[List.range_succ]
 simp
theorem akO{listed:Array Bool}{i n:Nat}(h:i<n)(hs:listed.size=n)(hu:listed.getD i true=false):∃ l1 l2,ji listed n=l1++i::l2∧ji (listed.setIfInBounds i true) n=l1++l2∧∀ j∈l1,j<i∧listed.getD j true=false:=by
 have same:∀ j,j≠i→(listed.setIfInBounds i true).getD j true=listed.getD j true:=fun j hj=>getD_set_ne true (Ne.symm hj)
 have hit:(listed.setIfInBounds i true).getD i true=true:=by simp[hs,h]
 refine ⟨(List.range i).filter fun j => !listed.getD j true,((List.range (n-(i+1))).map (i+1 + ·)).filter fun j => !listed.getD j true,?_,?_,?_⟩
 ·simp only[ji]
  rw[NX h,List.filter_append,List.filter_cons]
  simp only[hu,Bool.not_false,if_true]
 ·simp only[ji]
  rw[NX h,List.filter_append,List.filter_cons]
  simp only[hit,Bool.not_true,Bool.false_eq_true,if_false]
  congr 1
  ·refine List.filter_congr fun j hj =>?_
   rw[same j (by have:=List.mem_range.1 hj;omega)]
  ·refine List.filter_congr fun j hj =>?_
   obtain ⟨k,_,rfl⟩:=List.mem_map.1 hj
   rw[same _ (by omega)]
 ·intro j hj
  simp only[List.mem_filter,List.mem_range,Bool.not_eq_true'] at hj
  exact hj
theorem N3{n:Nat} : ji (Array.replicate n false) n=List.range n:=by
 simp only[ji]
 refine List.filter_eq_self.2 fun i hi =>?_
 have:=List.mem_range.1 hi
 simp[this]
theorem ait(gs:List aB):((List.range gs.length).map fun i=>gs.getD i default)=gs:=by
 apply List.ext_getElem
 ·simp
 ·intro i h1 h2
  simp[List.getD_eq_getElem?_getD,h2]
section
variable {c:cQ}
theorem nt{P:Program}{n:Nat}{bV:Array Oper} : ∀ {l:List Oper} {gs:List aB},kN P n bV l=some gs→gs.length=l.length∧∀ (i:Nat) (o:Oper),l[i]?=some o→∃ g,gs[i]?=some g∧pC P n bV o=some g
 | [],gs,h=>by simp only[kN,Option.some.injEq] at h;subst h;exact ⟨rfl,fun i o ho=>by simp at ho⟩
 |o::l,gs,h=>by
  simp only[kN] at h
  split at h
  case h_2=>cases h
  rename_i g gs' hg hgs
  simp only[Option.some.injEq] at h
  subst h
  obtain ⟨h1,h2⟩:=nt (l:=l) hgs
  refine ⟨by simp[h1],fun i o' ho =>?_⟩
  cases i with
  |zero=>simp only[List.getElem?_cons_zero,Option.some.injEq] at ho;subst ho;exact ⟨g,rfl,hg⟩
  |succ i=>simpa using h2 i o' (by simpa using ho)
theorem agH{K:af→Prop}{bV:Array Oper}{Q:Exit→Act→World→Prop}{o:Oper}{g:aB}{rest:List aB}{A:af}{a:Act}{w:World}{Kw:Act→World→Prop}(hg:pC c.P c.n bV o=some g)(hwp:a8 c.P c.Y true K (az (g::rest) A))(hs:cw c A a w)
  (hK:∀ B a' w',a8 c.P c.Y true K (az rest B)→cw c B a' w'→Kw a' w'):if Region.wanted o (yielded bV a.tmps) then o.wpIn c.bt 9 c.P a w Kw Q else (∀ f,o.about c.P w a.eval=some f→c.bt.fn f)∧Kw (a.put o.dst undef) w:=by
 obtain ⟨h1,h2,h3,h4⟩:=vC hg
 have step:a8 c.P c.Y true K (bj A g.dst g.op rest (az rest))→o.wpIn c.bt 9 c.P a w Kw Q:=fun h =>
  xy h1 h2.symm (by rw[h2];exact h3) h hs (fun B a' w' hw hs'=>hK B a' w' hw hs')
 simp only[az] at hwp
 rcases h4 with ⟨h5,h6⟩ | ⟨j,b,t,h5,h6,h7⟩
 ·rw[h6] at hwp
  have hw:Region.wanted o (yielded bV a.tmps)=true:=by simp[Region.wanted,h5]
  rw[hw,if_pos rfl]
  exact step hwp
 ·rw[h7] at hwp
  simp only at hwp
  split at hwp
  ·rename_i b' hb'
   rw[xF hs h5 h6 hb']
   split at hwp
   ·rename_i hbb
    subst hbb
    simp only[BEq.rfl,if_true]
    exact step hwp
   ·rename_i hbb
    have:(b'==b)=false:=by simpa using hbb
    rw[this]
    simp only[Bool.false_eq_true,if_false]
    exact ⟨fun f _=>ox c f,hK _ _ _ hwp (by rw[h2];exact hs.qj h3)⟩
  ·rename_i hb'
   rw[xG hs h5 h6 hb']
   simp only[Bool.false_eq_true,if_false]
   exact ⟨fun f _=>ox c f,hK _ _ _ hwp (by rw[h2];exact hs.qj h3)⟩
  ·cases hwp
theorem QV{K:af→Prop}{bV:Array Oper}{gs:List aB}{Q:Exit→Act→World→Prop}(hQ:∀ B a w,K B→cw c B a w→Q .normal a w)(hgs:kN c.P c.n bV bV.toList=some gs)(hd:u3 bV.toList gs) :
  ∀ (fuel:Nat) (listed:Array Bool) (A:af) (a:Act) (w:World),listed.size=bV.size→(∀ i o,bV.toList[i]?=some o→listed.getD i false=true→∀ k∈eE o,listed.getD k false=true)→(ji listed bV.size).length≤fuel →
   a8 c.P c.Y true K (az (oQ gs listed bV.size) A)→cw c A a w→wpAnyIn c.bt 9 c.P .any bV Q fuel listed a w:=by
 obtain ⟨hlen,hat⟩:=nt hgs
 have onOf_mem:∀ (o:Oper) (e:Edge),e∈o.after→Region.binds .any e=true→e.on∈eE o:=fun o e he hb=>by
  simp only[eE,List.mem_map,List.mem_filter]
  exact ⟨e,⟨by simpa using he,hb⟩,rfl⟩
 have of_onOf:∀ (o:Oper) (k:Nat),k∈eE o→∃ e∈o.after,Region.binds .any e=true∧e.on=k:=fun o k hk=>by
  simp only[eE,List.mem_map,List.mem_filter] at hk
  obtain ⟨e,⟨h1,h2⟩,h3⟩:=hk
  exact ⟨e,by simpa using h1,h2,h3⟩
 have last:∀ (listed:Array Bool) (A:af) (a:Act) (w:World),listed.size=bV.size→Region.ready .any bV listed=[]→a8 c.P c.Y true K (az (oQ gs listed bV.size) A)→cw c A a w→Q .normal a w:=by
  intro listed A a w hsz hr hwp hs
  have hnone:ji listed bV.size=[]:=by
   have all:∀ n,∀ i,i<n→i<bV.size→listed.getD i true=true:=by
    intro n
    induction n with
    |zero=>intro i hi;omega
    |succ n ih =>
     intro i hi his
     cases hb:listed.getD i true with
     |true=>rfl
     |false =>
      exfalso
      have ho:bV[i]?=some bV[i]:=Array.getElem?_eq_getElem his
      have:i∈Region.ready .any bV listed:=mem_ready.2 ⟨hb,bV[i],ho,fun e he hbd=>by
       have hlt:=hd.py i bV[i] (by simp) e.on (onOf_mem _ e he hbd)
       have h1:=ih e.on (by omega) (by omega)
       have h2:e.on<listed.size:=by omega
       simpa[Array.getD_eq_getD_getElem?,h2] using h1⟩
      rw[hr] at this
      cases this
   simp only[ji]
   refine List.filter_eq_nil_iff.2 fun i hi =>?_
   have:=all (i+1) i (by omega) (List.mem_range.1 hi)
   simp only[this,Bool.not_true,Bool.false_eq_true,not_false_eq_true]
  simp only[oQ,hnone,List.map_nil,az] at hwp
  cases hwp with
  |done hk=>exact hQ A a w hk hs
 intro fuel
 induction fuel with
 |zero =>
  intro listed A a w hsz hcl hcnt hwp hs
  have hnone:ji listed bV.size=[]:=List.length_eq_zero_iff.1 (by omega)
  have hr:Region.ready .any bV listed=[]:=by
   refine List.eq_nil_iff_forall_not_mem.2 fun i hi =>?_
   obtain ⟨h1,o,ho,_⟩:=mem_ready.1 hi
   have:i∈ji listed bV.size:=by
    simp only[ji,List.mem_filter,List.mem_range,h1,Bool.not_false,and_true]
    exact (Array.getElem?_eq_some_iff.1 ho).1
   rw[hnone] at this
   cases this
  exact ⟨hr,last listed A a w hsz hr hwp hs⟩
 |succ fuel ih =>
  intro listed A a w hsz hcl hcnt hwp hs
  refine ⟨fun hr=>last listed A a w hsz hr hwp hs,fun i hi =>?_⟩
  obtain ⟨hun,o,ho,hall⟩:=mem_ready.1 hi
  have hin:i<bV.size:=(Array.getElem?_eq_some_iff.1 ho).1
  obtain ⟨l1,l2,e1,e2,hl1⟩:=akO hin hsz hun
  have hol:bV.toList[i]?=some o:=by simpa using ho
  obtain ⟨g,hgi,hcg⟩:=hat i o hol
  have hon:∀ k∈eE o,listed.getD k false=true:=fun k hk=>by
   obtain ⟨e,h1,h2,h3⟩:=of_onOf o k hk
   exact h3▸hall e h1 h2
  have hgd:gs.getD i default=g:=by simp[List.getD_eq_getElem?_getD,hgi]
  have hwp':a8 c.P c.Y true K (az (g::oQ gs (listed.setIfInBounds i true) bV.size) A):=by
   simp only[oQ,e1,List.map_append,List.map_cons,hgd] at hwp
   simp only[oQ,e2,List.map_append]
   refine a8.qN (fun j hj =>?_) hwp
   obtain ⟨k,hk,rfl⟩:=List.mem_map.1 hj
   obtain ⟨hk1,hk2⟩:=hl1 k hk
   refine hd.xM (fun k=>listed.getD k false=true) hcl i o g k hol hgi hon hk1 ?_
   have hks:k<listed.size:=by omega
   simp[Array.getD_eq_getD_getElem?,hks] at hk2 ⊢
   exact hk2
  unfold wpOpIn
  rw[ho]
  refine agH hcg hwp' hs fun B a' w' hw hs'=>ih _ B a' w' (by simpa using hsz) ?_ ?_ hw hs'
  ·intro m om hom hm k hk
   by_cases hmi:m=i
   ·subst hmi
    rw[hol,Option.some.injEq] at hom
    subst hom
    exact getD_set_true (hon k hk)
   ·rw[getD_set_ne false (Ne.symm hmi)] at hm
    exact getD_set_true (hcl m om hom hm k hk)
  ·have:(ji listed bV.size).length=(ji (listed.setIfInBounds i true) bV.size).length+1:=by
    rw[e1,e2];simp;omega
   omega
theorem akN{K:af→Prop}{bV:Array Oper}{gs:List aB}{Q:Exit→Act→World→Prop}{id:Nat}{A:af}{a:Act}{w:World}(hm:c.P.follows .mixedOrders=true)(hQ:∀ B a w,K B→cw c B a w→Q .normal a w)(hgs:kN c.P c.n bV bV.toList=some gs)(hd:u3 bV.toList gs)
  (hwp:a8 c.P c.Y true K (az gs A)) (hs:cw c A a w):(Code.region id bV true).wpIn c.bt 9 c.P Q a w:=by
 refine wpIn_region_any hm (QV hQ hgs hd bV.size (Array.replicate bV.size false) A a _ (by simp) ?_ ?_ ?_ ?_)
 ·intro i o _ h
  exfalso
  simp only[Array.getD_eq_getD_getElem?,Array.getElem?_replicate] at h
  split at h <;>simp at h
 ·rw[N3];simp
 ·have hl:=(nt hgs).1
  simp only[Array.length_toList] at hl
  simp only[oQ,N3]
  rw[←hl,ait]
  exact hwp
 ·obtain ⟨D,E,hs⟩:=hs
  exact ⟨D,E,hs.grow (w' := { w with drawn:=w.drawn+1 }) ⟨rfl,rfl,rfl,Nat.le_refl _,fun _ _=>rfl⟩ (fun _ _ h=>h) (fun _ _ h _=>h) (fun b o h=>hs.dg b o h)⟩
end
inductive aM where
 |bW (on:Option (List (List Nat))) (gs:List aB)
 |seq (x y:aM)
 |cond (b:aH) (x y:aM)
 |block (id:Nat) (x:aM)
 |loop (x:aM)
 |exit (id:Nat)
 |ret
 |skip
 |scope (x:aM)
 |label
 |lh (f:aH) (ps:List Nat) (x y:aM)
 deriving Inhabited
def fq(P:Program)(n:Nat):Code→Option aM
 | .region _ bV draw=>match kN P n bV bV.toList with
  |some gs=>if (!draw||P.follows .mixedOrders)=true then some (.bW (bif draw then some (bV.toList.map eE) else none) gs) else none
  |none=>none
 | .seq x y=>match fq P n x,fq P n y with
  |some x,some y=>some (.seq x y)
  |_,_=>none
 | .cond b x y=>match bJ P 0 b,fq P n x,fq P n y with
  |some b,some x,some y=>some (.cond b x y)
  |_,_,_=>none
 | .block id x=>match fq P n x with
  |some x=>some (.block id x)
  |none=>none
 | .loop x=>match fq P n x with
  |some x=>some (.loop x)
  |none=>none
 | .exit id=>some (.exit id)
 | .ret=>some .ret
 | .skip=>some .skip
 | .scope x=>match fq P n x with
  |some x=>some (.scope x)
  |none=>none
 | .label _=>some .label
 | .rangeFunc f ps x y=>match bJ P 0 f,fq P n x,fq P n y with
  |some f,some x,some y=>if (ps.toList.all fun p=>p<n)=true then some (.lh f ps.toList x y) else none
  |_,_,_=>none
 |_=>none
def KL(c:cQ)(Q:Exit→af→Prop):Exit→Act→World→Prop:=fun e a w=>∃ A,Q e A∧cw c A a w
def ab(c:cQ)(x:aM)(Q:Exit→af→Prop)(A:af):Prop :=
 ∀ code,fq c.P c.n code=some x→∀ a w,cw c A a w→code.wpIn c.bt 9 c.P (KL c Q) a w
def aq(k:af→Prop)(Q:Exit→af→Prop):Exit→af→Prop
 | .normal,A=>k A
 |e,A=>Q e A
def bN(id:Nat)(Q:Exit→af→Prop):Exit→af→Prop
 | .exit id',A=>if id'=id then Q .normal A else Q (.exit id') A
 |e,A=>Q e A
section
variable {c:cQ} {A:af} {Q:Exit→af→Prop}
def YH(d:Option (List (List Nat)))(gs:List aB)(cl:List Nat):Bool:=match d with
 |none=>true
 |some on=>sR on gs cl
theorem ab.bW{d:Option (List (List Nat))}{gs:List aB}{cl:List Nat}(hd:YH d gs cl=true)(h:∀ K:af→Prop,(∀ B,Q .normal B→K B)→a8 c.P c.Y d.isSome K (az gs A)):ab c (.bW d gs) Q A:=by
 intro code hc a w hs
 cases code <;>simp only[fq] at hc <;>try (first | (cases hc;done) | ((repeat' split at hc) <;>cases hc;done))
 rename_i id bV draw
 split at hc
 ·rename_i gs' hgs
  split at hc
  case isFalse=>cases hc
  rename_i hok
  simp only[Option.some.injEq,aM.bW.injEq] at hc
  obtain ⟨rfl,rfl⟩:=hc
  cases draw with
  |false=>exact wpIn_region_list (tr (K:=Q .normal) (fun B a w hk hs=>⟨B,hk,hs⟩) bV.toList gs' A a w hgs (h _ fun _ hb=>hb) hs)
  |true =>
   simp only[Bool.not_true,Bool.false_or] at hok
   exact akN (K:=Q .normal) hok (fun B a w hk hs=>⟨B,hk,hs⟩) hgs (Y0 (nt hgs).1 hd) (h _ fun _ hb=>hb) hs
 ·cases hc
theorem ab.seq{x y:aM}(h:ab c x (aq (fun B=>ab c y Q B) Q) A):ab c (.seq x y) Q A:=by
 intro code hc a w hs
 cases code <;>simp only[fq] at hc <;>try (first | (cases hc;done) | ((repeat' split at hc) <;>cases hc;done))
 rename_i cx cy
 split at hc
 ·rename_i x' y' hx hy
  simp only[Option.some.injEq,aM.seq.injEq] at hc
  obtain ⟨rfl,rfl⟩:=hc
  refine wpIn_seq (wpIn_mono (h cx hx a w hs) ?_)
  rintro e a' w' ⟨B,hq,hs'⟩
  cases e <;>simp only[aq,Exit.then] at * <;>first | exact hq cy hy a' w' hs' | exact ⟨B,hq,hs'⟩
 ·cases hc
theorem ab.cond{b:aH}{x y:aM}{t:Bool}(hb:ae A b=.bool t)(h1:t=true→ab c x Q A)(h2:t=false→ab c y Q A):ab c (.cond b x y) Q A:=by
 intro code hc a w hs
 cases code <;>simp only[fq] at hc <;>try (first | (cases hc;done) | ((repeat' split at hc) <;>cases hc;done))
 rename_i cb cx cy
 split at hc
 ·rename_i b' x' y' hb' hx hy
  simp only[Option.some.injEq,aM.cond.injEq] at hc
  obtain ⟨rfl,rfl,rfl⟩:=hc
  obtain ⟨D,E,hs'⟩:=hs
  have hv:=cg hs' hb'
  rw[hb] at hv
  exact wpIn_cond_split (me hv) (fun ht=>h1 ht cx hx a w ⟨D,E,hs'⟩) (fun ht=>h2 ht cy hy a w ⟨D,E,hs'⟩)
 ·cases hc
theorem ab.block{id:Nat}{x:aM}(h:ab c x (bN id Q) A):ab c (.block id x) Q A:=by
 intro code hc a w hs
 cases code <;>simp only[fq] at hc <;>try (first | (cases hc;done) | ((repeat' split at hc) <;>cases hc;done))
 rename_i id' cx
 split at hc
 ·rename_i x' hx
  simp only[Option.some.injEq,aM.block.injEq] at hc
  obtain ⟨rfl,rfl⟩:=hc
  refine wpIn_block (wpIn_mono (h cx hx a w hs) ?_)
  rintro e a' w' ⟨B,hq,hs'⟩
  cases e <;>simp only[bN,Exit.inBlock] at * <;>first
   |exact ⟨B,hq,hs'⟩
   |(split at hq
     ·rename_i he;rw[if_pos he];exact ⟨B,hq,hs'⟩
     ·rename_i he;rw[if_neg he];exact ⟨B,hq,hs'⟩)
 ·cases hc
theorem ab.exit{id:Nat}(h:Q (.exit id) A):ab c (.exit id) Q A:=by
 intro code hc a w hs
 cases code <;>simp only[fq] at hc <;>try (first | (cases hc;done) | ((repeat' split at hc) <;>cases hc;done))
 simp only[Option.some.injEq,aM.exit.injEq] at hc
 subst hc
 exact wpIn_exit ⟨A,h,hs⟩
theorem ab.ret(h:Q .ret A):ab c .ret Q A:=by
 intro code hc a w hs
 cases code <;>simp only[fq] at hc <;>try (first | (cases hc;done) | ((repeat' split at hc) <;>cases hc;done))
 exact wpIn_ret ⟨A,h,hs⟩
theorem ab.skip(h:Q .normal A):ab c .skip Q A:=by
 intro code hc a w hs
 cases code <;>simp only[fq] at hc <;>try (first | (cases hc;done) | ((repeat' split at hc) <;>cases hc;done))
 exact wpIn_skip ⟨A,h,hs⟩
theorem DI{p:Nat→Prop}(h:∃ n,p n):∃ n,p n∧∀ m,p m→n≤m:=by
 obtain ⟨n,hn⟩:=h
 induction n using Nat.strongRecOn with
 |_ n ih =>
  by_cases hm:∃ m,m<n∧p m
  ·obtain ⟨m,h1,h2⟩:=hm
   exact ih m h1 h2
  ·exact ⟨n,hn,fun m hp=>Nat.le_of_not_lt fun hlt=>hm ⟨m,hlt,hp⟩⟩
open Classical in
noncomputable def least(p:Nat→Prop):Nat:=if h:∃ n,p n then (DI h).choose else 0
theorem KF{p:Nat→Prop}(h:∃ n,p n):p (least p)∧∀ m,p m→least p≤m:=by
 simp only[least,dif_pos h]
 exact (DI h).choose_spec
theorem al7{bt:Fence}{N:Nat}{P:Program}{code:Code}{QQ:Exit→Act→World→Prop}(aj:Nat→Act→World→Prop)(round:∀ n a w,aj n a w→code.wpIn bt N P (Exit.then (fun a' w'=>∃ m,m<n∧aj m a' w') QQ) a w) :
  ∀ n a w,aj n a w→(Code.loop code).wpIn bt N P QQ a w:=by
 intro n a w h
 refine wpIn_loop (fun a w=>∃ n,aj n a w) (fun a w=>least fun n=>aj n a w) ⟨n,h⟩ ?_
 intro a w hI
 have hm:=(KF hI).1
 refine wpIn_mono (round _ a w hm) ?_
 intro e a' w' hq
 cases e <;>simp only[Exit.then] at hq ⊢ <;>try exact hq
 obtain ⟨m,h1,h2⟩:=hq
 exact ⟨⟨m,h2⟩,Nat.lt_of_le_of_lt ((KF ⟨m,h2⟩).2 m h2) h1⟩
def aD(A B:af):Prop:=∀ (c:cQ) (a:Act) (w:World),cw c A a w→cw c B a w
theorem aD.refl(A:af):aD A A:=fun _ _ _ h=>h
theorem aD.trans{A B C:af}(h:aD A B)(k:aD B C):aD A C:=fun c a w hs=>k c a w (h c a w hs)
theorem ab.sub{x:aM}{B:af}(hsub:aD A B)(h:ab c x Q B):ab c x Q A:=fun code hc a w hs=>h code hc a w (hsub c a w hs)
theorem ab.mono{x:aM}{Q':Exit→af→Prop}(h:ab c x Q A)(hq:∀ e B,Q e B→Q' e B):ab c x Q' A :=
 fun code hc a w hs=>wpIn_mono (h code hc a w hs) fun e a' w' ⟨B,h1,h2⟩=>⟨B,hq e B h1,h2⟩
theorem ab.loop{σ:Type}(S:σ→af)(C:σ→Prop)(m:σ→Nat)(s0:σ){x:aM}(h0:C s0)(hsub:aD A (S s0))
  (round:∀ s,C s→ab c x (aq (fun B=>∃ s',C s'∧m s'<m s∧aD B (S s')) Q) (S s)):ab c (.loop x) Q A:=by
 intro code hc a w hs
 cases code <;>simp only[fq] at hc <;>try (first | (cases hc;done) | ((repeat' split at hc) <;>cases hc;done))
 rename_i cx
 split at hc
 ·rename_i x' hx
  simp only[Option.some.injEq,aM.loop.injEq] at hc
  subst hc
  refine al7 (fun n a w=>∃ s,C s∧m s=n∧cw c (S s) a w) ?_ (m s0) a w ⟨s0,h0,rfl,hsub c a w hs⟩
  rintro n a w ⟨s,hC,rfl,hs⟩
  refine wpIn_mono (round s hC cx hx a w hs) ?_
  rintro e a' w' ⟨B,hq,hs'⟩
  cases e <;>simp only[aq,Exit.then] at * <;>first
   |exact ⟨B,hq,hs'⟩
   |(obtain ⟨s',h1,h2,h3⟩:=hq;exact ⟨m s',h2,s',h1,rfl,h3 c a' w' hs'⟩)
 ·cases hc
end
inductive bg where
 |tmp (t:Nat)
 |cell (a:Nat) (s:Option Nat)
def iX(P:Program):List ResultVar→Option (List bg)
 | []=>some []
 | .tmp t::l=>(iX P l).map (.tmp t :: ·)
 | .cell a t::l=>match fU P t,iX P l with
  |some s,some l=>some (.cell a s::l)
  |_,_=>none
def uG(A:af):bg→Option I
 | .tmp t=>br true A (A.t t)
 | .cell a s=>match cC A (A.t a) with
  |some x=>if bY s x then br true A x else none
  |none=>none
def fg(A:af):List bg→Option (List I)
 | []=>some []
 |r::rs=>match uG A r,fg A rs with
  |some x,some xs=>some (x::xs)
  |_,_=>none
def lf:List I→I
 | [x]=>x
 |xs=>.tuple xs
def pb(args:List I):af:=⟨fun t=>args.getD t .undef,fun _=>none⟩
def jH(rs:List bg)(r:I):Exit→af→Prop
 | .ret,A=>∃ xs,fg A rs=some xs∧lf xs=r
 | .normal,A=>∃ xs,fg A rs=some xs∧lf xs=r
 |_,_=>False
def qx(args:List I)(os:List (Nat×ai)):af:=⟨fun t=>args.getD t .undef,al os⟩
theorem alL{P:Program}{n:Nat}{w:World}{D:aN}{E:aZ}{Y:Value→List I→List (Nat×ai)→cR→Prop}{args:List I}{os:List (Nat×ai)}{vs:List Value}(hD:∀ b o,D b o→b<w.heap.size)(ho:ly (fun _=>True) w D E (al os))
  (hv:aF w D E args vs) (hn:vs.length≤n) (hos:∀ m,au os m=true→n≤m∧1000000≤m) (hy:pn ⟨P,w,D,n,dw E,E,Y,none⟩) :
  aT ⟨P,w,D,n,dw E,E,Y,none⟩ (qx args os) { tmps:=vs.toArray++Array.replicate (n-vs.toArray.size) undef,defers:=[] } w D E:=by
 refine ⟨by simp;omega,⟨[],rfl,.nil,fun _ h=>by simp at h⟩,fun t =>?_,fQ.refl _ _,fun _ _ h _=>h,hD,fun m =>?_,ho.cU,fun m e h=>.inr ⟨e,h,.refl e⟩,fun m hm =>?_,fun _ _ h=>h,hy,.refl _ _⟩
 ·have key:∀ (args:List I) (vs:List Value) (t:Nat),aF w D E args vs→aW w D E (args.getD t .undef) (vs.getD t undef):=by
   intro args
   induction args with
   |nil=>intro vs t h;simp only[aF] at h;subst h;simp[aW]
   |cons x xs ih =>
    intro vs t h
    simp only[aF] at h
    obtain ⟨v,rest,cs,rfl,h1,h2,h3⟩:=h
    cases t with
    |zero=>simpa using mO h1 h2
    |succ t=>simpa using ih rest t h3
  have:=key args vs t hv
  have e:(vs.toArray++Array.replicate (n-vs.toArray.size) undef).getD t undef=vs.getD t undef:=by
   simp only[Array.getD_eq_getD_getElem?,List.getD_eq_getElem?_getD]
   rcases Nat.lt_or_ge t vs.length with h | h
   ·rw[Array.getElem?_append_left (by simpa using h)]
    simp
   ·rw[Array.getElem?_append_right (by simpa using h),List.getElem?_eq_none h]
    simp only[Array.getElem?_replicate]
    split <;>rfl
  simp only[qx]
  rw[e]
  exact this
 ·have h:=ho.bS m
  simp only[qx]
  cases hx:al os m with
  |none=>rw[hx] at h;exact h
  |some x =>
   rw[hx] at h
   cases x with
   |box x =>
    obtain ⟨b,cs,T,k1,_,k3⟩:=h
    exact ⟨b,cs,T,k1,.inr ⟨m,_,k1,rfl⟩,k3⟩
   |bT T sz es =>
    obtain ⟨aE,k1,k2,k3⟩:=h
    refine ⟨aE,k1,k2,?_⟩
    cases aE with
    |none=>exact k3
    |some bc =>
     obtain ⟨b,cap⟩:=bc
     obtain ⟨cs,pre,rest,_,k4⟩:=k3
     exact ⟨cs,pre,rest,.inr ⟨m,_,k1,rfl⟩,k4⟩
   |cV T xs =>
    obtain ⟨aE,k1,k2,k3⟩:=h
    refine ⟨aE,k1,k2,?_⟩
    cases aE with
    |none=>exact k3
    |some bc =>
     obtain ⟨b,cap⟩:=bc
     obtain ⟨cs,rest,_,k4⟩:=k3
     exact ⟨cs,rest,.inr ⟨m,_,k1,rfl⟩,k4⟩
   |dO x =>
    obtain ⟨b,k1,_,k3⟩:=h
    exact ⟨b,k1,.inr ⟨m,_,k1,rfl⟩,k3⟩
   |cz ks vs =>
    obtain ⟨b,es,ck,k1,_,k3⟩:=h
    exact ⟨b,es,ck,k1,.inr ⟨m,_,k1,rfl⟩,k3⟩
   |it ks vs left cur =>
    obtain ⟨r,b,es,ck,si,se,la,k1,_,k3⟩:=h
    exact ⟨r,b,es,ck,si,se,la,k1,.inr ⟨m,_,k1,rfl⟩,k3⟩
 ·have h:=ho.bS m
  refine hos m ?_
  cases hx:al os m with
  |none=>rw[hx] at h;exact absurd h hm
  |some x=>simp[au,hx]
def rW(tmps:Array Value):ResultVar→Sem Value
 | .tmp t=>pure (tmps.getD t undef)
 | .cell a t=>do loadVar t (←asAddr (tmps.getD a undef))
theorem akZ(fn:Func)(tmps:Array Value):results fn tmps=(do
  let vs ←fn.results.mapM (rW tmps)
  pure (if h:vs.size=1 then vs[0] else .tuple vs)):=by
 unfold results
 rfl
def uy(A:af):bg→Option I
 | .tmp t=>some (A.t t)
 | .cell a s=>match cC A (A.t a) with
  |some x=>if bY s x then some x else none
  |none=>none
def mX(A A0:af)(os:List (Nat×ai)):List bg→List I→Prop
 | [],[]=>True
 |r::rs,y::ys=>(∃ x,uy A r=some x∧((y=x∧x.cj=true∧x.only (au os)=true)∨br true A0 x=some y))∧mX A A0 os rs ys
 |_,_=>False
def af.ln(A:af)(os:List (Nat×ai)):af:=⟨A.t,fun n=>if au os n then none else A.o n⟩
def lz(rs:List bg)(post:cR)(A:af):Prop :=
 ∃ (os:List (Nat×ai)) (xs:List I),(∀ n x,al os n=some x→A.o n=some x∧x.only (au os)=true∧x.eS=true)∧mX A (A.ln os) os rs xs∧post (lf xs) os
def nW(rs:List bg)(post:cR):Exit→af→Prop
 | .ret,A=>lz rs post A
 | .normal,A=>lz rs post A
 |_,_=>False
theorem zj{c:cQ}{A:af}{a:Act}{w:World}{D:aN}{E:aZ}(hs:aT c A a w D E){A0:af}(hu:ez A0 A){os:List (Nat×ai)}{D':aN}{E':aZ}(hw:iE true A0 D E D')(aw:∀ n,au os n=true→E' n=E n)(hE':∀ n,au os n=false→E' n=none) :
  ∀ (rs:List ResultVar) (ls:List bg) (xs:List I),iX c.P rs=some ls→mX A A0 os ls xs→∃ vs:List Value,(rs.mapM (rW a.tmps)).run c.P w=.ok vs w∧aF w D' E' xs vs
 | [],ls,xs,hc,hr=>by
  simp only[iX,Option.some.injEq] at hc
  subst hc
  cases xs with
  |nil=>exact ⟨[],by simp,by simp[aF]⟩
  |cons x xs=>simp[mX] at hr
 |r::rs,ls,xs,hc,hr=>by
  have hl:dS w D E' w D' E':=⟨hw.c6,fun _ _ _ _ h=>h,fun _ _ _ h=>h,fun _ aE l h=>⟨aE,l,h,Nat.le_refl _,fun _=>rfl⟩,fun _ _ h=>h,fun _ _ h=>h,fun _ _ _ _ h=>h⟩
  have fin1:∀ {x y:I} {v:Value},aW w D E x v→((y=x∧x.cj=true∧x.only (au os)=true)∨br true A0 x=some y)→∃ cs,bK y v cs∧ah w D' E' y cs:=by
   intro x y v hv hf
   rcases hf with ⟨rfl,h1,h2⟩ | hf
   ·have h3:=aW.bL hl (aW.dy aw h2 hv)
    cases y <;>simp only[aW] at h3 <;>first | (simp[I.cj] at h1;done) | exact h3
   ·have h1:aF w D E [x] [v]:=m7 [x] [v] (.cons hv .nil) (by
     intro z hz
     simp only[List.mem_singleton] at hz
     subst hz
     cases z <;>simp_all[br,I.cj])
    have h2:=mG (E':=E') hs hu hw [x] [y] [v] h1 (by simp[b7,hf])
    simp only[aF] at h2
    obtain ⟨v',rest,cs,e,k1,k2,_⟩:=h2
    simp only[List.cons.injEq] at e
    obtain ⟨rfl,_⟩:=e
    exact ⟨cs,k1,k2⟩
  cases r with
  |tmp t =>
   simp only[iX,Option.map_eq_some_iff] at hc
   obtain ⟨ls',hl',rfl⟩:=hc
   cases xs with
   |nil=>simp[mX] at hr
   |cons y ys =>
    simp only[mX] at hr
    obtain ⟨⟨x,h1,h2⟩,h3⟩:=hr
    simp only[uy,Option.some.injEq] at h1
    subst h1
    obtain ⟨vs,k1,k2⟩:=zj hs hu hw aw hE' rs ls' ys hl' h3
    obtain ⟨cs,k3,k4⟩:=fin1 (hs.ew t) h2
    refine ⟨a.tmps.getD t undef::vs,?_,?_⟩
    ·simp only[List.mapM_cons,Sem.run_bind,rW,Sem.run_pure,Result.andThen_ok,k1]
    ·simp only[aF];exact ⟨_,vs,cs,rfl,k3,k4,k2⟩
  |cell ad t =>
   simp only[iX] at hc
   split at hc
   ·rename_i s ls' hk hl'
    simp only[Option.some.injEq] at hc
    subst hc
    cases xs with
    |nil=>simp[mX] at hr
    |cons y ys =>
     simp only[mX] at hr
     obtain ⟨⟨x,h1,h2⟩,h3⟩:=hr
     obtain ⟨vs,k1,k2⟩:=zj hs hu hw aw hE' rs ls' ys hl' h3
     simp only[uy] at h1
     split at h1
     ·rename_i z hz
      split at h1
      ·rename_i hok
       simp only[Option.some.injEq] at h1
       subst h1
       obtain ⟨b,off,cs,q1,q2,q3⟩:=hs.AM (hs.ew ad) hz
       obtain ⟨v,q4,q5⟩:=Ol hk hok q2 q3
       obtain ⟨cs',k3,k4⟩:=fin1 q5 h2
       refine ⟨v::vs,?_,?_⟩
       ·have e:(rW a.tmps (.cell ad t)).run c.P w=.ok v w:=by
         simp only[rW,Sem.run_bind,q1,asAddr,Sem.run_pure,Result.andThen_ok,q4]
        simp only[List.mapM_cons,Sem.run_bind,Sem.run_pure,Result.andThen_ok,k1,e]
       ·simp only[aF];exact ⟨_,vs,cs',rfl,k3,k4,k2⟩
      ·cases h1
     ·cases h1
   ·cases hc
theorem aT.VE{c:cQ}{A:af}{a:Act}{w:World}{D:aN}{E:aZ}(h:aT c A a w D E){B:Nat}{ds:List Deferred}(hd:a.defers = { target:=.collected B,args := #[] } :: ds) :
  w.heap[B]?=some (.deferred (some []))∧aT c A { a with defers:=ds } (w.putObj B (.deferred none)) D E:=by
 obtain ⟨Bs,h1,h2,h3⟩:=h.eV
 rw[hd] at h1
 cases Bs with
 |nil=>cases h1
 |cons B' Bs =>
  simp only[List.map_cons,List.cons.injEq,Deferred.mk.injEq,Target.collected.injEq,and_true] at h1
  obtain ⟨rfl,rfl⟩:=h1
  have hB:=h3 B (by simp)
  have hlt:B<w.heap.size:=(Array.getElem?_eq_some_iff.1 hB.2).1
  have hl:dS w D E (w.putObj B (.deferred none)) D E :=
   ⟨fun _ _ h=>h,fun b o v _ hv=>vL hB.2 rfl hv,fun _ _ _ h=>h,fun _ aE l h=>⟨aE,l,h,Nat.le_refl _,fun _=>rfl⟩,fun _ _ h=>h,fun _ _ h=>h,fun b es ck _ hm=>(World.putObj_heap_other (fun e=>by rw[e,hB.2] at hm;cases hm)).trans hm⟩
  have hne:∀ {b:Nat} {cs:Array Value} {T:TypeId},w.heap[b]?=some (.cells cs T (0,0))→(w.putObj B (.deferred none)).heap[b]?=w.heap[b]?:=fun {b cs T} hb =>
   World.putObj_heap_other (fun e=>by rw[e,hB.2] at hb;cases hb)
  refine ⟨hB.2,h.sz,⟨Bs,rfl,(List.nodup_cons.1 h2).2,fun B2 hB2=>⟨(h3 B2 (by simp[hB2])).1,?_⟩⟩,fun t=>aW.bL hl (h.ew t),h.dZ.trans ⟨rfl,rfl,rfl,by simp,fun k hk =>?_⟩,h.c6,fun b o hd=>by have:=h.dg b o hd;simpa using this,fun n =>?_,h.cU,h.eb,h.ff,h.cL,h.fk,h.lu hl⟩
  ·rw[World.putObj_heap_other (fun e=>(List.nodup_cons.1 h2).1 (by rw[←e];exact hB2))]
   exact (h3 B2 (by simp[hB2])).2
  ·exact World.putObj_heap_other (fun e=>hk (e▸.inl hB.1))
  ·refine (h.bS n).bL hl rfl fun e b he hb=>⟨?_,fun _ h=>h⟩
   have hob:=h.bS n
   unfold c9 at hob
   split at hob
   ·rw[hob] at he;cases he
   ·obtain ⟨b',cs,T,k1,_,k3,_⟩:=hob
    rw[k1,Option.some.injEq] at he
    subst he
    simp only[bU.aE,Option.some.injEq] at hb
    subst hb
    exact hne k3
   ·obtain ⟨aE,k1,_,k3⟩:=hob
    rw[k1,Option.some.injEq] at he
    subst he
    split at k3
    ·simp[bU.aE] at hb
    ·obtain ⟨cs,pre,rest,_,k5,_⟩:=k3
     simp only[bU.aE,Option.some.injEq] at hb
     subst hb
     exact hne k5
   ·obtain ⟨b',k1,_,k3,k4,_⟩:=hob
    rw[k1,Option.some.injEq] at he
    subst he
    simp only[bU.aE,Option.some.injEq] at hb
    subst hb
    exact World.putObj_heap_other (fun e=>by rw[e,hB.2] at k3;cases k3;cases k4)
   ·obtain ⟨b',es,ck,k1,_,k3,_⟩:=hob
    rw[k1,Option.some.injEq] at he
    subst he
    cases hb
    exact World.putObj_heap_other (fun e=>by rw[e,hB.2] at k3;cases k3)
   ·obtain ⟨r,b',es,ck,si,se,la,k1,_,k3,_⟩:=hob
    rw[k1,Option.some.injEq] at he
    subst he
    cases hb
    exact World.putObj_heap_other (fun e=>by rw[e,hB.2] at k3;cases k3)
   ·obtain ⟨aE,k1,_,k3⟩:=hob
    rw[k1,Option.some.injEq] at he
    subst he
    split at k3
    ·simp[bU.aE] at hb
    ·obtain ⟨cs,m,_,k5,_⟩:=k3
     simp only[bU.aE,Option.some.injEq] at hb
     subst hb
     exact hne k5
def vj(w:World)(D:aN)(E:aZ)(post:cR)(v:Value)(w':World):Prop :=
 ∃ D' E' r os',post r os'∧aW w' D' E' r v∧ly (fun b=>w.heap.size≤b∨dw E b) w' D' E' (al os') ∧
  fQ (fun b=>w.heap.size≤b∨dw E b) w w'∧(∀ b o,D b o→D' b o)∧(∀ b o,D' b o→b<w'.heap.size)∧(∀ b o,D' b o→b<w.heap.size→¬ dw E b→D b o) ∧
  (∀ n e,E n=some e→au os' n=true→∃ e',E' n=some e'∧e.le e')∧iD w D w'
theorem aT.KG{P:Program}{n:Nat}{w:World}{D:aN}{E:aZ}{Y:Value→List I→List (Nat×ai)→cR→Prop}{mY:Option Nat}{A:af}{a:Act}{w':World}{D':aN}{E':aZ}
  (hs:aT ⟨P,w,D,n,dw E,E,Y,mY⟩ A a w' D' E') {os:List (Nat×ai)} (h1:∀ n x,al os n=some x→A.o n=some x∧x.only (au os)=true∧x.eS=true) :
  ∃ D2 E2,iE true (A.ln os) D' E' D2∧(∀ n,au os n=true→E2 n=E' n)∧(∀ n,au os n=false→E2 n=none)∧ly (fun b=>w.heap.size≤b∨dw E b) w' D2 E2 (al os) ∧
   fQ (fun b=>w.heap.size≤b∨dw E b) w w'∧(∀ b o,D b o→D2 b o)∧(∀ b o,D2 b o→b<w'.heap.size)∧(∀ b o,D2 b o→b<w.heap.size→¬ dw E b→D b o) ∧
   (∀ n e,E n=some e→au os n=true→∃ e',E2 n=some e'∧e.le e')∧iD w D w':=by
 obtain ⟨c,hc⟩:∃ c:cQ,c=⟨P,w,D,n,dw E,E,Y,mY⟩:=⟨_,rfl⟩
 rw[←hc] at hs
 have hM:c.fm=fun b=>w.heap.size≤b∨dw E b:=by rw[hc];rfl
 obtain ⟨E2,hE2⟩:∃ E2:aZ,E2=fun n=>if au os n then E' n else none:=⟨_,rfl⟩
 obtain ⟨D2,hD2⟩:∃ D2:aN,D2=fun b o=>b<w'.heap.size∧(D' b o∨(¬ dw E2 b∧c.fm b)):=⟨_,rfl⟩
 have e2:∀ n,au os n=true→E2 n=E' n:=fun n hn=>by rw[hE2];simp only[hn,if_true]
 have cut:∀ n e,E2 n=some e→au os n=true∧E' n=some e:=fun n e he=>by
  rw[hE2] at he
  simp only at he
  split at he
  ·exact ⟨by assumption,he⟩
  ·cases he
 have up2:∀ b o,D' b o→D2 b o:=fun b o hd=>by
  rw[hD2]
  exact ⟨hs.dg b o hd,.inl hd⟩
 have down:∀ b o,D2 b o→dw E2 b→D' b o:=fun b o hd hb=>by
  rw[hD2] at hd
  rcases hd.2 with h | h
  ·exact h
  ·exact absurd hb h.1
 have hu:ez (A.ln os) A:=fun n x hx=>by
  simp only[af.ln] at hx
  split at hx
  ·cases hx
  ·exact hx
 have notOwn:∀ n e b,(A.ln os).o n≠none→E' n=some e→e.aE=some b→¬ dw E2 b:=fun n e b hn he hb ho=>by
  obtain ⟨m,e',k1,k3⟩:=ho
  obtain ⟨k1,k2⟩:=cut m e' k1
  have:=hs.cU n m e _ b he k2 hb k3
  subst this
  simp[af.ln,k1] at hn
 have hw:iE true (A.ln os) D' E' D2:=by
  refine ⟨up2,fun n T sz es b cap hn aw o _ =>?_,fun _ n x b aP hn aw o _ =>?_,fun _ n ks vs b hn aw =>?_⟩
  ·rw[hD2]
   refine ⟨hs.fY aw rfl,.inr ⟨notOwn n _ b (by rw[hn];simp) aw rfl,?_⟩⟩
   obtain ⟨aE,k1,k2,k3⟩:=hs.bT (hu n _ hn)
   rw[aw] at k1
   simp only[Option.some.injEq,bU.rw.injEq,and_true] at k1
   subst k1
   obtain ⟨_,_,_,k4,_⟩:=k3
   exact k4
  ·rw[hD2]
   refine ⟨hs.fY aw rfl,.inr ⟨notOwn n _ b (by rw[hn];simp) aw rfl,?_⟩⟩
   obtain ⟨b',cs,T,k1,k2,_⟩:=hs.box (hu n _ hn)
   rw[k1] at aw
   simp only[Option.some.injEq,bU.aC.injEq] at aw
   obtain ⟨rfl,_⟩:=aw
   exact k2
  ·rw[hD2]
   refine ⟨hs.fY aw rfl,.inr ⟨notOwn n _ b (by rw[hn];simp) aw rfl,?_⟩⟩
   obtain ⟨b',es,ck,k1,k2,_⟩:=hs.map (hu n _ hn)
   rw[k1] at aw
   cases aw
   exact k2
 have hst:iD w D w':=by
  have:=hs.fL
  rw[hc] at this
  exact this
 refine ⟨D2,E2,hw,e2,fun n hn=>by rw[hE2];simp[hn],⟨fun m =>?_,fun m m' e e' b g1 g2 g3 g4 =>?_⟩,?_,fun b o hd=>up2 b o (hs.cL b o (by rw[hc];exact hd)),fun b o hd=>by rw[hD2] at hd;exact hd.1,fun b o hd hlt hno =>?_,fun m e hm hin =>?_,hst⟩
 ·cases hx:al os m with
  |none=>simp only[c9];rw[hE2];simp[au,hx]
  |some x =>
   have hm:au os m=true:=by simp[au,hx]
   obtain ⟨k1,k2,k3⟩:=h1 m x hx
   have ho:=hs.bS m
   rw[k1] at ho
   have hl2:dS w' D' E2 w' D2 E2:=⟨up2,fun _ _ _ _ h=>h,fun _ _ _ h=>h,fun _ aE l h=>⟨aE,l,h,Nat.le_refl _,fun _=>rfl⟩,fun _ _ h=>h,fun _ _ h=>h,fun _ _ _ _ h=>h⟩
   have nD:∀ e b,E' m=some e→e.aE=some b→∀ o,D2 b o→D' b o:=fun e b he hb o hd=>down b o hd ⟨m,e,(e2 m hm).trans he,hb⟩
   cases x with
   |bT T sz es =>
    obtain ⟨aE,q1,q2,q3⟩:=ho
    refine ⟨aE,(e2 m hm).trans q1,q2,?_⟩
    cases aE with
    |none=>exact q3
    |some bc =>
     obtain ⟨b,cap⟩:=bc
     obtain ⟨cs,pre,rest,g1,g2,g3,g4,g5,g6,g7,g8⟩:=q3
     exact ⟨cs,pre,rest,by rw[←hM];exact g1,g2,g3,aG.bL hl2 _ _ (aG.dy e2 _ _ (by simpa[ai.only] using k2) g4),g5,g6,g7,fun o hd=>g8 o (nD _ b q1 rfl o hd)⟩
   |box y =>
    obtain ⟨b',cs,T,q1,q2,q3,q4,q5⟩:=ho
    exact ⟨b',cs,T,(e2 m hm).trans q1,by rw[←hM];exact q2,q3,ah.bL hl2 _ _ (ah.dy e2 _ _ (by simpa[ai.only] using k2) q4),fun o hd=>q5 o (nD _ b' q1 rfl o hd)⟩
   |dO o =>
    obtain ⟨b',q1,q2,q3,q4,q5⟩:=ho
    exact ⟨b',(e2 m hm).trans q1,by rw[←hM];exact q2,q3,q4,fun o hd=>q5 o (nD _ b' q1 rfl o hd)⟩
   |cz ks vs =>
    obtain ⟨b',es,ck,q1,q2,q3,q4,q5,q6,q7⟩:=ho
    simp only[ai.only,Bool.and_eq_true] at k2
    exact ⟨b',es,ck,(e2 m hm).trans q1,by rw[←hM];exact q2,q3,q4,aF.bL hl2 _ _ (aF.dy e2 _ _ k2.1 q5),aF.bL hl2 _ _ (aF.dy e2 _ _ k2.2 q6),fun o hd=>q7 o (nD _ b' q1 rfl o hd)⟩
   |it ks vs left cur=>cases k3
   |cV T xs =>
    obtain ⟨aE,q1,q2,q3⟩:=ho
    refine ⟨aE,(e2 m hm).trans q1,q2,?_⟩
    cases aE with
    |none=>exact q3
    |some bc =>
     obtain ⟨b,cap⟩:=bc
     obtain ⟨cs,r,g1,g2,g3,g4,g5,g6,g7⟩:=q3
     exact ⟨cs,r,by rw[←hM];exact g1,g2,g3,g4,g5,g6,fun o hd=>g7 o (nD _ b q1 rfl o hd)⟩
 ·exact hs.cU m m' e e' b (cut m e g1).2 (cut m' e' g2).2 g3 g4
 ·rw[←hM]
  have:=hs.dZ
  rw[hc] at this ⊢
  exact this
 ·rw[hD2] at hd
  have hnm:¬ c.fm b:=by
    rw[hM];rintro (h | h);· omega
    ·exact hno h
  rcases hd.2 with h | h
  ·have:=hs.c6 b o h hnm
   rw[hc] at this;exact this
  ·exact absurd h.2 hnm
 ·rw[e2 m hin]
  have ho:A.o m≠none:=by
   cases hx:al os m with
   |none=>simp[au,hx] at hin
   |some x=>rw[(h1 m x hx).1];simp
  rcases hs.eb m e (by rw[hc];exact hm) with h | h
  ·have hob:=hs.bS m
   cases hx:A.o m with
   |none=>exact absurd hx ho
   |some x=>rw[hx] at hob;exact absurd h (ud hob)
  ·exact h
theorem aT.ah9{P:Program}{n:Nat}{w:World}{D:aN}{E:aZ}{Y:Value→List I→List (Nat×ai)→cR→Prop}{rs:List bg}{post:cR}{fn:Func}{A:af}{a:Act}{w':World}{D':aN}{E':aZ}
  (hs:aT ⟨P,w,D,n,dw E,E,Y,none⟩ A a w' D' E') (hrs:iX P fn.results.toList=some rs) (h:lz rs post A):∃ v,(results fn a.tmps).run P w'=.ok v w'∧vj w D E post v w':=by
 obtain ⟨os,xs,h1,h2,h3⟩:=h
 obtain ⟨D2,E2,hw,e2,e2n,q1,q2,q3,q4,q5,q6⟩:=hs.KG h1
 have hu:ez (A.ln os) A:=fun n x hx=>by
  simp only[af.ln] at hx
  split at hx
  ·cases hx
  ·exact hx
 obtain ⟨vs,k1,k2⟩:=zj hs hu (os:=os) (E':=E2) hw e2 e2n fn.results.toList rs xs hrs h2
 have hres:(results fn a.tmps).run P w'=.ok (if h:vs.toArray.size=1 then vs.toArray[0] else .tuple vs.toArray) w':=by
  rw[akZ,Sem.run_bind,Array.mapM_eq_mapM_toList,Sem.run_map,k1]
  rfl
 refine ⟨_,hres,D2,E2,lf xs,os,h3,?_,q1,q2,q3,q4,q5,q6⟩
 match xs,vs,k2 with
 | [x],vs,k2 =>
  simp only[aF] at k2
  obtain ⟨v,rest,cs,rfl,q1,q2,rfl⟩:=k2
  simpa[lf] using mO q1 q2
 | [],vs,k2 =>
  simp only[aF] at k2
  subst k2
  simp[lf,aW,aF]
 |x::y::xs,vs,k2 =>
  have hl:vs.length≠1:=by
   simp only[aF] at k2
   obtain ⟨v,rest,cs,rfl,_,_,v2,rest2,cs2,rfl,_⟩:=k2
   simp
  simp only[lf,aW]
  exact ⟨vs,by simp[hl],k2⟩
theorem KH{P:Program}{n:Nat}{w:World}{D:aN}{E:aZ}{Y:Value→List I→List (Nat×ai)→cR→Prop}{rs:List bg}{post:cR}{fn:Func}{A:af}{D':aN}{E':aZ}(hrs:iX P fn.results.toList=some rs)(h:lz rs post A) :
  ∀ (ds:List Deferred) (a:Act) (w':World),a.defers=ds→aT ⟨P,w,D,n,dw E,E,Y,none⟩ A a w' D' E'→LeavesInM Fence.wide 9 P fn a.tmps (fun e w'=>∃ v,e=.returned v∧vj w D E post v w') ds .returning w'
 | [],a,w',_,hs=>by
  obtain ⟨v,h1,h2⟩:=hs.ah9 hrs h
  exact ⟨v,h1,v,rfl,h2⟩
 |d::ds,a,w',hd,hs=>by
  obtain ⟨Bs,h1,_⟩:=hs.eV
  rw[hd] at h1
  cases Bs with
  |nil=>cases h1
  |cons B Bs =>
   simp only[List.map_cons,List.cons.injEq] at h1
   obtain ⟨rfl,rfl⟩:=h1
   obtain ⟨k1,k2⟩:=hs.VE hd
   exact ⟨by simp,.inl ⟨B,_,rfl,run_takeDeferred k1,KH hrs h _ { a with defers:=Bs.map _ } _ rfl k2⟩⟩
theorem zw{w:World}{D:aN}{E:aZ} : ∀ {args:List I} {vs:List Value},aF w D E args vs→vs.length=args.length
 | [],vs,h=>by simp only[aF] at h;subst h;rfl
 |x::xs,vs,h=>by
  simp only[aF] at h
  obtain ⟨v,rest,cs,rfl,_,_,h3⟩:=h
  simp[zw h3]
def kK(P:Program)(f:FuncId)(Y:Value→List I→List (Nat×ai)→cR→Prop)(args:List I)(os:List (Nat×ai))(post:cR):Prop :=
 hT P f=true∧∀ (w:World) (D:aN) (E:aZ) (vs:List Value),(∀ n,pn ⟨P,w,D,n,dw E,E,Y,none⟩)→(∀ b o,D b o→b<w.heap.size)→ly (fun _=>True) w D E (al os)→aF w D E args vs →
  Calls P f vs.toArray w fun e w'=>∃ v,e=.returned v∧vj w D E post v w'
theorem kK.ue{P:Program}{f:FuncId}{fn:Func}{body:Code}{x:aM}{rs:List bg}{Y:Value→List I→List (Nat×ai)→cR→Prop}{args:List I}{os:List (Nat×ai)}{post:cR}(hf:P.funcs[f]?=some fn)(hb:fn.body=some body)(hcall:hT P f=true)(hc:fq P fn.ntmps body=some x)
  (hrs:iX P fn.results.toList=some rs) (hn:args.length≤fn.ntmps) (hos:∀ m,au os m=true→fn.ntmps≤m∧1000000≤m) (h:∀ (w:World) (D:aN) (E:aZ),ab ⟨P,w,D,fn.ntmps,dw E,E,Y,none⟩ x (nW rs post) (qx args os)):kK P f Y args os post:=by
 refine ⟨hcall,fun w D E vs hy hD ho hv =>?_⟩
 have hlen:=zw hv
 have hsim:=alL (P:=P) (n:=fn.ntmps) (Y:=Y) hD ho hv (by omega) hos (hy fn.ntmps)
 refine (callsIn_wide (n:=9)).1 (callsIn_of_wp_marks hf hb trivial ?_)
 refine wpIn_mono (h w D E body hc _ w ⟨D,E,hsim⟩) ?_
 rintro e a w' ⟨A,hq,D',E',hs⟩
 cases e <;>simp only[nW] at hq <;>first
  |exact KH hrs hq a.defers a w' rfl hs
  |cases hq
theorem ame{P:Program}{w:World}{D:aN}{E:aZ}{n:Nat} : pn ⟨P,w,D,n,dw E,E,iN,none⟩:=fun _ _ _ _ h=>h.elim
theorem cF.Lg{P:Program}{f:FuncId}{args:List I}{os:List (Nat×ai)}{post:cR}(h:kK P f iN args os post):cF P f args os post :=
 ⟨h.1,fun w D E vs _ hD ho hv=>(h.2 w D E vs (fun _=>ame) hD ho hv).mono fun e w' ⟨v,he,D',E',r,os',k⟩=>⟨v,D',E',r,os',he,k⟩⟩
theorem aA.ajJ{P:Program}{f:FuncId}{args:List I}{r:I}(h:cF P f args [] (fun r' os'=>r'=r∧os'=[])):aA P f args r:=by
 refine ⟨h.1,fun w D vs hD hv =>?_⟩
 have hh:ly (fun _=>True) w D dK (al []):=⟨fun n=>rfl,fun n m e e' b h=>by simp[dK] at h⟩
 refine (h.2 w D dK vs trivial hD hh hv).mono fun e w' hq =>?_
 obtain ⟨v,D',E',r',os',he,⟨h1,h2⟩,k1,k2,k3,k4,k5,k6,_⟩:=hq
 subst h1 h2
 refine ⟨v,D',he,?_,?_,k5,fun b o hd hlt=>k6 b o hd hlt fun ⟨n,e,h,_⟩=>by simp[dK] at h⟩
 ·have:E'=dK:=by funext n;exact k2.bS n
  rw[←this];exact k1
 ·exact k3.Rl fun k hk hm=>by
   rcases hm with hm | ⟨n,e,h,_⟩
   ·omega
   ·simp[dK] at h
theorem ald(A:af):A.ln []=A:=rfl
theorem Oa{A:af} : ∀ {rs:List bg} {xs:List I},fg A rs=some xs→mX A (A.ln []) [] rs xs
 | [],xs,h=>by simp only[fg,Option.some.injEq] at h;subst h;trivial
 |r::rs,xs,h=>by
  simp only[fg] at h
  split at h
  ·rename_i x xs' h1 h2
   simp only[Option.some.injEq] at h
   subst h
   refine ⟨?_,Oa h2⟩
   rw[ald]
   cases r with
   |tmp t=>exact ⟨_,rfl,.inr h1⟩
   |cell a s =>
    simp only[uG,uy] at h1 ⊢
    split at h1
    ·rename_i y hy
     split at h1
     ·rename_i hok
      exact ⟨y,by simp[hok],.inr h1⟩
     ·cases h1
    ·cases h1
  ·cases h
theorem ak0{rs:List bg}{r:I}{e:Exit}{A:af}(h:jH rs r e A):nW rs (fun r' os'=>r'=r∧os'=[]) e A:=by
 cases e <;>simp only[jH] at h <;>first
  |exact h.elim
  |(obtain ⟨xs,h1,h2⟩:=h
    exact ⟨[],xs,fun n x hx=>by simp[al] at hx,Oa h1,h2,rfl⟩)
theorem aA.ue{P:Program}{f:FuncId}{fn:Func}{body:Code}{x:aM}{rs:List bg}{args:List I}{r:I}(hf:P.funcs[f]?=some fn)(hb:fn.body=some body)(hcall:hT P f=true)(hc:fq P fn.ntmps body=some x)
  (hrs:iX P fn.results.toList=some rs) (hn:args.length≤fn.ntmps) (h:∀ (w:World) (D:aN) (E:aZ),ab ⟨P,w,D,fn.ntmps,dw E,E,iN,none⟩ x (jH rs r) (pb args)):aA P f args r:=by
 refine aA.ajJ (cF.Lg (kK.ue hf hb hcall hc hrs hn (fun m hm=>by simp[au,al] at hm) fun w D E =>?_))
 exact (h w D E).mono fun e B hq=>ak0 hq
end Go.Abs
namespace Go.Abs
open Go Go.RowKit
def aV(ts:List (Nat×I)):List (Nat×I)→Prop
 | []=>True
 |(k,v)::r=>cn ts k=v∧aV ts r
def bF(os:List (Nat×ai)):List (Nat×ai)→Prop
 | []=>True
 |(k,v)::r=>al os k=some v∧bF os r
def bE(p:Nat→Bool):List (Nat×I)→Prop
 | []=>True
 |(_,v)::r=>v.only p=true∧bE p r
theorem zG{ts:List (Nat×I)} : ∀ {ts':List (Nat×I)},aV ts ts'→∀ k,cn ts' k=.df∨cn ts' k=cn ts k
 | [],_,k=>.inl rfl
 |(j,v)::r,h,k=>by
  simp only[aV] at h
  simp only[cn]
  split
  ·rename_i hk;subst hk;exact .inr h.1.symm
  ·exact zG h.2 k
theorem OU{os:List (Nat×ai)} : ∀ {os':List (Nat×ai)},bF os os'→∀ k,al os' k=none∨al os' k=al os k
 | [],_,k=>.inl rfl
 |(j,v)::r,h,k=>by
  simp only[bF] at h
  simp only[al]
  split
  ·rename_i hk;subst hk;exact .inr h.1.symm
  ·exact OU h.2 k
theorem LG{p:Nat→Bool} : ∀ {ts:List (Nat×I)},bE p ts→∀ k,(cn ts k).only p=true
 | [],_,k=>by simp[cn,I.only]
 |(j,v)::r,h,k=>by
  simp only[bE] at h
  simp only[cn]
  split
  ·exact h.1
  ·exact LG h.2 k
theorem LF{p:Nat→Bool} : ∀ {os:List (Nat×ai)},a7 p os→∀ k x,al os k=some x→x.only p=true
 | [],_,k,x,hx=>by simp[al] at hx
 |(j,v)::r,h,k,x,hx=>by
  simp only[a7] at h
  simp only[al] at hx
  split at hx
  ·simp only[Option.some.injEq] at hx;subst hx;exact h.1
  ·exact LF h.2 k x hx
theorem aD.bM{ts ts':List (Nat×I)}{os os':List (Nat×ai)}(h1:aV ts ts')(h2:bF os os')(h3:bE (au os') ts')(h4:a7 (au os') os'):aD (av ts os) (av ts' os'):=by
 rintro c a w ⟨D,E,hs⟩
 have hp:∀ n,au os' n=true→(if au os' n then E n else none)=E n:=fun n hn=>by simp[hn]
 refine ⟨D,fun n=>if au os' n then E n else none,hs.sz,hs.eV,fun t =>?_,hs.dZ,hs.c6,hs.dg,fun n =>?_,fun n m e e' b h1 h2 h3 h4 =>?_,fun n e hn =>?_,hs.ff,hs.cL,hs.fk,hs.fL⟩
 ·have:=zG h1 t
  rcases this with h | h
  ·simp only[av];rw[h];simp[aW]
  ·refine aW.dy (p:=au os') hp (LG h3 t) ?_
   have:=hs.ew t
   simp only[av] at *
   rw[h];exact this
 ·have ho:=hs.bS n
  simp only[av] at *
  rcases OU h2 n with h | h
  ·rw[h];simp[c9,au,h]
  ·rw[h]
   by_cases hin:al os n=none
   ·rw[hin];simp[c9,au,h,hin]
   ·have aw:(if au os' n then E n else none)=E n:=hp n (by simp[au,h];cases hh:al os n <;>simp_all)
    cases hx:al os n with
    |none=>exact absurd hx hin
    |some x =>
     have hon:=LF h4 n x (h.trans hx)
     rw[hx] at ho
     cases x with
     |box x =>
      obtain ⟨b,cs,T,k1,k2,k3,k4,k5⟩:=ho
      exact ⟨b,cs,T,aw.trans k1,k2,k3,ah.dy hp _ _ (by simpa[ai.only] using hon) k4,k5⟩
     |bT T sz es =>
      obtain ⟨aE,k1,k2,k3⟩:=ho
      refine ⟨aE,aw.trans k1,k2,?_⟩
      cases aE with
      |none=>exact k3
      |some bc =>
       obtain ⟨b,cap⟩:=bc
       obtain ⟨cs,pre,rest,q1,q2,q3,q4,q5⟩:=k3
       exact ⟨cs,pre,rest,q1,q2,q3,aG.dy hp _ _ (by simpa[ai.only] using hon) q4,q5⟩
     |cV T xs =>
      obtain ⟨aE,k1,k2,k3⟩:=ho
      exact ⟨aE,aw.trans k1,k2,k3⟩
     |dO x =>
      obtain ⟨b,k1,k2⟩:=ho
      exact ⟨b,aw.trans k1,k2⟩
     |cz ks vs =>
      obtain ⟨b,es,ck,k1,k2,k3,k4,k5,k6,k7⟩:=ho
      simp only[ai.only,Bool.and_eq_true] at hon
      exact ⟨b,es,ck,aw.trans k1,k2,k3,k4,aF.dy hp _ _ hon.1 k5,aF.dy hp _ _ hon.2 k6,k7⟩
     |it ks vs left cur =>
      obtain ⟨r,b,es,ck,si,se,la,k1,k2,k3,k4,k5,k6,k7⟩:=ho
      simp only[ai.only,Bool.and_eq_true] at hon
      exact ⟨r,b,es,ck,si,se,la,aw.trans k1,k2,k3,k4,aF.dy hp _ _ hon.1 k5,aF.dy hp _ _ hon.2 k6,k7⟩
 ·refine hs.cU n m e e' b ?_ ?_ h3 h4
  ·split at h1
   ·exact h1
   ·cases h1
  ·split at h2
   ·exact h2
   ·cases h2
 ·by_cases hi:au os' n=true
  ·simp only[hi,if_true];exact hs.eb n e hn
  ·simp only[hi];exact .inl rfl
def bp:Nat→List I→List (Nat×I)
 |_,[]=>[]
 |k,a::as=>(k,a)::bp (k+1) as
theorem KQ:∀ (as:List I) (k t:Nat),cn (bp k as) t=if t<k then .df else (as[t-k]?).getD .df
 | [],k,t=>by simp[bp,cn]
 |a::as,k,t=>by
  simp only[bp,cn,KQ as (k+1) t]
  by_cases h:t=k
  ·subst h;simp
  ·rw[if_neg h]
   by_cases h2:t<k
   ·rw[if_pos (by omega),if_pos h2]
   ·rw[if_neg (by omega),if_neg h2,show t-k=(t-(k+1))+1 from by omega]
    simp
theorem OT(args:List I)(os:List (Nat×ai)):aD (qx args os) (av (bp 0 args) os):=by
 rintro c a w ⟨D,E,hs⟩
 refine ⟨D,E,hs.sz,hs.eV,fun t =>?_,hs.dZ,hs.c6,hs.dg,hs.bS,hs.cU,hs.eb,hs.ff,hs.cL,hs.fk,hs.fL⟩
 have:=hs.ew t
 simp only[av,KQ,qx,Nat.not_lt_zero,if_false,Nat.sub_zero] at *
 cases h:args[t]? with
 |none=>simp[aW]
 |some x=>simpa[List.getD_eq_getElem?_getD,h] using this
theorem alK(args:List I):aD (pb args) (av (bp 0 args) []):=OT args []
theorem tQ(ts:List (Nat×I))(os:List (Nat×ai))(d:Nat)(v:I):(av ts os).put d v=av ((d,v)::ts) os:=rfl
theorem aiE(ts:List (Nat×I))(os:List (Nat×ai))(d:Nat)(v:I):(av ts os).aJ (some d) v=av ((d,v)::ts) os:=rfl
theorem aiD(A:af)(v:I):A.aJ none v=A:=rfl
theorem oK(ts:List (Nat×I))(os:List (Nat×ai))(d:Nat)(x:ai):(av ts os).aK d x=av ts ((d,x)::os):=rfl
theorem aiF(ts:List (Nat×I))(os:List (Nat×ai))(k:Nat):(av ts os).t k=cn ts k:=rfl
theorem aiC(ts:List (Nat×I))(os:List (Nat×ai))(k:Nat):(av ts os).o k=al os k:=rfl
theorem aY(j:Nat)(v:I)(r:List (Nat×I))(k:Nat):cn ((j,v)::r) k=if k=j then v else cn r k:=rfl
theorem ct(j:Nat)(v:ai)(r:List (Nat×ai))(k:Nat):al ((j,v)::r) k=if k=j then some v else al r k:=rfl
theorem rC(k:Nat):al [] k=none:=rfl
theorem Zj(A:af)(k:Nat):ae A (.t k)=A.t k:=rfl
theorem Zi(A:af)(x:I):ae A (.c x)=x:=rfl
noncomputable def db(d:Option Nat)(rest:List aB)(A:af)(v:I):cI:=az rest (A.aJ d v)
theorem ahV(d:Option Nat)(rest:List aB)(A:af)(v:I):db d rest A v=az rest (A.aJ d v):=rfl
theorem RF(v:I)(k:I→cI):cN (some v) k=k v:=rfl
theorem QX(A:af):az [] A=.done A:=rfl
noncomputable def bO(A:af)(d:Option Nat)(op:b8)(rest:List aB):cI:=bj A d op rest (az rest)
noncomputable def hZ(x:I)(b:Bool)(d:Option Nat)(op:b8)(rest:List aB)(A:af):cI :=
 match x with
 | .bool b'=>if b'=b then bO A d op rest else az rest (A.aJ d .undef)
 | .undef=>az rest (A.aJ d .undef)
 |_=>.fail
theorem a8.guard{P:Program}{Y:Value→List I→List (Nat×ai)→cR→Prop}{dr:Bool}{K:af→Prop}{x b:Bool}{d:Option Nat}{op:b8}{rest:List aB}{A:af}(h1:x=b→a8 P Y dr K (bO A d op rest))(h2:x = !b→a8 P Y dr K (az rest (A.aJ d .undef))):a8 P Y dr K (hZ (.bool x) b d op rest A):=by
 unfold hZ
 by_cases h:x=b
 ·simp only[if_pos h];exact h1 h
 ·simp only[if_neg h];exact h2 (by cases x <;>cases b <;>simp_all)
def I.du:I→Option (List I)
 | .agg fs=>some fs
 |_=>none
def px(p:List Nat):Option I→Option I
 |some f=>f.at p
 |none=>none
def fB(i:Nat)(p:List Nat):Option (List I)→Option I
 |some fs=>px p fs[i]?
 |none=>none
theorem iv(c:I):c.at []=some c:=by cases c <;>rfl
theorem Ri(c:I)(i:Nat)(p:List Nat):c.at (i::p)=fB i p c.du:=by
 cases c <;>first | rfl | (rename_i fs;simp only[I.at,fB,I.du,px])
def uN(fs:List I)(i:Nat)(p:List Nat)(v:I):Option I→I
 |some f=>.agg (fs.set i (f.dz p v))
 |none=>.agg fs
def rY(c:I)(i:Nat)(p:List Nat)(v:I):Option (List I)→I
 |some fs=>uN fs i p v fs[i]?
 |none=>c
theorem gi(c v:I):c.dz [] v=v:=by cases c <;>rfl
theorem Ow(c:I)(i:Nat)(p:List Nat)(v:I):c.dz (i::p) v=rY c i p v c.du:=by
 cases c <;>first | rfl | (rename_i fs;simp only[I.dz,rY,I.du];cases fs[i]? <;>rfl)
def eW(p:List Nat):Option ai→Option I
 |some (.box c)=>c.at p
 |_=>none
def gL(A:af):I→Option I
 | .ref x=>some x
 | .ptr n p=>eW p (A.o n)
 |_=>none
theorem lK(A:af)(x:I):cC A x=gL A x:=by
 cases x <;>first | rfl | (rename_i n p;simp only[cC,gL];cases A.o n with | none=>rfl | some y=>cases y <;>rfl)
def dc(s:Option Nat)(x:I):Option I:=if bY s x=true then some x else none
def gT(s:Option Nat):Option I→Option I
 |some x=>dc s x
 |none=>none
open Classical in
noncomputable def ec(fs:List I)(f off:Nat)(y:I):Option I:=if f<fs.length∧I.sizes (fs.take f)=off then some y else none
noncomputable def qW(n:Nat)(p:List Nat)(f off:Nat):Option (List I)→Option I
 |some fs=>ec fs f off (.ptr n (p++[f]))
 |none=>none
noncomputable def pL(fs:List I)(f off:Nat):Option I→Option I
 |some v=>ec fs f off (.ref v)
 |none=>none
noncomputable def qX(f off:Nat):Option (List I)→Option I
 |some fs=>pL fs f off fs[f]?
 |none=>none
def fw:Option I→Option (List I)
 |some x=>x.du
 |none=>none
noncomputable def lP(A:af)(f off:Nat):I→Option I
 | .ref c=>qX f off c.du
 | .ptr n p=>qW n p f off (fw (eW p (A.o n)))
 |_=>none
theorem aky(A:af)(f off:Nat)(x:aH):bx A (.fa f off x)=lP A f off (ae A x):=by
 simp only[bx]
 generalize ae A x=y
 cases y with
 |ref c =>
  cases c <;>simp only[lP,I.du,qX]
  rename_i fs
  cases h:fs[f]? with
  |none=>simp[pL]
  |some v =>
   have hl:f<fs.length:=(List.getElem?_eq_some_iff.1 h).1
   simp only[pL,ec,hl,true_and]

 |ptr n p =>
  simp only[lP,lK,gL]
  cases eW p (A.o n) with
  |none=>simp[fw,qW]
  |some c =>
   cases c <;>simp only[fw,I.du,qW]
   simp only[ec]

 |_=>simp only[lP]
noncomputable def s7(f off:Nat)(s:Option Nat):Option (List I)→Option I
 |some fs=>match fs[f]? with
  |some v=>(ec fs f off v).bind (dc s)
  |none=>none
 |none=>none
theorem akz(A:af)(f off:Nat)(s:Option Nat)(x:aH):bx A (.fl f off s x)=s7 f off s (ae A x).du:=by
 simp only[bx]
 generalize ae A x=y
 cases y <;>simp only[s7,I.du]
 rename_i fs
 cases h:fs[f]? with
 |none=>rfl
 |some v =>
  have hl:f<fs.length:=(List.getElem?_eq_some_iff.1 h).1
  simp only[ec,hl,true_and]
  by_cases h1:I.sizes (fs.take f)=off <;>by_cases h2:bY s v=true <;>simp[h1,h2,dc]
open Classical in
noncomputable def eh(k:Int)(n:Nat)(y:Option I):Option I:=if 0≤k∧k<n then y else none
noncomputable def eg(n esz:Nat)(fs:List I)(y:Option I):Option I:=if ga n esz fs=true then y else none
noncomputable def rn(n esz:Nat)(k:Int):Option (List I)→Option I
 |some fs=>eg n esz fs ((fs[k.toNat]?).map .ref)
 |none=>none
noncomputable def rm(n esz m:Nat)(p:List Nat)(k:Int):Option (List I)→Option I
 |some fs=>eg n esz fs (some (.ptr m (p++[k.toNat])))
 |none=>none
noncomputable def oD(A:af)(n esz:Nat)(k:Int):I→Option I
 | .ref c=>eh k n (rn n esz k c.du)
 | .ptr m p=>eh k n (rm n esz m p k (fw (eW p (A.o m))))
 |_=>none
noncomputable def rl(A:af)(n esz:Nat)(x:I):I→Option I
 | .int _ k=>oD A n esz k x
 |_=>none
theorem akA(A:af)(n esz:Nat)(x i:aH):bx A (.ia n esz x i)=rl A n esz (ae A x) (ae A i):=by
 simp only[bx]
 generalize ae A x=y
 generalize ae A i=z
 cases z <;>simp only[rl]
 rename_i kk k
 cases y with
 |ref c =>
  simp only[oD,eh]
  split
  ·cases c <;>simp only[I.du,rn,eg]
  ·rfl
 |ptr m p =>
  simp only[oD,eh,lK,gL]
  split
  ·cases eW p (A.o m) with
   |none=>simp[fw,rm]
   |some c=>cases c <;>simp only[fw,I.du,rm,eg]
  ·rfl
 |_=>simp only[oD];split <;>rfl
open Classical in
noncomputable def lW(m:Nat)(p:List Nat)(sz lo l esz:Nat)(k:Int):Option (List I)→Option I
 |some _=>if sz=esz∧0≤k∧k<l then some (.ptr m (p++[lo+k.toNat])) else none
 |none=>none
open Classical in
noncomputable def iM(A:af)(esz:Nat)(k:Int):I→Option I
 | .slice sz es=>if sz=esz∧0≤k∧k<es.length then (es[k.toNat]?).map .ref else none
 | .own m l=>match A.o m with
  |some (.bT _ sz es)=>if l=es.length∧sz=esz∧0≤k∧k<es.length then (es[k.toNat]?).map .ref else none
  |_=>none
 | .view m p sz lo l=>lW m p sz lo l esz k (fw (eW p (A.o m)))
 |_=>none
noncomputable def lU(A:af)(esz:Nat)(x:I):I→Option I
 | .int _ k=>iM A esz k x
 |_=>none
theorem akB(A:af)(esz:Nat)(x i:aH):bx A (.is esz x i)=lU A esz (ae A x) (ae A i):=by
 simp only[bx]
 generalize ae A x=y
 generalize ae A i=z
 cases z <;>simp only[lU]
 cases y <;>simp only[iM]
 ·split <;>simp_all
 ·rename_i m p sz lo l
  simp only[lK,gL]
  cases eW p (A.o m) with
  |none=>rfl
  |some c=>cases c <;>simp only[fw,I.du,lW]
noncomputable def ru(n esz:Nat)(s:Option Nat)(k:Int):Option (List I)→Option I
 |some fs=>eh k n (eg n esz fs (gT s fs[k.toNat]?))
 |none=>none
noncomputable def rv(n esz:Nat)(s:Option Nat)(x:I):I→Option I
 | .int _ k=>ru n esz s k x.du
 |_=>none
theorem akC(A:af)(n esz:Nat)(s:Option Nat)(x i:aH):bx A (.ix n esz s x i)=rv n esz s (ae A x) (ae A i):=by
 simp only[bx]
 generalize ae A x=y
 generalize ae A i=z
 cases z <;>simp only[rv]
 rename_i kk k
 cases y <;>simp only[I.du,ru]
 case agg fs =>
  simp only[eh,eg]
  split
  ·split
   ·cases fs[k.toNat]? <;>rfl
   ·rfl
  ·rfl
 all_goals (split <;>rfl)
def je(A:af):I→Option I
 | .slice _ es=>some (.int .i64 es.length)
 | .nils _=>some (.int .i64 0)
 | .c0 _=>some (.int .i64 0)
 | .own m l=>match A.o m with | some (.bT _ _ es)=>if l=es.length then some (.int .i64 es.length) else none | _=>none
 | .view _ _ _ _ k=>some (.int .i64 k)
 |_=>none
theorem akE(A:af)(x:aH):bx A (.len x)=je A (ae A x):=by
 simp only[bx]
 generalize ae A x=y
 cases y <;>rfl
open Classical in
noncomputable def pf(n esz:Nat)(fs:List I)(y:I):Option I:=if ga n esz fs=true∧n≤maxLen∧n≠0 then some y else none
noncomputable def r9(n esz m:Nat)(p:List Nat):Option (List I)→Option I
 |some fs=>pf n esz fs (.view m p esz 0 n)
 |none=>none
noncomputable def O8(n esz:Nat):Option (List I)→Option I
 |some fs=>pf n esz fs (.slice esz fs)
 |none=>none
noncomputable def pd(A:af)(n esz:Nat):I→Option I
 | .ptr m p=>r9 n esz m p (fw (eW p (A.o m)))
 | .ref c=>O8 n esz c.du
 |_=>none
theorem akG(A:af)(n esz:Nat)(x:aH):bx A (.va n esz x)=pd A n esz (ae A x):=by
 simp only[bx]
 generalize ae A x=y
 cases y with
 |ptr m p =>
  simp only[pd,lK,gL]
  cases eW p (A.o m) with
  |none=>simp[fw,r9]
  |some c=>cases c <;>simp only[fw,I.du,r9,pf] <;>(split <;>simp_all)
 |ref c=>cases c <;>simp only[pd,I.du,O8,pf] <;>(split <;>simp_all)
 |_=>simp only[pd]
theorem akD(A:af)(s:Option Nat)(x:aH):bx A (.ld s x)=gT s (gL A (ae A x)):=by
 simp only[bx,lK]
 cases gL A (ae A x) <;>simp only[gT,dc]
noncomputable def rL(A:af)(d:Option Nat)(a b:aH)(rest:List aB):I→cI
 | .bool t=>az rest (A.aJ d (if t then ae A a else ae A b))
 |_=>.fail
noncomputable def r8(op:UnOp)(x:I):Option I:=match op,x with
  | .not,.bool b=>some (.bool !b)
  | .neg,.int k n=>some (.int k (k.wrap (0-n)))
  | .xor,.int k n=>some (.int k (pF k n))
  |_,_=>none
def wh(i:Nat):I→Option I
 | .tuple fs=>fs[i]?
 |_=>none
def vS(k:IntKind):I→Option I
 | .int _ n=>some (.int k (k.wrap n))
 |_=>none
noncomputable def vl(A:af)(d:Nat)(z:I)(rest:List aB):Option ai→cI
 |none=>az rest ((A.aK d (.box z)).put d (.ptr d []))
 |some _=>.fail
noncomputable def sI(A:af)(d:Nat)(z:I)(rest:List aB)(v:Bool):cI:=if v=true then az rest ((A.aK d (.box z)).put d (.ptr d [])) else .fail
noncomputable def sH(A:af)(d:Nat)(z:I)(rest:List aB):Option ai→cI
 |none=>sI A d z rest z.cj
 |some _=>.fail
open Classical in
noncomputable def dQ(A:af)(s:Option Nat)(n:Nat)(p:List Nat)(b v:I)(rest:List aB):Option I→cI
 |some old=>if yM s v old then az rest (A.aK n (.box (b.dz p v))) else .fail
 |none=>.fail
noncomputable def uT(A:af)(s:Option Nat)(n:Nat)(p:List Nat)(v:I)(rest:List aB):Option ai→cI
 |some (.box b)=>dQ A s n p b v rest (b.at p)
 |_=>.fail
noncomputable def uS(A:af)(s:Option Nat)(v:I)(rest:List aB):I→cI
 | .ptr n p=>uT A s n p v rest (A.o n)
 |_=>.fail
noncomputable def sM(A:af)(d:Option Nat)(args:List I)(rest:List aB):I→cI
 | .func f caps=>.call f (args++caps) (b7 true A (args++caps)) (b7 false A (args++caps)) d rest A
 | .raw v=>.pD v args d rest A
 |_=>.fail
section
variable (d:Option Nat) (rest:List aB) (A:af)
theorem QJ(op:b8):az (⟨d,op,none⟩::rest) A=bO A d op rest:=rfl
theorem QK(op:b8)(t:Nat)(b:Bool):az (⟨d,op,some (t,b)⟩::rest) A=hZ (A.t t) b d op rest A:=rfl
theorem ag2(op:b8):hZ (.bool true) true d op rest A=bO A d op rest:=by simp[hZ]
theorem agZ(op:b8):hZ (.bool false) false d op rest A=bO A d op rest:=by simp[hZ]
theorem ag1(op:b8):hZ (.bool true) false d op rest A=az rest (A.aJ d .undef):=by simp[hZ]
theorem ag0(op:b8):hZ (.bool false) true d op rest A=az rest (A.aJ d .undef):=by simp[hZ]
theorem ag3(op:b8)(b:Bool):hZ .undef b d op rest A=az rest (A.aJ d .undef):=rfl
theorem ajv(x:aH):bO A d (.mv x) rest=az rest (A.aJ d (ae A x)):=rfl
theorem ajz(c a b:aH):bO A d (.pick c a b) rest=rL A d a b rest (ae A c):=by
 simp only[bO,bj,bx]
 cases ae A c <;>simp only[cN,rL]
theorem ai6(op:BinOp)(x y:aH):bO A d (.bin op x y) rest=cN (cJ op (ae A x) (ae A y)) (db d rest A):=rfl
theorem ajg(ty:cM)(neg:Bool)(x y:aH):bO A d (.eqv ty neg x y) rest=cN ((cu ty (ae A x) (ae A y)).map fun b=>.bool (if neg then !b else b)) (db d rest A):=rfl
theorem ajE(op:UnOp)(x:aH):bO A d (.un op x) rest=cN (r8 op (ae A x)) (db d rest A):=rfl
theorem aje(k:IntKind)(x:aH):bO A d (.conv k x) rest=cN (vS k (ae A x)) (db d rest A):=by
 simp only[bO,bj,bx];cases ae A x <;>rfl
theorem ajn(s:Option Nat)(x:aH):bO A d (.ld s x) rest=cN (gT s (gL A (ae A x))) (db d rest A):=by rw[←akD];rfl
theorem aji(f off:Nat)(x:aH):bO A d (.fa f off x) rest=cN (lP A f off (ae A x)) (db d rest A):=by rw[←aky];rfl
theorem ajj(f off:Nat)(s:Option Nat)(x:aH):bO A d (.fl f off s x) rest=cN (s7 f off s (ae A x).du) (db d rest A):=by rw[←akz];rfl
theorem ajk(n esz:Nat)(x i:aH):bO A d (.ia n esz x i) rest=cN (rl A n esz (ae A x) (ae A i)) (db d rest A):=by rw[←akA];rfl
theorem ajl(esz:Nat)(x i:aH):bO A d (.is esz x i) rest=cN (lU A esz (ae A x) (ae A i)) (db d rest A):=by rw[←akB];rfl
theorem ajm(n esz:Nat)(s:Option Nat)(x i:aH):bO A d (.ix n esz s x i) rest=cN (rv n esz s (ae A x) (ae A i)) (db d rest A):=by rw[←akC];rfl
theorem ajo(x:aH):bO A d (.len x) rest=cN (je A (ae A x)) (db d rest A):=by rw[←akE];rfl
theorem ajF(n esz:Nat)(x:aH):bO A d (.va n esz x) rest=cN (pd A n esz (ae A x)) (db d rest A):=by rw[←akG];rfl
theorem ai7(zs:List I)(ps:List (Nat×aH)):bO A d (.bld zs ps) rest=cN ((dY zs (ps.map fun p=>(p.1,ae A p.2))).map .agg) (db d rest A):=rfl
theorem ajh(x:aH)(i:Nat):bO A d (.ext x i) rest=cN (wh i (ae A x)) (db d rest A):=by
 simp only[bO,bj,bx];cases ae A x <;>rfl
theorem ajr(f:FuncId)(caps:List aH):bO A d (.mk f caps) rest=cN (if ((caps.map (ae A)).all fun y=>y.cj)=true then some (.func f (caps.map (ae A))) else none) (db d rest A):=rfl
theorem ai3(d:Nat)(z:I):bO A (some d) (.alloc z) rest=vl A d z rest (A.o d):=by
 simp only[bO,bj];cases A.o d <;>rfl
theorem ai8(d:Nat)(x:aH):bO A (some d) (.box x) rest=sH A d (ae A x) rest (A.o d):=by
 simp only[bO,bj];cases A.o d <;>simp only[sH,sI]
theorem ajD(s:Option Nat)(x v:aH):bO A none (.bu s x v) rest=uS A s (ae A v) rest (ae A x):=by
 simp only[bO,bj]
 cases ae A x <;>simp only[uS]
 rename_i n p
 cases A.o n with
 |none=>rfl
 |some y =>
  cases y <;>simp only[uT]
  rename_i b
  cases b.at p <;>simp only[dQ]
theorem aja(f:FuncId)(args:List aH):bO A d (.call f args) rest=.call f (args.map (ae A)) (b7 true A (args.map (ae A))) (b7 false A (args.map (ae A))) d rest A:=rfl
theorem ajb(x:aH)(args:List aH):bO A d (.eD x args) rest=sM A d (args.map (ae A)) rest (ae A x):=by
 simp only[bO,bj];cases ae A x <;>rfl
end
end Go.Abs
namespace Go.Abs
open Go Go.RowKit
mutual
/-- Closed,and as a result is told: no nil slice but as the empty one. -/
def I.done:I→Bool
 | .agg fs=>I.e9 fs
 | .slice _ es=>I.bX es
 | .ref x=>x.bB
 | .func _ caps=>I.e9 caps
 | .iface _ v=>v.bB
 | .cT ks vs=>I.bX ks&&I.bX vs
 | .bool _ | .int _ _ | .cY _ | .nilp | .dh | .dX | .raw _=>true
 |_=>false
def I.e9:List I→Bool
 | []=>true
 |x::xs=>x.done&&I.e9 xs
end
mutual
theorem vX:∀ x:I,x.done=true→x.bB=true
 | .agg fs,h=>by simp only[I.done,I.bB] at *;exact kQ fs h
 | .slice _ es,h=>by simpa only[I.done,I.bB] using h
 | .ref x,h=>by simpa only[I.done,I.bB] using h
 | .func _ caps,h=>by simp only[I.done,I.bB] at *;exact kQ caps h
 | .iface _ v,h=>by simpa only[I.done,I.bB] using h
 | .bool _,_ | .int _ _,_ | .cY _,_ | .nilp,_ | .dh,_ | .dX,_ | .raw _,_=>by simp[I.bB]
 | .cT _ _,h=>by simpa only[I.done,I.bB] using h
 | .nils _,h | .c0 _,h | .ptr _ _,h | .own _ _,h | .view _ _ _ _ _,h | .mref _,h | .dv _,h | .undef,h | .df,h | .tuple _,h=>by simp[I.done] at h
theorem kQ:∀ xs:List I,I.e9 xs=true→I.bX xs=true
 | [],_=>rfl
 |x::xs,h=>by
  simp only[I.e9,I.bX,Bool.and_eq_true] at *
  exact ⟨vX x h.1,kQ xs h.2⟩
end
mutual
theorem DS(aC:Bool)(A:af):∀ x:I,x.done=true→br aC A x=some x
 | .agg fs,h=>by simp only[I.done,br] at *;rw[kU aC A fs h];rfl
 | .slice _ es,h=>by simp only[I.done] at h;simp[br,h]
 | .ref x,h=>by simp only[I.done] at h;simp[br,h]
 | .func _ caps,h=>by simp only[I.done,br] at *;rw[kU aC A caps h];rfl
 | .iface _ v,h=>by simp only[I.done] at h;simp[br,h]
 | .bool _,_ | .int _ _,_ | .cY _,_ | .nilp,_ | .dh,_ | .dX,_ | .raw _,_=>by simp[br]
 | .cT _ _,h=>by simp only[I.done] at h;simp[br,h]
 | .nils _,h | .c0 _,h | .ptr _ _,h | .own _ _,h | .view _ _ _ _ _,h | .mref _,h | .dv _,h | .undef,h | .df,h | .tuple _,h=>by simp[I.done] at h
theorem kU(aC:Bool)(A:af):∀ xs:List I,I.e9 xs=true→b7 aC A xs=some xs
 | [],_=>by simp[b7]
 |x::xs,h=>by
  simp only[I.e9,Bool.and_eq_true] at h
  simp only[b7,DS aC A x h.1,kU aC A xs h.2]
end
theorem YY{x:I}(h:x.done=true):x.cj=true:=by cases x <;>simp_all[I.done,I.cj]
class Enc (α:Type) where
 enc:α→I
 sz:Nat
 aP:cO
 gn:Bool
 done:∀ x,(enc x).done=true
 size:∀ x,(enc x).size=sz
 kG:∀ x,(enc x).aP=aP
 agg:∀ x,(enc x).isAgg=gn
open Enc (enc)
instance:Enc Int where
 enc n:=.int .i64 n
 sz:=1
 aP:=.one
 gn:=false
 done _:=rfl
 size _:=by simp[I.size]
 kG _:=by simp[I.aP]
 agg _:=rfl
instance:Enc Bool where
 enc b:=.bool b
 sz:=1
 aP:=.one
 gn:=false
 done _:=rfl
 size _:=by simp[I.size]
 kG _:=by simp[I.aP]
 agg _:=rfl
theorem kh{α:Type}[Enc α](l:List α):I.bX (l.map enc)=true:=by
 induction l with
 |nil=>rfl
 |cons x l ih=>simp only[List.map_cons,I.bX,vX _ (Enc.done x),ih,Bool.and_self]
theorem YZ{α:Type}[Enc α](l:List α):I.e9 (l.map enc)=true:=by
 induction l with
 |nil=>rfl
 |cons x l ih=>simp only[List.map_cons,I.e9,Enc.done x,ih,Bool.and_self]
theorem aln{α:Type}[Enc α](l:List α):I.sizes (l.map enc)=l.length*Enc.sz α:=by
 rw[I.iB (sz:=Enc.sz α) _ (by simp only[List.mem_map];rintro x ⟨y,_,rfl⟩;exact Enc.size y)]
 simp
theorem r2{α:Type}[Enc α](l:List α):I.cK (l.map enc)=List.replicate l.length (Enc.aP α):=by
 induction l with
 |nil=>rfl
 |cons x l ih=>simp only[List.map_cons,I.cK,Enc.kG x,ih,List.length_cons,List.replicate_succ]
instance {α:Type} [Enc α]:Enc (List α) where
 enc l:=.slice (Enc.sz α) (l.map enc)
 sz:=1
 aP:=.one
 gn:=false
 done l:=by simp only[I.done];exact kh l
 size _:=by simp[I.size]
 kG _:=by simp[I.aP]
 agg _:=rfl
structure aS (n:Nat) (α:Type) where
 l:List α
 h:l.length=n
instance {n:Nat} {α:Type} [Enc α]:Enc (aS n α) where
 enc x:=.agg (x.l.map enc)
 sz:=n*Enc.sz α
 aP:=.ej (List.replicate n (Enc.aP α))
 gn:=true
 done x:=by simp only[I.done];exact YZ x.l
 size x:=by simp only[I.size,aln,x.h]
 kG x:=by simp only[I.aP,r2,x.h]
 agg _:=rfl
section
variable {α:Type} [Enc α]
theorem cH(aC:Bool)(A:af)(x:α):br aC A (enc x)=some (enc x):=DS aC A _ (Enc.done x)
theorem dV(x:α):(enc x).bB=true:=vX _ (Enc.done x)
theorem bh(p:Nat→Bool)(x:α):(enc x).only p=true:=mS p _ (dV x)
theorem dq(x:α):(enc x).cj=true:=YY (Enc.done x)
theorem mD(x:α):bY none (enc x) = !(Enc.gn α):=by simp[bY,Enc.agg]
theorem fZ(n:Nat)(x:α):bY (some n) (enc x)=(Enc.gn α&&Enc.sz α==n):=by simp[bY,Enc.agg,Enc.size]
theorem fG(x:α):(enc x).size=Enc.sz α:=Enc.size x
theorem eQ(x:α):(enc x).aP=Enc.aP α:=Enc.kG x
theorem jw(n:Int):(enc n:I)=.int .i64 n:=rfl
theorem Dt(n:Bool):(enc n:I)=.bool n:=rfl
theorem gA(l:List α):(enc l:I)=.slice (Enc.sz α) (l.map enc):=rfl
theorem kS:Enc.sz Int=1:=rfl
theorem kR(n:Nat):Enc.sz (aS n α)=n*Enc.sz α:=rfl
theorem pG:Enc.sz (List α)=1:=rfl
theorem wa(n:Nat):Enc.gn (aS n α)=true:=rfl
theorem ny:Enc.gn (List α)=false:=rfl
theorem sU:Enc.aP Int=.one:=rfl
theorem Dw:Enc.aP (List α)=.one:=rfl
theorem sT(n:Nat):Enc.aP (aS n α)=.ej (List.replicate n (Enc.aP α)):=rfl
theorem wg(n esz:Nat)(l:List α)(h:l.length=n)(h2:Enc.sz α=esz):ga n esz (l.map enc)=true:=by
 simp only[ga,List.length_map,h,BEq.rfl,Bool.true_and,List.all_eq_true,List.mem_map]
 rintro x ⟨y,_,rfl⟩
 simp[Enc.size,h2]
theorem QU(l:List α):∀ x∈l.map (enc (α:=α)),x.size=Enc.sz α:=by
 simp only[List.mem_map];rintro x ⟨y,_,rfl⟩;exact Enc.size y
end
theorem cA(n:Int)(h1:-9223372036854775808≤n)(h2:n≤9223372036854775807):IntKind.i64.wrap n=n:=IntWalk.i64_in n ⟨h1,h2⟩
theorem aA.mk{P:Program}{f:FuncId}{fn:Func}{x:aM}{rs:List bg}{args:List I}{r:I}(hf:P.funcs[f]?=some fn)(hcall:hT P f=true)(hc:(fn.body.bind (fq P fn.ntmps))=some x)
  (hrs:iX P fn.results.toList=some rs) (hn:args.length≤fn.ntmps) (h:∀ (w:World) (D:aN) (E:aZ),ab ⟨P,w,D,fn.ntmps,dw E,E,iN,none⟩ x (jH rs r) (av (bp 0 args) [])):aA P f args r:=by
 obtain ⟨body,hb,hc'⟩:=Option.bind_eq_some_iff.1 hc
 exact aA.ue hf hb hcall hc' hrs hn (fun w D E=>(h w D E).sub (alK args))
end Go.Abs
namespace Go.Abs
open Go Go.RowKit
open Enc (enc)
def ar(x:I)(p q:Prop):Prop:=match x with
 | .bool t=>(t=true→p)∧(t=false→q)
 |_=>False
theorem ab.bC{c:cQ}{A:af}{Q:Exit→af→Prop}{b:aH}{x y:aM}(h:ar (ae A b) (ab c x Q A) (ab c y Q A)):ab c (.cond b x y) Q A:=by
 generalize hb:ae A b=v at h
 unfold ar at h
 split at h
 ·exact ab.cond hb h.1 h.2
 ·exact h.elim
def nX(r:I):Option (List I)→Prop
 |some xs=>lf xs=r
 |none=>False
theorem ak2(rs:List bg)(r:I)(A:af):jH rs r .ret A=nX r (fg A rs):=by
 simp only[jH,nX]
 cases fg A rs <;>simp
theorem ak1(rs:List bg)(r:I)(A:af):jH rs r .normal A=nX r (fg A rs):=by
 simp only[jH,nX]
 cases fg A rs <;>simp
def rV(s:Option Nat)(A:af):Option I→Option I
 |some x=>if bY s x=true then br true A x else none
 |none=>none
def lH:Option I→Option (List I)→Option (List I)
 |some x,some xs=>some (x::xs)
 |_,_=>none
theorem akV(A:af):fg A []=some []:=rfl
theorem akW(A:af)(t:Nat)(rs:List bg):fg A (.tmp t::rs)=lH (br true A (A.t t)) (fg A rs):=by
 simp only[fg,uG]
 cases br true A (A.t t) <;>cases fg A rs <;>rfl
theorem akU(A:af)(a:Nat)(s:Option Nat)(rs:List bg):fg A (.cell a s::rs)=lH (rV s A (gL A (A.t a))) (fg A rs):=by
 simp only[fg,uG,lK]
 cases gL A (A.t a) with
 |none=>cases fg A rs <;>rfl
 |some x =>
  by_cases h:bY s x=true
  ·simp only[rV,if_pos h];cases br true A x <;>cases fg A rs <;>rfl
  ·simp only[rV,if_neg h];cases fg A rs <;>rfl
def sX(aC:Bool)(A:af):Option I→Option I
 |some x=>if x.bB=true then some (.ref x) else (dL A 9 x).map .ref
 |none=>none
theorem ZG(A:af)(n:Nat)(p:List Nat):br true A (.ptr n p)=sX true A (eW p (A.o n)):=by
 simp only[br,lK,gL,if_true,sX]
 cases eW p (A.o n) <;>rfl
open Classical in
noncomputable def lQ(sz lo k:Nat):Option (List I)→Option I
 |some fs=>if I.bX ((fs.drop lo).take k)=true then some (.slice sz ((fs.drop lo).take k)) else none
 |none=>none
theorem ZK(A:af)(n:Nat)(p:List Nat)(sz lo k:Nat):br true A (.view n p sz lo k)=lQ sz lo k (fw (eW p (A.o n))):=by
 simp only[br,lK,gL,if_true]
 cases eW p (A.o n) with
 |none=>rfl
 |some c=>cases c <;>simp only[fw,I.du,lQ] <;>(split <;>simp_all)
open Classical in
noncomputable def ov(k:Nat):Option ai→Option I
 |some (.bT _ sz es)=>if k=es.length∧I.bX es=true then some (.slice sz es) else none
 |_=>none
theorem ZE(aC:Bool)(A:af)(n k:Nat):br aC A (.own n k)=ov k (A.o n):=by
 simp only[br]
 cases A.o n with
 |none=>rfl
 |some y=>cases y <;>simp only[ov] <;>(split <;>simp_all)
theorem Zy(aC:Bool)(A:af)(fs:List I):br aC A (.agg fs)=(b7 aC A fs).map .agg:=by simp only[br]
theorem ZA(aC:Bool)(A:af)(f:FuncId)(fs:List I):br aC A (.func f fs)=(b7 aC A fs).map (.func f):=by simp only[br]
theorem ZB(aC:Bool)(A:af)(k:IntKind)(n:Int):br aC A (.int k n)=some (.int k n):=by simp only[br]
theorem Zz(aC:Bool)(A:af)(n:Bool):br aC A (.bool n)=some (.bool n):=by simp only[br]
theorem ZJ(aC:Bool)(A:af)(n:ByteArray):br aC A (.cY n)=some (.cY n):=by simp only[br]
theorem ZD(aC:Bool)(A:af)(n:Nat):br aC A (.nils n)=some (.slice n []):=by simp only[br]
theorem ZI(aC:Bool)(A:af)(n:Nat)(es:List I):br aC A (.slice n es)=if I.bX es=true then some (.slice n es) else none:=by simp only[br]
theorem ZH(aC:Bool)(A:af)(x:I):br aC A (.ref x)=if x.bB=true then some (.ref x) else none:=by simp only[br]
theorem ZN(aC:Bool)(A:af):b7 aC A []=some []:=by simp only[b7]
theorem ZM(aC:Bool)(A:af)(x:I)(xs:List I):b7 aC A (x::xs)=lH (br aC A x) (b7 aC A xs):=by
 simp only[b7];cases br aC A x <;>cases b7 aC A xs <;>rfl
theorem VF(fs:List I):(I.agg fs).bB=I.bX fs:=by simp only[I.bB]
theorem VL(n:Nat)(fs:List I):(I.slice n fs).bB=I.bX fs:=by simp only[I.bB]
theorem VK(x:I):(I.ref x).bB=x.bB:=by simp only[I.bB]
theorem VJ(k:IntKind)(n:Int):(I.int k n).bB=true:=by simp only[I.bB]
theorem VG(n:Bool):(I.bool n).bB=true:=by simp only[I.bB]
theorem VM(n:ByteArray):(I.cY n).bB=true:=by simp only[I.bB]
theorem VH(f:FuncId)(fs:List I):(I.func f fs).bB=I.bX fs:=by simp only[I.bB]
theorem VP:I.bX []=true:=by simp only[I.bX]
theorem VN(x:I)(xs:List I):I.bX (x::xs)=(x.bB&&I.bX xs):=by simp only[I.bX]
theorem Rn(k:IntKind)(a b:Int):cJ .add (.int k a) (.int k b)=some (.int k (k.wrap (a+b))):=by simp[cJ]
theorem RD(k:IntKind)(a b:Int):cJ .sub (.int k a) (.int k b)=some (.int k (k.wrap (a-b))):=by simp[cJ]
theorem Rv(k:IntKind)(a b:Int):cJ .mul (.int k a) (.int k b)=some (.int k (k.wrap (a*b))):=by simp[cJ]
theorem Rz(k:IntKind)(a b:Int):cJ .quo (.int k a) (.int k b)=if b=0 then none else some (.int k (k.wrap (a.tdiv b))):=by simp[cJ]
theorem RA(k:IntKind)(a b:Int):cJ .rem (.int k a) (.int k b)=if b=0 then none else some (.int k (a.tmod b)):=by simp[cJ]
theorem Ro(k:IntKind)(a b:Int):cJ .and (.int k a) (.int k b)=some (.int k (k.wrap ((BitVec.ofInt k.bits a &&& BitVec.ofInt k.bits b).toNat:Int))):=by simp[cJ]
theorem Ry(k:IntKind)(a b:Int):cJ .or (.int k a) (.int k b)=some (.int k (k.wrap ((BitVec.ofInt k.bits a ||| BitVec.ofInt k.bits b).toNat:Int))):=by simp[cJ]
theorem RE(k:IntKind)(a b:Int):cJ .xor (.int k a) (.int k b)=some (.int k (k.wrap ((BitVec.ofInt k.bits a ^^^ BitVec.ofInt k.bits b).toNat:Int))):=by simp[cJ]
theorem Rp(k:IntKind)(a b:Int):cJ .andNot (.int k a) (.int k b)=some (.int k (k.wrap ((BitVec.ofInt k.bits a &&& ~~~ BitVec.ofInt k.bits b).toNat:Int))):=by simp[cJ]
theorem RB(k k':IntKind)(a b:Int):cJ .shl (.int k a) (.int k' b)=if 0≤b then some (.int k (k.wrap (a*2^(min b.toNat k.bits)))) else none:=by simp[cJ]
theorem RC(k k':IntKind)(a b:Int):cJ .shr (.int k a) (.int k' b)=if 0≤b then some (.int k (a.fdiv (2^(min b.toNat k.bits)))) else none:=by simp[cJ]
theorem Rq(k:IntKind)(a b:Int):cJ .eql (.int k a) (.int k b)=some (.bool (a==b)):=by simp[cJ]
theorem Rw(k:IntKind)(a b:Int):cJ .neq (.int k a) (.int k b)=some (.bool (a != b)):=by simp[cJ]
theorem Ru(k:IntKind)(a b:Int):cJ .lss (.int k a) (.int k b)=some (.bool (decide (a<b))):=by simp[cJ]
theorem Rt(k:IntKind)(a b:Int):cJ .leq (.int k a) (.int k b)=some (.bool (decide (a≤b))):=by simp[cJ]
theorem Rs(k:IntKind)(a b:Int):cJ .gtr (.int k a) (.int k b)=some (.bool (decide (b<a))):=by simp[cJ]
theorem Rr(k:IntKind)(a b:Int):cJ .geq (.int k a) (.int k b)=some (.bool (decide (b≤a))):=by simp[cJ]
theorem po :
  (∀ ts os d v,(av ts os).put d v=av ((d,v)::ts) os)∧(∀ ts os d v,(av ts os).aJ (some d) v=av ((d,v)::ts) os)∧(∀ (A:af) v,A.aJ none v=A) ∧
  (∀ ts os d x,(av ts os).aK d x=av ts ((d,x)::os))∧(∀ ts os k,(av ts os).t k=cn ts k)∧(∀ ts os k,(av ts os).o k=al os k) ∧
  (∀ j v r k,cn ((j,v)::r) k=if k=j then v else cn r k)∧(∀ j v r k,al ((j,v)::r) k=if k=j then some v else al r k)∧(∀ k,al [] k=none) ∧
  (∀ A k,ae A (.t k)=A.t k)∧(∀ A x,ae A (.c x)=x)∧(∀ d rest A v,db d rest A v=az rest (A.aJ d v))∧(∀ v k,cN (some v) k=k v)∧(∀ A,az [] A=.done A) :=
 ⟨tQ,aiE,aiD,oK,aiF,aiC,aY,ct,rC,Zj,Zi,ahV,RF,QX⟩
theorem LL :
  (∀ d rest A op,az (⟨d,op,none⟩::rest) A=bO A d op rest)∧(∀ d rest A op t b,az (⟨d,op,some (t,b)⟩::rest) A=hZ (A.t t) b d op rest A) ∧
  (∀ d rest A op,hZ (.bool true) true d op rest A=bO A d op rest)∧(∀ d rest A op,hZ (.bool false) false d op rest A=bO A d op rest) ∧
  (∀ d rest A op,hZ (.bool true) false d op rest A=az rest (A.aJ d .undef))∧(∀ d rest A op,hZ (.bool false) true d op rest A=az rest (A.aJ d .undef))∧(∀ d rest A op b,hZ .undef b d op rest A=az rest (A.aJ d .undef)) ∧
  (∀ d rest A x,bO A d (.mv x) rest=az rest (A.aJ d (ae A x)))∧(∀ d rest A c a b,bO A d (.pick c a b) rest=rL A d a b rest (ae A c)) ∧
  (∀ A d a b rest,rL A d a b rest (.bool true)=az rest (A.aJ d (ae A a)))∧(∀ A d a b rest,rL A d a b rest (.bool false)=az rest (A.aJ d (ae A b))) ∧
  (∀ d rest A op x y,bO A d (.bin op x y) rest=cN (cJ op (ae A x) (ae A y)) (db d rest A)) ∧
  (∀ d rest A ty neg x y,bO A d (.eqv ty neg x y) rest=cN ((cu ty (ae A x) (ae A y)).map fun b=>.bool (if neg then !b else b)) (db d rest A)) ∧
  (∀ d rest A op x,bO A d (.un op x) rest=cN (r8 op (ae A x)) (db d rest A))∧(∀ b,r8 .not (.bool b)=some (.bool !b))∧(∀ k n,r8 .neg (.int k n)=some (.int k (k.wrap (0-n))))∧(∀ k n,r8 .xor (.int k n)=some (.int k (pF k n))) ∧
  (∀ d rest A k x,bO A d (.conv k x) rest=cN (vS k (ae A x)) (db d rest A))∧(∀ k k' n,vS k (.int k' n)=some (.int k (k.wrap n))) ∧
  (∀ d rest A s x,bO A d (.ld s x) rest=cN (gT s (gL A (ae A x))) (db d rest A))∧(∀ d rest A f off x,bO A d (.fa f off x) rest=cN (lP A f off (ae A x)) (db d rest A)) ∧
  (∀ d rest A f off s x,bO A d (.fl f off s x) rest=cN (s7 f off s (ae A x).du) (db d rest A))∧(∀ d rest A n esz x i,bO A d (.ia n esz x i) rest=cN (rl A n esz (ae A x) (ae A i)) (db d rest A)) ∧
  (∀ d rest A esz x i,bO A d (.is esz x i) rest=cN (lU A esz (ae A x) (ae A i)) (db d rest A))∧(∀ d rest A n esz s x i,bO A d (.ix n esz s x i) rest=cN (rv n esz s (ae A x) (ae A i)) (db d rest A)) ∧
  (∀ d rest A x,bO A d (.len x) rest=cN (je A (ae A x)) (db d rest A))∧(∀ d rest A n esz x,bO A d (.va n esz x) rest=cN (pd A n esz (ae A x)) (db d rest A)) ∧
  (∀ d rest A zs ps,bO A d (.bld zs ps) rest=cN ((dY zs (ps.map fun p=>(p.1,ae A p.2))).map .agg) (db d rest A))∧(∀ d rest A x i,bO A d (.ext x i) rest=cN (wh i (ae A x)) (db d rest A))∧(∀ i fs,wh i (.tuple fs)=fs[i]?) ∧
  (∀ d rest A f caps,bO A d (.mk f caps) rest=cN (if ((caps.map (ae A)).all fun y=>y.cj)=true then some (.func f (caps.map (ae A))) else none) (db d rest A)) ∧
  (∀ rest A d z,bO A (some d) (.alloc z) rest=vl A d z rest (A.o d))∧(∀ A d z rest,vl A d z rest none=az rest ((A.aK d (.box z)).put d (.ptr d []))) ∧
  (∀ rest A d x,bO A (some d) (.box x) rest=sH A d (ae A x) rest (A.o d))∧(∀ A d z rest,sH A d z rest none=sI A d z rest z.cj)∧(∀ A d z rest,sI A d z rest true=az rest ((A.aK d (.box z)).put d (.ptr d []))) ∧
  (∀ rest A s x v,bO A none (.bu s x v) rest=uS A s (ae A v) rest (ae A x))∧(∀ A s v rest n p,uS A s v rest (.ptr n p)=uT A s n p v rest (A.o n))∧(∀ A s n p v rest b,uT A s n p v rest (some (.box b))=dQ A s n p b v rest (b.at p)) ∧
  (∀ d rest A f args,bO A d (.call f args) rest=.call f (args.map (ae A)) (b7 true A (args.map (ae A))) (b7 false A (args.map (ae A))) d rest A) ∧
  (∀ d rest A x args,bO A d (.eD x args) rest=sM A d (args.map (ae A)) rest (ae A x))∧(∀ A d args rest f caps,sM A d args rest (.func f caps)=.call f (args++caps) (b7 true A (args++caps)) (b7 false A (args++caps)) d rest A) :=
 ⟨QJ,QK,ag2,agZ,ag1,ag0,ag3,ajv,ajz,fun _ _ _ _ _=>rfl,fun _ _ _ _ _=>rfl,ai6,ajg,ajE,fun _=>rfl,fun _ _=>rfl,fun _ _=>rfl,aje,fun _ _ _=>rfl,ajn,aji,ajj,ajk,ajl,ajm,ajo,ajF,ai7,ajh,fun _ _=>rfl,ajr,
  ai3,fun _ _ _ _=>rfl,ai8,fun _ _ _ _=>rfl,fun _ _ _ _=>rfl,ajD,fun _ _ _ _ _ _=>rfl,fun _ _ _ _ _ _ _=>rfl,aja,ajb,fun _ _ _ _ _ _=>rfl⟩
theorem ev{A:af}{s:Option Nat}{n:Nat}{p:List Nat}{b v old:I}{rest:List aB}(h1:v.cj=true)(h2:bY s v=true)(h3:v.aP=old.aP):dQ A s n p b v rest (some old)=az rest (A.aK n (.box (b.dz p v))):=by
 simp only[dQ];rw[if_pos ⟨h1,h2,h3⟩]
theorem O9 :
  (∀ A x,gL A (.ref x)=some x)∧(∀ A n p,gL A (.ptr n p)=eW p (A.o n))∧(∀ p c,eW p (some (.box c))=c.at p)∧(∀ c:I,c.at []=some c)∧(∀ (c:I) i p,c.at (i::p)=fB i p c.du) ∧
  (∀ i p fs,fB i p (some fs)=px p fs[i]?)∧(∀ p f,px p (some f)=f.at p)∧(∀ c v:I,c.dz [] v=v)∧(∀ (c:I) i p v,c.dz (i::p) v=rY c i p v c.du)∧(∀ c i p v fs,rY c i p v (some fs)=uN fs i p v fs[i]?) ∧
  (∀ fs i p v f,uN fs i p v (some f)=.agg (fs.set i (f.dz p v)))∧(∀ fs,(I.agg fs).du=some fs)∧(∀ x:I,fw (some x)=x.du) ∧
  (∀ s x,gT s (some x)=if bY s x=true then some x else none) ∧
  (∀ A f off c,lP A f off (.ref c)=qX f off c.du)∧(∀ A f off n p,lP A f off (.ptr n p)=qW n p f off (fw (eW p (A.o n))))∧(∀ f off fs,qX f off (some fs)=pL fs f off fs[f]?)∧(∀ fs f off v,pL fs f off (some v)=ec fs f off (.ref v)) ∧
  (∀ n p f off fs,qW n p f off (some fs)=ec fs f off (.ptr n (p++[f])))∧(∀ A n esz x kk k,rl A n esz x (.int kk k)=oD A n esz k x)∧(∀ A n esz k c,oD A n esz k (.ref c)=eh k n (rn n esz k c.du)) ∧
  (∀ A n esz k m p,oD A n esz k (.ptr m p)=eh k n (rm n esz m p k (fw (eW p (A.o m)))))∧(∀ n esz k fs,rn n esz k (some fs)=eg n esz fs ((fs[k.toNat]?).map .ref))∧(∀ n esz m p k fs,rm n esz m p k (some fs)=eg n esz fs (some (.ptr m (p++[k.toNat])))) ∧
  (∀ A esz x kk k,lU A esz x (.int kk k)=iM A esz k x)∧(∀ n esz s x kk k,rv n esz s x (.int kk k)=ru n esz s k x.du)∧(∀ n esz s k fs,ru n esz s k (some fs)=eh k n (eg n esz fs (gT s fs[k.toNat]?))) ∧
  (∀ A n esz m p,pd A n esz (.ptr m p)=r9 n esz m p (fw (eW p (A.o m))))∧(∀ n esz m p fs,r9 n esz m p (some fs)=pf n esz fs (.view m p esz 0 n)) ∧
  (∀ A sz es,je A (.slice sz es)=some (.int .i64 es.length))∧(∀ A n,je A (.nils n)=some (.int .i64 0))∧(∀ A n,je A (.c0 n)=some (.int .i64 0)) :=
 ⟨fun _ _=>rfl,fun _ _ _=>rfl,fun _ _=>rfl,iv,Ri,fun _ _ _=>rfl,fun _ _=>rfl,gi,Ow,fun _ _ _ _ _=>rfl,fun _ _ _ _ _=>rfl,fun _=>rfl,fun _=>rfl,fun _ _=>rfl,fun _ _ _ _=>rfl,fun _ _ _ _ _=>rfl,fun _ _ _=>rfl,fun _ _ _ _=>rfl,
  fun _ _ _ _ _=>rfl,fun _ _ _ _ _ _=>rfl,fun _ _ _ _ _=>rfl,fun _ _ _ _ _ _=>rfl,fun _ _ _ _=>rfl,fun _ _ _ _ _ _=>rfl,fun _ _ _ _ _=>rfl,fun _ _ _ _ _ _=>rfl,fun _ _ _ _ _=>rfl,fun _ _ _ _ _=>rfl,fun _ _ _ _ _=>rfl,fun _ _ _=>rfl,fun _ _=>rfl,fun _ _=>rfl⟩
theorem DO :
  (∀ A n p,br true A (.ptr n p)=sX true A (eW p (A.o n)))∧(∀ A x,sX true A (some x)=if x.bB=true then some (.ref x) else (dL A 9 x).map .ref)∧(∀ A n p sz lo k,br true A (.view n p sz lo k)=lQ sz lo k (fw (eW p (A.o n)))) ∧
  (∀ A n p,br false A (.ptr n p)=none)∧(∀ A n p sz lo k,br false A (.view n p sz lo k)=none)∧(∀ x,lH none x=none)∧(∀ x,lH x none=none) ∧
  (∀ aC A n k,br aC A (.own n k)=ov k (A.o n))∧(∀ aC A fs,br aC A (.agg fs)=(b7 aC A fs).map .agg)∧(∀ aC A f fs,br aC A (.func f fs)=(b7 aC A fs).map (.func f))∧(∀ aC A k n,br aC A (.int k n)=some (.int k n))∧(∀ aC A b,br aC A (.bool b)=some (.bool b)) ∧
  (∀ aC A s,br aC A (.cY s)=some (.cY s))∧(∀ aC A n,br aC A (.nils n)=some (.slice n []))∧(∀ aC A n es,br aC A (.slice n es)=if I.bX es=true then some (.slice n es) else none)∧(∀ aC A x,br aC A (.ref x)=if x.bB=true then some (.ref x) else none) ∧
  (∀ aC A,b7 aC A []=some [])∧(∀ aC A x xs,b7 aC A (x::xs)=lH (br aC A x) (b7 aC A xs))∧(∀ x xs,lH (some x) (some xs)=some (x::xs)) ∧
  (∀ fs,(I.agg fs).bB=I.bX fs)∧(∀ n fs,(I.slice n fs).bB=I.bX fs)∧(∀ x,(I.ref x).bB=x.bB)∧(∀ k n,(I.int k n).bB=true)∧(∀ n,(I.bool n).bB=true)∧(∀ n,(I.cY n).bB=true)∧(∀ f fs,(I.func f fs).bB=I.bX fs) ∧
  I.bX []=true∧(∀ x xs,I.bX (x::xs)=(x.bB&&I.bX xs)) ∧
  (∀ rs r A,jH rs r .ret A=nX r (fg A rs))∧(∀ rs r A,jH rs r .normal A=nX r (fg A rs))∧(∀ r xs,nX r (some xs)=(lf xs=r))∧(∀ A,fg A []=some [])∧(∀ A t rs,fg A (.tmp t::rs)=lH (br true A (A.t t)) (fg A rs)) ∧
  (∀ A a s rs,fg A (.cell a s::rs)=lH (rV s A (gL A (A.t a))) (fg A rs))∧(∀ s A x,rV s A (some x)=if bY s x=true then br true A x else none)∧(∀ x,lf [x]=x)∧(∀ x y xs,lf (x::y::xs)=.tuple (x::y::xs)) :=
 ⟨ZG,fun _ _=>rfl,ZK,fun _ _ _=>rfl,fun _ _ _ _ _ _=>rfl,fun _=>rfl,fun x=>by cases x <;>rfl,ZE,Zy,ZA,ZB,Zz,ZJ,ZD,ZI,ZH,ZN,ZM,fun _ _=>rfl,VF,VL,VK,VJ,VG,VM,VH,VP,VN,
  ak2,ak1,fun _ _=>rfl,akV,akW,akU,fun _ _ _=>rfl,fun _=>rfl,fun _ _ _=>rfl⟩
theorem AN :
  (∀ k a b,cJ .add (.int k a) (.int k b)=some (.int k (k.wrap (a+b))))∧(∀ k a b,cJ .sub (.int k a) (.int k b)=some (.int k (k.wrap (a-b))))∧(∀ k a b,cJ .mul (.int k a) (.int k b)=some (.int k (k.wrap (a*b)))) ∧
  (∀ k a b,cJ .quo (.int k a) (.int k b)=if b=0 then none else some (.int k (k.wrap (a.tdiv b))))∧(∀ k a b,cJ .rem (.int k a) (.int k b)=if b=0 then none else some (.int k (a.tmod b))) ∧
  (∀ k a b,cJ .and (.int k a) (.int k b)=some (.int k (k.wrap ((BitVec.ofInt k.bits a &&& BitVec.ofInt k.bits b).toNat:Int))))∧(∀ k a b,cJ .or (.int k a) (.int k b)=some (.int k (k.wrap ((BitVec.ofInt k.bits a ||| BitVec.ofInt k.bits b).toNat:Int)))) ∧
  (∀ k a b,cJ .xor (.int k a) (.int k b)=some (.int k (k.wrap ((BitVec.ofInt k.bits a ^^^ BitVec.ofInt k.bits b).toNat:Int))))∧(∀ k a b,cJ .andNot (.int k a) (.int k b)=some (.int k (k.wrap ((BitVec.ofInt k.bits a &&& ~~~ BitVec.ofInt k.bits b).toNat:Int)))) ∧
  (∀ k k' a b,cJ .shl (.int k a) (.int k' b)=if 0≤b then some (.int k (k.wrap (a*2^(min b.toNat k.bits)))) else none)∧(∀ k k' a b,cJ .shr (.int k a) (.int k' b)=if 0≤b then some (.int k (a.fdiv (2^(min b.toNat k.bits)))) else none) ∧
  (∀ k a b,cJ .eql (.int k a) (.int k b)=some (.bool (a==b)))∧(∀ k a b,cJ .neq (.int k a) (.int k b)=some (.bool (a != b)))∧(∀ k a b,cJ .lss (.int k a) (.int k b)=some (.bool (decide (a<b))))∧(∀ k a b,cJ .leq (.int k a) (.int k b)=some (.bool (decide (a≤b)))) ∧
  (∀ k a b,cJ .gtr (.int k a) (.int k b)=some (.bool (decide (b<a))))∧(∀ k a b,cJ .geq (.int k a) (.int k b)=some (.bool (decide (b≤a)))) :=
 ⟨Rn,RD,Rv,Rz,RA,Ro,Ry,RE,Rp,RB,RC,Rq,Rw,Ru,Rt,Rs,Rr⟩
end Go.Abs
namespace Go.Abs
open Go Go.RowKit
open Enc (enc)
section
variable {α:Type} [Enc α]
theorem aib(A:af)(l:List α):je A (enc l)=some (.int .i64 l.length):=by simp[gA,je]
theorem Kv{A:af}(esz:Nat){k:Int}{l:List α}(h:0≤k∧k.toNat<l.length)(hs:Enc.sz α=esz):iM A esz k (enc l)=some (.ref (enc l[k.toNat])):=by
 simp only[gA,iM,hs,List.length_map,true_and]
 rw[if_pos ⟨h.1,by omega⟩]
 simp[h.2]
theorem fI{A:af}(esz:Nat){k:Nat}{l:List α}(h:k<l.length)(hs:Enc.sz α=esz):iM A esz k (enc l)=some (.ref (enc l[k])):=by
 have:=Kv (A:=A) esz (k:=(k:Int)) (l:=l) ⟨by omega,by simpa using h⟩ hs
 simpa using this
theorem aS.lt{α:Type}{n:Nat}(x:aS n α){k:Nat}(h:k<n):k<x.l.length:=by rw[x.h];exact h
theorem jy{n:Nat}(esz:Nat){k:Nat}(x:aS n α){y:Option I}(h:k<n)(hs:Enc.sz α=esz):eh (k:Int) n (eg n esz (x.l.map enc) y)=y:=by
 simp only[eh,eg,wg n esz x.l x.h hs,if_true]
 rw[if_pos ⟨by omega,by omega⟩]
theorem gm{n:Nat}(esz:Nat){k:Int}(x:aS n α){y:Option I}(h:0≤k∧k<n)(hs:Enc.sz α=esz):eh k n (eg n esz (x.l.map enc) y)=y:=by
 simp only[eh,eg,wg n esz x.l x.h hs,if_true]
 rw[if_pos h]
theorem ag6{n k:Nat}(x:aS n α)(h:k<n):(x.l.map enc)[k]?=some (enc (x.l[k]'(x.lt h))):=by
 simp[x.lt h]
theorem Rg{n k:Nat}{p:List Nat}{x:aS n α}(h:k<n):fB k p (some (x.l.map enc))=(enc (x.l[k]'(x.lt h))).at p:=by
 have hl:=x.lt h
 simp[fB,px,hl]
theorem ajR(k:IntKind)(n:Int):gT none (some (.int k n))=some (.int k n):=by simp[gT,dc,bY,I.isAgg]
theorem ajP(b:Bool):gT none (some (.bool b))=some (.bool b):=by simp[gT,dc,bY,I.isAgg]
theorem ajS(z:Nat)(es:List I):gT none (some (.slice z es))=some (.slice z es):=by simp[gT,dc,bY,I.isAgg]
theorem ajQ(f:FuncId)(es:List I):gT none (some (.func f es))=some (.func f es):=by simp[gT,dc,bY,I.isAgg]
end
mutual
/-- What every value in memory keeps to: whole numbers within their kind,slices no longer than a slice can be. -/
def I.wf:I→Prop
 | .agg fs=>I.iu fs
 | .int k n=>k.min≤n∧n≤k.max
 | .cY s=>s.size≤maxLen
 | .slice _ es=>es.length≤maxLen∧I.iu es
 | .ref c=>c.wf
 | .func _ caps=>I.iu caps
 | .iface _ v=>v.wf
 |_=>True
def I.iu:List I→Prop
 | []=>True
 |x::xs=>x.wf∧I.iu xs
end
mutual
theorem uA{w:World}{D:aN}{E:aZ} : ∀ (x:I) (cs:List Value),ah w D E x cs→x.wf
 | .agg fs,cs,h=>by simp only[ah,I.wf] at *;exact zf fs cs h
 | .int k n,cs,h=>by simp only[ah,I.wf] at *;exact h.2
 | .cY s,cs,h=>by simp only[ah,I.wf] at *;exact h.2
 | .slice sz es,cs,h=>by
  simp only[ah,I.wf] at *
  obtain ⟨a,cap,_,h1,h2,h3,_⟩:=h
  refine ⟨by omega,?_⟩
  rcases h3 with rfl | ⟨b,off,cs',_,_,h4⟩
  ·simp[I.iu]
  ·exact zf es cs' h4
 | .ref c,cs,h=>by simp only[ah,I.wf] at *;obtain ⟨b,off,cs',_,_,h⟩:=h;exact uA c cs' h
 | .func f caps,cs,h=>by simp only[ah,I.wf] at *;obtain ⟨vs,_,h⟩:=h;exact uL caps vs h
 | .iface t v,cs,h=>by simp only[ah,I.wf] at *;obtain ⟨u,cs',_,_,h⟩:=h;exact uA v cs' h
 | .bool _,_,_ | .nilp,_,_ | .dh,_,_ | .dX,_,_ | .raw _,_,_ | .nils _,_,_ | .c0 _,_,_ | .ptr _ _,_,_ | .own _ _,_,_ | .view _ _ _ _ _,_,_ | .mref _,_,_ | .dv _,_,_ | .cT _ _,_,_ | .undef,_,_ | .df,_,_ | .tuple _,_,_=>by simp[I.wf]
theorem zf{w:World}{D:aN}{E:aZ} : ∀ (xs:List I) (cs:List Value),aG w D E xs cs→I.iu xs
 | [],_,_=>by simp[I.iu]
 |x::xs,cs,h=>by
  simp only[aG,I.iu] at *
  obtain ⟨c1,c2,_,h1,h2⟩:=h
  exact ⟨uA x c1 h1,zf xs c2 h2⟩
theorem uL{w:World}{D:aN}{E:aZ} : ∀ (xs:List I) (vs:List Value),aF w D E xs vs→I.iu xs
 | [],_,_=>by simp[I.iu]
 |x::xs,vs,h=>by
  simp only[aF,I.iu] at *
  obtain ⟨v,rest,cs,_,_,h1,h2⟩:=h
  exact ⟨uA x cs h1,uL xs rest h2⟩
end
theorem al4{α:Type}[Enc α](l:List α):I.iu (l.map enc)↔∀ x∈l,(enc x:I).wf:=by
 induction l with
 |nil=>simp[I.iu]
 |cons x l ih=>simp[I.iu,ih]
theorem kJ{α:Type}[Enc α](l:List α):(enc l:I).wf↔l.length≤maxLen∧∀ x∈l,(enc x:I).wf:=by
 simp only[gA,I.wf,List.length_map,al4]
theorem al3(n:Int):(enc n:I).wf↔-9223372036854775808≤n∧n≤9223372036854775807:=by
 change IntKind.i64.min≤n∧n≤IntKind.i64.max↔_
 simp[IntKind.min,IntKind.max,IntKind.bits,IntKind.signed]
theorem aA.wf{P:Program}{f:FuncId}{args:List I}{r:I}(hc:hT P f=true)(h:I.iu args→aA P f args r):aA P f args r :=
 ⟨hc,fun w D vs h1 h2=>(h (uL _ _ h2)).2 w D vs h1 h2⟩
theorem aA.bA{P:Program}{f:FuncId}{fn:Func}{x:aM}{rs:List bg}{args:List I}{r:I}(hf:P.funcs[f]?=some fn)(hcall:hT P f=true)(hc:(fn.body.bind (fq P fn.ntmps))=some x)
  (hrs:iX P fn.results.toList=some rs) (hn:args.length≤fn.ntmps) (h:I.iu args→∀ (w:World) (D:aN) (E:aZ),ab ⟨P,w,D,fn.ntmps,dw E,E,iN,none⟩ x (jH rs r) (av (bp 0 args) [])):aA P f args r :=
 aA.wf hcall fun hw=>aA.mk hf hcall hc hrs hn (h hw)
theorem bn{α:Type}[Enc α] :
  (∀ A (l:List α),je A (enc l)=some (.int .i64 l.length))∧(∀ n (x:aS n α),(enc x).du=some (x.l.map enc)) :=
 ⟨aib,fun _ _=>rfl⟩
theorem gq:(∀ k n,gT none (some (.int k n))=some (.int k n))∧(∀ b,gT none (some (.bool b))=some (.bool b))∧(∀ z es,gT none (some (.slice z es))=some (.slice z es))∧(∀ f es,gT none (some (.func f es))=some (.func f es)) :=
 ⟨ajR,ajP,ajS,ajQ⟩
end Go.Abs
namespace Go.Abs
open Go Go.RowKit
open Enc (enc)
def qb(neg:Bool):I→Option I
 | .nils _=>some (.bool (!neg))
 | .slice _ es=>if es.isEmpty then none else some (.bool neg)
 | .view _ _ _ _ _=>some (.bool neg)
 |_=>none
def KJ:I→Option I
 | .cY s=>some (.int .i64 s.size)
 |_=>none
open Classical in
noncomputable def o6(n:Nat)(p:List Nat)(sz l0 k esz:Nat)(lo hi mx:Option I):Option (List I)→Option I
 |some fs=>if sz=esz then iq n p sz l0 k fs.length lo hi mx else none
 |none=>none
noncomputable def mh(A:af)(esz:Nat)(lo hi mx:Option I):I→Option I
 | .slice sz es=>if sz=esz then jJ sz es lo hi mx else none
 | .nils sz=>if sz=esz then jJ sz [] lo hi mx else none
 | .c0 sz=>if sz=esz then jJ sz [] lo hi mx else none
 | .view n p sz l0 k=>o6 n p sz l0 k esz lo hi mx (fw (eW p (A.o n)))
 |_=>none
open Classical in
noncomputable def iG(esz:Nat):Option (List I)→Option I
 |some es=>if (es.all fun e=>e.size==esz)=true∧I.bX es=true then some (.slice esz es) else none
 |none=>none
open Classical in
noncomputable def qJ(A:af)(d:Option Nat)(e esz bytes n l T sz':Nat)(es:List I)(rest:List aB):I→cI
 | .slice sz ys=>if yF e esz bytes l sz ys T sz' es then az rest ((A.aK n (.bT e esz (es++ys))).aJ d (.own n (es.length+ys.length))) else .fail
 |_=>.fail
open Classical in
noncomputable def pq(A:af)(d:Option Nat)(e esz bytes:Nat)(z:I)(n l T:Nat)(xs:List Int)(rest:List aB):I→cI
 | .slice _ ys=>if yG e esz bytes l ys T xs z then az rest ((A.aK n (.cV e (xs++rp ys))).aJ d (.own n (xs.length+ys.length))) else .fail
 |_=>.fail
noncomputable def qI(A:af)(d:Option Nat)(e esz bytes:Nat)(z:I)(n l:Nat)(x:I)(rest:List aB):Option ai→cI
 |some (.bT T sz' es)=>qJ A d e esz bytes n l T sz' es rest x
 |some (.cV T xs)=>pq A d e esz bytes z n l T xs rest x
 |_=>.fail
noncomputable def gY(A:af)(d:Option Nat)(e esz bytes:Nat)(z x:I)(rest:List aB):I→cI
 | .own n l=>qI A d e esz bytes z n l x rest (A.o n)
 |s=>fp A d esz bytes z s (er A esz s) (er A esz x) (az rest)
section
variable (d:Option Nat) (rest:List aB) (A:af)
noncomputable def qc(neg:Bool)(x:I):Bool→cI
 |true=>.any (fun m=>m<2) (fun m=>az rest (A.aJ d (.bool (m==0))))
 |false=>cN (qb neg x) (db d rest A)
theorem ajx(neg:Bool)(x:aH):bO A d (.nilS neg x) rest=qc d rest A neg (ae A x) (kc (ae A x)):=by
 simp only[bO,bj,bx]
 cases kc (ae A x)
 ·simp only[Bool.false_eq_true,if_false,qc,qb];cases ae A x <;>rfl
 ·rfl
theorem ajp(x:aH):bO A d (.lenT x) rest=cN (KJ (ae A x)) (db d rest A):=by
 simp only[bO,bj,bx];cases ae A x <;>rfl
theorem ajC(esz:Nat)(x:aH)(lo hi mx:Option aH):bO A d (.sl esz x lo hi mx) rest=cN (mh A esz (lo.map (ae A)) (hi.map (ae A)) (mx.map (ae A)) (ae A x)) (db d rest A):=by
 simp only[bO,bj,bx]
 cases ae A x <;>try rfl
 rename_i n p sz l0 k
 simp only[mh,lK,gL]
 cases eW p (A.o n) with
 |none=>rfl
 |some c=>cases c <;>simp only[fw,I.du,o6] <;>(first | rfl | (split <;>rfl))
theorem ai9(esz:Nat)(ps:List aH):bO A d (.bs esz ps) rest=cN (iG esz (b7 false A (ps.map (ae A)))) (db d rest A):=by
 simp only[bO,bj,bx];cases b7 false A (ps.map (ae A)) <;>simp only[iG] <;>rfl
theorem ai4(e esz bytes:Nat)(z:I)(s x:aH):bO A d (.dC e esz bytes z s x) rest=gY A d e esz bytes z (ae A x) rest (ae A s):=by
 simp only[bO,bj]
 generalize ae A s=s'
 generalize ae A x=x'
 cases s' <;>simp only[gY]
 rename_i n l
 cases x' <;>simp only <;>generalize A.o n=z <;>(cases z with
  |none=>rfl
  |some y=>cases y <;>simp only[qI,qJ,pq])
end
theorem LM :
  (∀ d rest A neg x,bO A d (.nilS neg x) rest=qc d rest A neg (ae A x) (kc (ae A x)))∧(∀ d rest A neg x,qc d rest A neg x false=cN (qb neg x) (db d rest A))∧(∀ z,kc (.nils z)=false)∧(∀ n p sz lo k,kc (.view n p sz lo k)=false)∧(∀ d rest A x,bO A d (.lenT x) rest=cN (KJ (ae A x)) (db d rest A)) ∧
  (∀ d rest A esz x lo hi mx,bO A d (.sl esz x lo hi mx) rest=cN (mh A esz (lo.map (ae A)) (hi.map (ae A)) (mx.map (ae A)) (ae A x)) (db d rest A)) ∧
  (∀ d rest A esz ps,bO A d (.bs esz ps) rest=cN (iG esz (b7 false A (ps.map (ae A)))) (db d rest A))∧(∀ d rest A e esz bytes z s x,bO A d (.dC e esz bytes z s x) rest=gY A d e esz bytes z (ae A x) rest (ae A s)) ∧
  (∀ A d e esz bytes z x rest n l,gY A d e esz bytes z x rest (.own n l)=qI A d e esz bytes z n l x rest (A.o n))∧(∀ A d e esz bytes z n l x rest T sz es,qI A d e esz bytes z n l x rest (some (.bT T sz es))=qJ A d e esz bytes n l T sz es rest x)∧(∀ A d e esz bytes z n l x rest T xs,qI A d e esz bytes z n l x rest (some (.cV T xs))=pq A d e esz bytes z n l T xs rest x) ∧
  (∀ neg z,qb neg (.nils z)=some (.bool (!neg))) :=
 ⟨ajx,fun _ _ _ _ _=>rfl,fun _=>rfl,fun _ _ _ _ _=>rfl,ajp,ajC,ai9,ai4,fun _ _ _ _ _ _ _ _ _ _=>rfl,fun _ _ _ _ _ _ _ _ _ _ _ _ _=>rfl,fun _ _ _ _ _ _ _ _ _ _ _ _=>rfl,fun _ _=>rfl⟩
theorem gG(p:Nat→Bool)(xs ys:List I):I.bR p (xs++ys)=(I.bR p xs&&I.bR p ys):=by
 induction xs with
 |nil=>simp[I.bR]
 |cons x xs ih=>simp[I.bR,ih,Bool.and_assoc]
section
variable {α:Type} [Enc α]
theorem lB{A:af}{d:Option Nat}(e:Nat)(esz bytes n:Nat){l:Nat}{es ys:List α}{rest:List aB}(hl:l=es.length)(hs:Enc.sz α=esz)(hy:ys≠[])(h1:es.length+ys.length≤maxLen)(h2:(es.length+ys.length)*bytes≤140737488355328) :
  qJ A d e esz bytes n l e esz (es.map enc) rest (enc ys)=az rest ((A.aK n (.bT e esz ((es++ys).map enc))).aJ d (.own n (es++ys).length)):=by
 simp only[gA,qJ]
 rw[if_pos ⟨by simpa using hl,hs,rfl,rfl,by simpa using hy,by simpa using h1,by simpa using h2⟩]
 simp
theorem np(esz:Nat){ys:List α}(hs:Enc.sz α=esz):iG esz (some (ys.map enc))=some (enc ys):=by
 have h1:((ys.map enc).all fun e:I=>e.size==esz)=true:=by
  simp only[List.all_eq_true,List.mem_map]
  rintro x ⟨y,_,rfl⟩
  simp[Enc.size,hs]
 simp only[iG,gA]
 rw[if_pos ⟨h1,kh ys⟩,hs]
theorem nq(esz:Nat)(y:α)(hs:Enc.sz α=esz):iG esz (some [enc y])=some (enc [y]):=np (ys:=[y]) esz hs
theorem nz(sz:Nat){T k:Nat}{es:List α}(hk:k=es.length)(hs:Enc.sz α=sz):ov k (some (.bT T sz (es.map enc)))=some (enc es):=by
 simp only[ov,List.length_map]
 rw[if_pos ⟨hk,kh es⟩,gA,hs]
theorem dN(p:Nat→Bool)(l:List α):I.bR p (l.map enc)=true:=by
 induction l with
 |nil=>rfl
 |cons x l ih=>simp only[List.map_cons,I.bR,bh,ih,Bool.and_self]
theorem aic(A:af)(n k T sz:Nat)(es:List α)(ho:A.o n=some (.bT T sz (es.map enc)))(hk:k=es.length):je A (.own n k)=some (.int .i64 es.length):=by
 simp only[je,ho,List.length_map,hk,if_true]
end
theorem Ks :
  (∀ n:Int,iG 1 (some [.int .i64 n])=some (enc [n]))∧(∀ (T:Nat) (es:List Int),ov es.length (some (.bT T 1 (es.map enc)))=some (enc es)) :=
 ⟨fun n=>nq 1 n rfl,fun _ _=>nz 1 rfl rfl⟩
theorem aD.QO{A:af}{d n T sz z:Nat}(hd:A.t d=.nils z)(hn:A.o n=none)(hlt:n<1000000):aD A ((A.aK n (.bT T sz [])).put d (.own n 0)):=by
 rintro c a w ⟨D,E,h⟩
 have aw:E n=none:=by have:=h.bS n;rw[hn] at this;exact this
 have hl:dS w D E w D (fun m=>if m=n then some (.rw none 0) else E m):=by
  have eB:∀ {m:Nat} {e:bU},E m=some e→(if m=n then some (.rw none 0) else E m)=some e:=fun {m e} he=>by
   have:m≠n:=fun e=>by rw[e,aw] at he;cases he
   rw[if_neg this];exact he
  refine ⟨fun _ _ h=>h,fun _ _ _ _ h=>h,fun m b aP he=>eB he,fun m aE l he =>?_,fun m b he=>eB he,fun m b he=>eB he,fun _ _ _ _ h=>h⟩
  ·have:m≠n:=fun e=>by rw[e,aw] at he;cases he
   exact ⟨aE,l,by simp only[if_neg this];exact he,Nat.le_refl _,fun _=>rfl⟩
 refine ⟨D,fun m=>if m=n then some (.rw none 0) else E m,h.sz,h.eV,fun t =>?_,h.dZ,h.c6,h.dg,fun m =>?_,fun m m' e e' b h1 h2 h3 h4 =>?_,fun m e hm =>?_,h.ff,h.cL,h.fk,h.fL⟩
 ·simp only[af.put,af.aK]
  by_cases ht:t=d
  ·subst ht
   simp only[if_true]
   have hv:=h.ew t
   rw[hd] at hv
   obtain ⟨cs,q1,q2⟩:=hv
   simp only[ah] at q2
   subst q2
   refine ⟨[.slice none 0 0],by simpa[bK,I.isAgg] using q1,?_⟩
   simp only[ah,if_true]
   exact ⟨none,0,rfl,Nat.le_refl _,⟨_,_,_,rfl⟩,fun _=>trivial⟩
  ·simp only[if_neg ht]
   exact aW.bL hl (h.ew t)
 ·simp only[af.put,af.aK]
  by_cases hm:m=n
  ·subst hm
   simp only[if_true,c9]
   exact ⟨none,by simp,by simp,trivial⟩
  ·simp only[if_neg hm]
   exact (h.bS m).bL hl (by simp only[if_neg hm]) fun _ _ _ _=>⟨rfl,fun _ ho=>ho⟩
 ·by_cases hm:m=n <;>by_cases hm':m'=n
  ·rw[hm,hm']
  ·simp only[if_pos hm,Option.some.injEq] at h1;subst h1;simp[bU.aE] at h3
  ·simp only[if_pos hm',Option.some.injEq] at h2;subst h2;simp[bU.aE] at h4
  ·simp only[if_neg hm] at h1;simp only[if_neg hm'] at h2;exact h.cU m m' e e' b h1 h2 h3 h4
 ·have hmn:m≠n:=fun e=>by rw[e,h.kl (.inr hlt)] at hm;cases hm
  simp only[if_neg hmn]
  exact h.eb m e hm
theorem aD.qG{ts:List (Nat×I)}{os:List (Nat×ai)}(d n T sz z:Nat)(hd:cn ts d=.nils z)(hn:al os n=none){B:af}(h:aD (av ((d,.own n 0)::ts) ((n,.bT T sz [])::os)) B)(hlt:n<1000000:=by decide):aD (av ts os) B :=
 ((aD.QO (A:=av ts os) (T:=T) (sz:=sz) hd hn hlt).trans (by rw[oK,tQ];exact aD.refl _)).trans h
def aS.g{n:Nat}(x:aS n Int)(k:Nat):Int:=x.l.getD k 0
theorem aS.tp{n k:Nat}(x:aS n Int)(h:k<n):x.l[k]'(x.lt h)=x.g k:=by simp[aS.g,x.lt h]
theorem eP{n k:Nat}{p:List Nat}(x:aS n Int)(h:k<n):fB k p (some (x.l.map enc))=(I.int .i64 (x.g k)).at p:=by
 rw[Rg h,x.tp h];rfl
theorem rf{n k:Nat}(x:aS n Int)(h:k<n):(x.l.map (enc (α:=Int)))[k]?=some (I.int .i64 (x.g k)):=by
 rw[ag6 x h,x.tp h];rfl
theorem LC:(∀ k n,bY none (.int k n)=true)∧(∀ b,bY none (.bool b)=true)∧(∀ z es,bY none (.slice z es)=true)∧(∀ f es,bY none (.func f es)=true)∧(∀ z,bY none (.nils z)=true)∧(∀ n k,bY none (.own n k)=true) :=
 ⟨fun _ _=>rfl,fun _=>rfl,fun _ _=>rfl,fun _ _=>rfl,fun _=>rfl,fun _ _=>rfl⟩
theorem qH{p:Nat→Bool}{n:Nat}(h:∀ k,k<n→p k=true):(List.range n).all p=true:=by
 simp only[List.all_eq_true,List.mem_range];exact h
theorem oh{p:Nat→Bool}{n:Nat}(i:Nat)(hi:i<n)(h:p i=false):(List.range n).all p=false:=by
 simp only[List.all_eq_false,List.mem_range];exact ⟨i,hi,by simp[h]⟩
theorem U:(type_of% @po)∧(type_of% @LL)∧(type_of% @LM)∧(type_of% @Ks)∧(type_of% @LC)∧(type_of% @O9)∧(type_of% @DO)∧(type_of% @AN)∧(∀ n:Int,(enc n:I)=.int .i64 n)∧(∀ n:Bool,(enc n:I)=.bool n) ∧
  (∀ {α β:Type} (f:α→β) (x:α) (xs:List α),List.map f (x::xs)=f x::List.map f xs)∧(∀ {α β:Type} (f:α→β),List.map f []=[])∧(∀ {α:Type} (xs:List α),[]++xs=xs)∧(∀ n:Nat,(n:Int).toNat=n)∧(∀ {α β:Type} (f:α→β) (x:α),Option.map f (some x)=some (f x)) ∧
  (∀ n:Nat,0≤(n:Int))∧((!true)=false)∧((!false)=true)∧((false=true)=False)∧((true=false)=False) :=
 ⟨@po,@LL,@LM,@Ks,@LC,@O9,@DO,@AN,jw,Dt,fun _ _ _=>rfl,fun _=>rfl,fun _=>rfl,fun _=>rfl,fun _ _=>rfl,fun n=>Int.natCast_nonneg n,rfl,rfl,by simp,by simp⟩
end Go.Abs
namespace Go.Abs
open Go Go.RowKit
open Enc (enc)
theorem kK.bA{P:Program}{f:FuncId}{fn:Func}{x:aM}{rs:List bg}{Y:Value→List I→List (Nat×ai)→cR→Prop}{args:List I}{os:List (Nat×ai)}{post:cR}(hf:P.funcs[f]?=some fn)(hcall:hT P f=true)(hc:(fn.body.bind (fq P fn.ntmps))=some x)
  (hrs:iX P fn.results.toList=some rs) (hn:args.length≤fn.ntmps) (hn2:fn.ntmps≤1000000) (hos:∀ m,au os m=true→1000000≤m) (h:I.iu args→∀ (w:World) (D:aN) (E:aZ),ab ⟨P,w,D,fn.ntmps,dw E,E,Y,none⟩ x (nW rs post) (av (bp 0 args) os)):kK P f Y args os post:=by
 obtain ⟨body,hb,hc'⟩:=Option.bind_eq_some_iff.1 hc
 refine ⟨hcall,fun w D E vs hy hD ho hv =>?_⟩
 exact (kK.ue hf hb hcall hc' hrs hn (fun m hm=>⟨Nat.le_trans hn2 (hos m hm),hos m hm⟩) (fun w D E=>(h (uL _ _ hv) w D E).sub (OT args os))).2 w D E vs hy hD ho hv
theorem cF.bA{P:Program}{f:FuncId}{fn:Func}{x:aM}{rs:List bg}{args:List I}{os:List (Nat×ai)}{post:cR}(hf:P.funcs[f]?=some fn)(hcall:hT P f=true)(hc:(fn.body.bind (fq P fn.ntmps))=some x)
  (hrs:iX P fn.results.toList=some rs) (hn:args.length≤fn.ntmps) (hn2:fn.ntmps≤1000000) (hos:∀ m,au os m=true→1000000≤m) (h:I.iu args→∀ (w:World) (D:aN) (E:aZ),ab ⟨P,w,D,fn.ntmps,dw E,E,iN,none⟩ x (nW rs post) (av (bp 0 args) os)):cF P f args os post :=
 cF.Lg (kK.bA hf hcall hc hrs hn hn2 hos h)
theorem rh{A:af} : ∀ n x,al [] n=some x→A.o n=some x∧x.only (au [])=true∧x.eS=true:=fun n x h=>by simp[al] at h
theorem kp{A:af}{k:Nat}{c:I}(h1:A.o k=some (.box c))(h2:∀ p,c.only p=true):∀ n x,al [(k,.box c)] n=some x→A.o n=some x∧x.only (au [(k,.box c)])=true∧x.eS=true:=fun n x h=>by
 simp only[al] at h
 split at h
 ·rename_i hn
  subst hn
  simp only[Option.some.injEq] at h
  subst h
  exact ⟨h1,h2 _,rfl⟩
 ·cases h
theorem dx.nil{aC:Bool}{ρ:List (Nat×Nat)}{os0:List (Nat×ai)}{r:I}(h1:∀ p,r.only p=true)(h2:aC=true→r.cP=true):dx aC ρ [] os0 r [] :=
 ⟨fun m x h=>by simp[al] at h,fun m m' h=>by simp[au,al] at h,fun m h=>by simp[au,al] at h,fun m h=>by simp[au,al] at h,h1 _,h2⟩
theorem cW{k:Nat}{x:ai}{m:Nat} : au [(k,x)] m=true↔m=k:=by
 simp only[au,al];split <;>simp_all
theorem dx.qa{aC:Bool}{k d:Nat}{os0:List (Nat×ai)}{r c:I}(h1:∀ p,c.only p=true)(h2:aC=true→c.cP=true)(h3:r.only (au [(k,.box c)])=true)(h4:aC=true→r.cP=true)(h5:al os0 d=none)(h6:d<1000000):dx aC [(k,d)] [] os0 r [(k,.box c)]:=by
 refine ⟨fun m x h =>?_,fun m m' h h' _ =>?_,fun m h=>by simp[au,al] at h,fun m h _ =>?_,h3,h4⟩
 ·simp only[al] at h
  split at h
  ·simp only[Option.some.injEq] at h;subst h;exact ⟨h1 _,rfl,h2⟩
  ·cases h
 ·rw[cW.1 h,cW.1 h']
 ·rw[cW.1 h];simp[bD,h5,h6]
theorem dx.one{aC:Bool}{k d:Nat}{x:ai}{os0:List (Nat×ai)}{r c:I}(h1:∀ p,c.only p=true)(h2:aC=true→c.cP=true)(h3:r.only (au [(k,.box c)])=true)(h4:aC=true→r.cP=true):dx aC [(k,d)] [(k,x)] os0 r [(k,.box c)]:=by
 refine ⟨fun m x h =>?_,fun m m' h h' _ =>?_,fun m h =>?_,fun m h h' =>?_,h3,h4⟩
 ·simp only[al] at h
  split at h
  ·simp only[Option.some.injEq] at h;subst h;exact ⟨h1 _,rfl,h2⟩
  ·cases h
 ·rw[cW.1 h,cW.1 h']
 ·rw[cW.1 h];exact cW.2 rfl
 ·rw[cW.1 h] at h'
  have:au [(k,x)] k=true:=cW.2 rfl
  rw[this] at h';cases h'
theorem fP.nil{ρ:List (Nat×Nat)}{os0:List (Nat×ai)} : fP ρ [] os0:=⟨fun m x h=>by simp[al] at h,fun m m' h=>by simp[au,al] at h⟩
mutual
theorem rS(ρ:Nat→Nat):∀ x:I,x.bB=true→x.aR ρ=x
 | .agg fs,h=>by simp only[I.aR,I.bB] at *;rw[oS ρ fs h]
 | .slice _ es,h=>by simp only[I.aR,I.bB] at *;rw[oS ρ es h]
 | .ref x,h=>by simp only[I.aR,I.bB] at *;rw[rS ρ x h]
 | .func _ caps,h=>by simp only[I.aR,I.bB] at *;rw[oS ρ caps h]
 | .iface _ v,h=>by simp only[I.aR,I.bB] at *;rw[rS ρ v h]
 | .bool _,_ | .int _ _,_ | .cY _,_ | .nilp,_ | .dh,_ | .dX,_ | .raw _,_ | .nils _,_ | .c0 _,_=>by simp only[I.aR]
 | .cT ks vs,h=>by simp only[I.aR,I.bB,Bool.and_eq_true] at *;rw[oS ρ ks h.1,oS ρ vs h.2]
 | .ptr _ _,h | .own _ _,h | .view _ _ _ _ _,h | .mref _,h | .dv _,h | .undef,h | .df,h | .tuple _,h=>by simp[I.bB] at h
theorem oS(ρ:Nat→Nat):∀ xs:List I,I.bX xs=true→I.cX ρ xs=xs
 | [],_=>rfl
 |x::xs,h=>by
  simp only[I.bX,Bool.and_eq_true] at h
  simp only[I.cX,rS ρ x h.1,oS ρ xs h.2]
end
theorem gh :
  (∀ (k:IntKind) n (ρ:Nat→Nat),(I.int k n).aR ρ=.int k n)∧(∀ (b:Bool) (ρ:Nat→Nat),(I.bool b).aR ρ=.bool b)∧(∀ n p (ρ:Nat→Nat),(I.ptr n p).aR ρ=.ptr (ρ n) p) ∧
  (∀ n p sz lo k (ρ:Nat→Nat),(I.view n p sz lo k).aR ρ=.view (ρ n) p sz lo k)∧(∀ fs (ρ:Nat→Nat),(I.agg fs).aR ρ=.agg (I.cX ρ fs))∧(∀ fs (ρ:Nat→Nat),(I.tuple fs).aR ρ=.tuple (I.cX ρ fs))∧(∀ f fs (ρ:Nat→Nat),(I.func f fs).aR ρ=.func f (I.cX ρ fs)) ∧
  (∀ ρ:Nat→Nat,I.cX ρ []=[])∧(∀ (ρ:Nat→Nat) x xs,I.cX ρ (x::xs)=x.aR ρ::I.cX ρ xs)∧(∀ (ρ:Nat→Nat) (x:I),(ai.box x).aR ρ=.box (x.aR ρ)) ∧
  (∀ (z:Nat) (ρ:Nat→Nat),(I.nils z).aR ρ=.nils z)∧(∀ (z:Nat) (ρ:Nat→Nat),(I.c0 z).aR ρ=.c0 z) ∧
  (∀ n,bD [] n=n)∧(∀ a b r n,bD ((a,b)::r) n=if n=a then b else bD r n)∧(∀ ρ,dJ ρ []=[])∧(∀ ρ k x os,dJ ρ ((k,x)::os)=(bD ρ k,x.aR (bD ρ))::dJ ρ os) :=
 ⟨fun _ _ _=>by simp only[I.aR],fun _ _=>by simp only[I.aR],fun _ _ _=>by simp only[I.aR],fun _ _ _ _ _ _=>by simp only[I.aR],fun _ _=>by simp only[I.aR],fun _ _=>by simp only[I.aR],fun _ _ _=>by simp only[I.aR],
  fun _=>rfl,fun _ _ _=>by simp only[I.cX],fun _ _=>rfl,fun _ _=>by simp only[I.aR],fun _ _=>by simp only[I.aR],fun _=>rfl,fun _ _ _ _=>rfl,fun _=>rfl,fun _ _ _ _=>rfl⟩
section
variable {α:Type} [Enc α]
theorem hX(ρ:Nat→Nat)(x:α):(enc x).aR ρ=enc x:=rS ρ _ (dV x)
theorem gu(ρ:Nat→Nat)(l:List α):I.cX ρ (l.map enc)=l.map enc:=oS ρ _ (kh l)
class oe (α:Type) [Enc α]:Prop where
 cP:∀ x:α,(enc x).cP=true
theorem Du[oe α](x:α):(enc x).cP=true:=oe.cP x
theorem x7[oe α](l:List α):I.jd (l.map enc)=true:=by
 induction l with
 |nil=>rfl
 |cons x l ih=>simp only[List.map_cons,I.jd,Du,ih,Bool.and_self]
instance:oe Int:=⟨fun _=>rfl⟩
instance {n:Nat} [oe α]:oe (aS n α):=⟨fun x=>by simp only[enc,I.cP];exact x7 x.l⟩
theorem o7(A:af)(esz:Nat)(l:List α)(hs:Enc.sz α=esz):er A esz (enc l)=some (l.map enc):=by
 simp only[gA,er,hs,if_true]
theorem uV(l:List α):kc (enc l)=l.isEmpty:=by
 simp only[gA,kc];cases l <;>rfl
theorem K9(neg:Bool)(l:List α)(h:l≠[]):qb neg (enc l)=some (.bool neg):=by
 simp only[gA,qb]
 cases l with
 |nil=>exact absurd rfl h
 |cons=>rfl
section
variable {P:Program} {Y:Value→List I→List (Nat×ai)→cR→Prop} {K:af→Prop} {A:af} {rest:List aB} {d:Nat} {e esz bytes:Nat} {q:Nat}
theorem a8.vp(z:α){l:List α}(hs:Enc.sz α=esz)(hl:l≠[])(hf:A.o d=none)(hb:l.length*bytes≤140737488355328)(hml:l.length≤maxLen)
  (h:∀ m,a8 P Y false K (az rest ((A.aK d (.box (.agg ((l++List.replicate m z).map enc)))).aJ (some d) (.view d [] esz 0 l.length)))):a8 P Y false K (gY A (some d) e esz bytes (enc z) (enc l) rest (.c0 q)):=by
 have hne:l.map (enc (α:=α))≠[]:=by simpa using hl
 have h1:er A esz (.c0 q)=some []:=rfl
 simp only[gY,h1,o7 A esz l hs,fp,if_neg hne,gl,hf,List.length_nil,Nat.zero_add,List.length_map,if_pos (And.intro hb hml),List.nil_append]
 refine .any rfl fun m _ =>?_
 have:=h m
 simp only[List.map_append,List.map_replicate] at this
 exact this
theorem aml(z:I)(hs:Enc.sz α=esz):gY A (some d) e esz bytes z (enc ([]:List α)) rest (.c0 q)=az rest (A.aJ (some d) (.c0 q)):=by
 have h1:er A esz (.c0 q)=some []:=rfl
 simp only[gY,h1,o7 A esz ([]:List α) hs,fp,List.map_nil,if_true]
theorem ajd(esz:Nat)(z:I)(x:aH)(rest:List aB)(A:af):bO A none (.ju esz z x) rest=nu A esz z (az rest) (ae A x):=rfl
theorem alk(z:α)(k:Nat):I.cK (List.replicate k (enc z))=List.replicate k (Enc.aP α):=by
 have:List.replicate k (enc z)=(List.replicate k z).map (enc (α:=α)):=by simp
 rw[this,r2];simp
theorem vP(z:α){n lo k:Nat}{xs:List α}(ho:A.o n=some (.box (.agg (xs.map enc))))(hk:lo+k≤xs.length) :
  nu A esz (enc z) (az rest) (.view n [] esz lo k)=az rest (A.aK n (.box (.agg ((xs.take lo++(List.replicate k z++xs.drop (lo+k))).map enc)))):=by
 have h1:I.cK (List.replicate k (enc z))=I.cK (((xs.map (enc (α:=α))).drop lo).take k):=by
  rw[alk,←List.map_drop,←List.map_take,r2,List.length_take,List.length_drop]
  congr 1;omega
 have h2:(I.agg (xs.map (enc (α:=α)))).at []=some (.agg (xs.map enc)):=rfl
 simp only[nu,ho,h2]
 rw[if_pos ⟨rfl,h1⟩]
 simp only[iA,gi,List.map_append,List.map_take,List.map_drop,List.map_replicate,List.length_replicate]
theorem r3{n:Nat}{p:List Nat}{sz k total i:Nat}(h:i≤total)(h0:0<total):iq n p sz 0 k total none (some (.int .i64 i)) none=some (.view n p sz 0 i):=by
 simp only[iq,iw]
 rw[if_pos ⟨by omega,by omega,by omega⟩,if_neg (by omega)]
 simp
theorem mi{n:Nat}{p:List Nat}{sz k total i:Nat}(h:i≤k)(hk:k≤total)(h0:i<total):iq n p sz 0 k total (some (.int .i64 i)) none none=some (.view n p sz i (k-i)):=by
 simp only[iq,iw]
 rw[if_pos ⟨by omega,by omega,by omega⟩,if_neg (by omega)]
 simp
theorem xX{m:Nat}{p:List Nat}{sz lo l j:Nat}{fs:List I}(h:j<l):lW m p sz lo l sz (j:Int) (some fs)=some (.ptr m (p++[lo+j])):=by
 simp only[lW,true_and]
 rw[if_pos ⟨by omega,by omega⟩]
 simp
theorem qY{sz k:Nat}{xs:List α}(hs:Enc.sz α=sz):lQ sz 0 k (some (xs.map enc))=some (enc (xs.take k)):=by
 have h:((xs.map (enc (α:=α))).drop 0).take k=(xs.take k).map enc:=by rw[List.drop_zero,List.map_take]
 simp only[lQ,h]
 rw[if_pos (kh _),gA,hs]
end
end
theorem ahM(A:af)(esz m:Nat)(p:List Nat)(sz lo l:Nat)(k:Int):iM A esz k (.view m p sz lo l)=lW m p sz lo l esz k (fw (eW p (A.o m))):=rfl
theorem aid(A:af)(m:Nat)(p:List Nat)(sz lo l:Nat):je A (.view m p sz lo l)=some (.int .i64 l):=rfl
theorem alo(A:af)(esz:Nat)(lo hi mx:Option I)(n:Nat)(p:List Nat)(l0 k:Nat):mh A esz lo hi mx (.view n p esz l0 k)=o6 n p esz l0 k esz lo hi mx (fw (eW p (A.o n))):=rfl
theorem alp(n:Nat)(p:List Nat)(sz l0 k:Nat)(lo hi mx:Option I)(fs:List I):o6 n p sz l0 k sz lo hi mx (some fs)=iq n p sz l0 k fs.length lo hi mx:=by simp[o6]
theorem dp :
  (∀ A esz m p sz lo l k,iM A esz k (.view m p sz lo l)=lW m p sz lo l esz k (fw (eW p (A.o m))))∧(∀ A m p sz lo l,je A (.view m p sz lo l)=some (.int .i64 l)) ∧
  (∀ A esz lo hi mx n p l0 k,mh A esz lo hi mx (.view n p esz l0 k)=o6 n p esz l0 k esz lo hi mx (fw (eW p (A.o n))))∧(∀ n p sz l0 k lo hi mx fs,o6 n p sz l0 k sz lo hi mx (some fs)=iq n p sz l0 k fs.length lo hi mx) ∧
  (∀ esz z x rest A,bO A none (.ju esz z x) rest=nu A esz z (az rest) (ae A x))∧(∀ rest A d esz,bO A d (.bs0 esz) rest=az rest (A.aJ d (.c0 esz))) :=
 ⟨ahM,aid,alo,alp,ajd,fun _ _ _ _=>rfl⟩
theorem eY(rs:List bg)(post:cR)(A:af):nW rs post .ret A=lz rs post A:=rfl
theorem mb(rs:List bg)(post:cR)(A:af):nW rs post .normal A=lz rs post A:=rfl
theorem aD.iL{ts:List (Nat×I)}{os0:List (Nat×ai)}(ns:List Nat)(d:Nat){x y:I}(hd:cn ts d=x)(h:br true (av ts (jc ns os0)) x=some y)(ho:a7 (fun n => !ns.contains n) (c7 ns os0)) :
  aD (av ts os0) (av ((d,y)::gB ns ts) (c7 ns os0)):=by
 rintro c a w ⟨D,E,hs⟩
 obtain ⟨D1,E1,hs1,hw⟩:=hs.D6 ns ho
 have hu:ez (av ts (jc ns os0)) (av ts os0):=fun n z hz=>by
  simp only[av,oH] at hz ⊢
  split at hz
  ·exact hz
  ·cases hz
 have hx:x.cj=true:=by cases x <;>first | rfl | simp[br] at h
 have hv:=hs.ew d
 simp only[av] at hv
 rw[hd] at hv
 have h1:aF w D E [x] [a.tmps.getD d undef]:=m7 [x] _ (.cons hv .nil) (by intro z hz;simp only[List.mem_singleton] at hz;subst hz;exact hx)
 have h2:=mG (E':=E1) hs hu hw [x] [y] _ h1 (by simp only[b7,h])
 have h3:aW w D1 E1 y (a.tmps.getD d undef):=by
  simp only[aF] at h2
  obtain ⟨v',rest,cs,e,k1,k2,_⟩:=h2
  simp only[List.cons.injEq] at e
  obtain ⟨e1,_⟩:=e
  rw[e1]
  exact mO k1 k2
 refine ⟨D1,E1,hs1.sz,hs1.eV,fun t =>?_,hs1.dZ,hs1.c6,hs1.dg,hs1.bS,hs1.cU,hs1.eb,hs1.ff,hs1.cL,hs1.fk,hs1.fL⟩
 simp only[av,cn]
 split
 ·rename_i ht;subst ht;exact h3
 ·exact hs1.ew t
theorem aD.oz{ts ts':List (Nat×I)}{os0 os':List (Nat×ai)}(ns:List Nat)(d:Nat){x y:I}(hd:cn ts d=x)(h:br true (av ts (jc ns os0)) x=some y)(ho:a7 (fun n => !ns.contains n) (c7 ns os0))
  (h1:aV ((d,y)::gB ns ts) ts') (h2:bF (c7 ns os0) os') (h3:bE (au os') ts') (h4:a7 (au os') os'):aD (av ts os0) (av ts' os') :=
 (aD.iL ns d hd h ho).trans (aD.bM h1 h2 h3 h4)
theorem ab.zO{c:cQ}{Q:Exit→af→Prop}{A:af}{x:aM}(T:af)(h1:ab c x (aq (fun B=>aD B T) fun _ _=>False) A)(h2:∀ B,aD B T→Q .normal B):ab c x Q A :=
 h1.mono fun e B hq=>by
  cases e <;>simp only[aq] at hq <;>first
   |exact h2 B hq
   |exact hq.elim
theorem NY{w:World}{D:aN}{E:aZ}{p:List Nat}{c x y:I}{cs:List Value}(hr:ah w D E c cs)(h:c.at p=some x)(hxy:∀ ds,ah w D E x ds→ah w D E y ds)(hs:y.aP=x.aP):ah w D E (c.dz p y) cs∧(c.dz p y).aP=c.aP:=by
 obtain ⟨off,c1,c2,c3,h1,rfl,h2,h3⟩:=ze p c x cs hr h
 obtain ⟨off',k1,k2,k3,k4⟩:=uz p c x y _ c2 hr h (hxy c2 h3) hs
 rw[h1,Option.some.injEq] at k1
 subst k1
 refine ⟨?_,k4⟩
 have e:(c1++c2++c3).take off++c2++(c1++c2++c3).drop (off+c2.length)=c1++c2++c3:=by
  rw[List.append_assoc c1 c2 c3,←h2,List.take_left,List.drop_length_add_append,List.drop_left,List.append_assoc]
 rw[←e];exact k3
theorem aD.QP{A:af}{m n T sz z:Nat}{p:List Nat}{b:I}(hm:A.o m=some (.box b))(hp:b.at p=some (.nils z))(hn:A.o n=none)(hlt:n<1000000):aD A ((A.aK n (.bT T sz [])).aK m (.box (b.dz p (.own n 0)))):=by
 rintro c a w ⟨D,E,h⟩
 have aw:E n=none:=by have:=h.bS n;rw[hn] at this;exact this
 have hmn:m≠n:=fun e=>by rw[e,hn] at hm;cases hm
 have hl:dS w D E w D (fun m=>if m=n then some (.rw none 0) else E m):=by
  have eB:∀ {m:Nat} {e:bU},E m=some e→(if m=n then some (.rw none 0) else E m)=some e:=fun {m e} he=>by
   have:m≠n:=fun e=>by rw[e,aw] at he;cases he
   rw[if_neg this];exact he
  refine ⟨fun _ _ h=>h,fun _ _ _ _ h=>h,fun m b aP he=>eB he,fun m aE l he =>?_,fun m b he=>eB he,fun m b he=>eB he,fun _ _ _ _ h=>h⟩
  ·have:m≠n:=fun e=>by rw[e,aw] at he;cases he
   exact ⟨aE,l,by simp only[if_neg this];exact he,Nat.le_refl _,fun _=>rfl⟩
 refine ⟨D,fun m=>if m=n then some (.rw none 0) else E m,h.sz,h.eV,fun t=>aW.bL hl (h.ew t),h.dZ,h.c6,h.dg,fun k =>?_,fun m m' e e' b h1 h2 h3 h4 =>?_,fun m e hm =>?_,h.ff,h.cL,h.fk,h.fL⟩
 ·simp only[af.aK]
  by_cases hk:k=m
  ·subst hk
   have ho:=h.bS k
   rw[hm] at ho
   obtain ⟨b',cs,T',h1,h2,h3,h4,h5⟩:=ho
   obtain ⟨q1,q2⟩:=NY (y:=.own n 0) (ah.bL hl _ _ h4) hp (fun ds hd=>by
    simp only[ah] at hd
    subst hd
    simp only[ah,if_true]
    exact ⟨none,0,rfl,Nat.le_refl _,⟨_,_,_,rfl⟩,fun _=>trivial⟩) rfl
   simp only[if_true,c9]
   exact ⟨b',cs,T',by rw[q2];simp only[if_neg hmn];exact h1,h2,h3,q1,h5⟩
  ·simp only[if_neg hk]
   by_cases hkn:k=n
   ·subst hkn
    simp only[if_true,c9]
    exact ⟨none,by simp,by simp,trivial⟩
   ·simp only[if_neg hkn]
    exact (h.bS k).bL hl (by simp only[if_neg hkn]) fun _ _ _ _=>⟨rfl,fun _ ho=>ho⟩
 ·by_cases hm:m=n <;>by_cases hm':m'=n
  ·rw[hm,hm']
  ·simp only[if_pos hm,Option.some.injEq] at h1;subst h1;simp[bU.aE] at h3
  ·simp only[if_pos hm',Option.some.injEq] at h2;subst h2;simp[bU.aE] at h4
  ·simp only[if_neg hm] at h1;simp only[if_neg hm'] at h2;exact h.cU m m' e e' b h1 h2 h3 h4
 ·have hmn:m≠n:=fun e=>by rw[e,h.kl (.inr hlt)] at hm;cases hm
  simp only[if_neg hmn]
  exact h.eb m e hm
theorem aD.qF{ts:List (Nat×I)}{os:List (Nat×ai)}(m n T sz z:Nat)(p:List Nat)(b:I)(hm:al os m=some (.box b))(hp:b.at p=some (.nils z))(hn:al os n=none){B:af}(h:aD (av ts ((m,.box (b.dz p (.own n 0)))::(n,.bT T sz [])::os)) B)(hlt:n<1000000:=by decide):aD (av ts os) B :=
 ((aD.QP (A:=av ts os) (T:=T) (sz:=sz) hm hp hn hlt).trans (by rw[oK,oK];exact aD.refl _)).trans h
end Go.Abs
