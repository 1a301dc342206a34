/-
  A part of the proof that the law HerdLines returns true for every input; conditions: none beyond the statement's own. (part 2 of 7)
-/
import Derived.Maps.RangeRun
import Derived.Laws.MakeOwn
import Derived.Orders
import Derived.OrdersIn
import Derived.Test.YtcldiigclhgafaaGreatNja
set_option linter.unusedSimpArgs false
set_option linter.unusedVariables false
set_option maxHeartbeats 16000000
set_option maxRecDepth 100000
namespace Go.Abs
open Go Go.RowKit
theorem C0{w:World}{D:aM}{E:aW} : ∀ (l:List cP) (xs ys:List I) (cs ds:List Value),l.all xn=true→iU l xs ys=some true→aI w D E xs cs→aI w D E ys ds→xs=ys∧cs=ds∧∀ v∈cs,∃ k n,v=.int k n
 | [],xs,ys,cs,ds,_,h,hx,hy=>by
  simp only[iU] at h;split at h
  ·simp only[aI] at hx hy;subst hx hy;exact ⟨rfl,rfl,fun v hv=>by simp at hv⟩
  ·cases h
 |t::ts,xs,ys,cs,ds,ha,h,hx,hy=>by
  simp only[List.all_cons,zz2] at ha;simp only[iU] at h;split at h
  case h_2=>cases h
  rename_i f fs g gs;unfold iu at h;split at h
  case h_2=>cases h
  rename_i a b h1 h2;simp only[u8,zz2] at h;obtain ⟨rfl,rfl⟩:=h;simp only[aI] at hx hy;obtain ⟨c1,c2,rfl,p1,p2⟩:=hx;obtain ⟨d1,d2,rfl,q1,q2⟩:=hy;obtain ⟨rfl,rfl,k3⟩:=C0 ts fs gs c2 d2 ha.2 h2 p2 q2;cases t with
  |i k =>
   simp only[cq] at h1;split at h1
   case h_2=>cases h1
   rename_i k1 a k2 b;split at h1
   case isFalse=>cases h1
   rename_i hk;simp only[u8,beq_iff_eq] at h1;subst h1;obtain ⟨rfl,rfl⟩:=hk;simp only[ah] at p1 q1;obtain ⟨rfl,_⟩:=p1;obtain ⟨rfl,_⟩:=q1;refine ⟨rfl,rfl,fun v hv =>?_⟩;rcases zy1.1 hv with hv | hv
   ·simp at hv;exact ⟨_,_,hv⟩
   ·exact k3 v hv
  |b | s | bl _ | kG _ _=>simp[xn] at ha
theorem NJ:∀ (cs:List Value) (n:Nat),(∀ v∈cs,∃ k m,v=.int k m)→((cs.zip cs).all fun (x,y)=>Instr.sameBits n x y)=true
 | [],_,_=>rfl
 |v::cs,n,h=>by
  obtain ⟨k,m,rfl⟩:=h v (by simp);simp only[List.zip_cons_cons,List.all_cons,zz2];exact ⟨by cases n <;>simp[Instr.sameBits],NJ cs n fun v hv=>h v (by simp[hv])⟩
theorem agE{P:Program}{t:TypeId}{ty:cP}{w:World}{D:aM}{E:aW}{x y:I}{u v:Value}(hk:lP P t=some ty)(h:cq ty x y=some true)(hx:aV w D E x u)(hy:aV w D E y v):x=y∧u=v∧Instr.sameBits 10000 u v=true:=by
 unfold lP at hk;split at hk
 ·rename_i k hu;simp only[u8] at hk;subst hk;simp only[cq] at h;split at h
  case h_2=>cases h
  split at h
  case isFalse=>cases h
  rename_i hk;simp only[u8,beq_iff_eq] at h;subst h;obtain ⟨rfl,rfl⟩:=hk;rw[(fu hx).1,(fu hy).1];exact ⟨rfl,rfl,by simp[Instr.sameBits]⟩
 ·rename_i fs hu;split at hk
  case h_2=>cases hk
  rename_i l hl;split at hk
  case isFalse=>cases hk
  rename_i hc;simp only[u8] at hk;subst hk;simp only[cq] at h;split at h
  case h_2=>cases h
  rename_i xs ys;obtain ⟨cs,rfl,hc1⟩:=jI hx;obtain ⟨ds,rfl,hd1⟩:=jI hy;obtain ⟨rfl,rfl,h3⟩:=C0 l xs ys cs ds hc.1 h hc1 hd1;refine ⟨rfl,rfl,?_⟩;simp only[Instr.sameBits,beq_self_eq_true,Bool.true_and];exact NJ cs _ h3
 ·cases hk
section
variable {P:Program} {w:World} {D:aM} {E:aW}
theorem Cq{t:TypeId}{ty:cP}{em:Bool}{x y:I}{v:Value}{r:Bool}(hk:lP P t=some ty)(hx:aV w D E x v)(h:cq ty x y=some r)(n:Nat):(Instr.checkKey em (n+2) t v).run P w=.ok () w:=by
 unfold lP at hk;split at hk
 ·rename_i k hu;simp only[u8] at hk;subst hk;simp only[cq] at h;split at h
  case h_2=>cases h
  rename_i k1 a k2 b;split at h
  case isFalse=>cases h
  rename_i hq;rw[(fu hx).1,hq.1];exact MapKept.run_checkKey hu (by simp[MapKept.IsKey]) em (n+1)
 ·rename_i fs hu;split at hk
  case h_2=>cases hk
  rename_i l hl;split at hk
  case isFalse=>cases hk
  rename_i hc;simp only[u8] at hk;subst hk;simp only[cq] at h;split at h
  case h_2=>cases h
  rename_i xs ys;obtain ⟨cs,rfl,hc1⟩:=jI hx;obtain ⟨d,hd⟩:∃ d,d=11:=⟨_,rfl⟩
  rw[show (12:Nat)=d+1 from by omega] at hl;simp only[gE,hu] at hl;split at hl
  case isFalse=>cases hl
  rename_i hc2;simp only[zz0,cP.bl.injEq] at hl;obtain ⟨l',hl,rfl⟩:=hl;rw[show n+2=(n+1)+1 from rfl,Instr.checkKey];simp only[Sem.run_bind,run_underlying hu,Result.andThen_ok];rw[←Array.forIn_toList];have key:∀ (aC:List Field) (l:List cP) (xs ys:List I) (r:Bool) (c1 c2:List Value),
    (aC.mapM fun f=>match gE P d f.type with
     |some ty=>if ty.size=P.cellsOf f.type then some ty else none
     | none => none) = some l → (∀ f ∈ aC, f.name ≠ "_" ∧ qZ (P.underlying f.type) = true) → p5 P c1.length aC = true → aI w D E xs c2 → iU l xs ys = some r → c1 ++ c2 = cs →
    Sem.run P (forIn aC PUnit.unit (fun (f : Field) (_ : PUnit) => (if f.name ≠ "_" then (do
     let x ←part f.type cs.toArray f.offset
     Instr.checkKey em (n+1) f.type x
     pure (ForInStep.yield PUnit.unit)) else pure (ForInStep.yield PUnit.unit):Sem (ForInStep PUnit)))) w=.ok PUnit.unit w:=by
   intro aC
   induction aC with
   |nil=>intros;simp
   |cons f aC ih =>
    intro l xs ys r c1 c2 hm hn ho hx h htot;simp only[List.mapM_cons,Option.bind_eq_bind,Option.pure_def,Option.bind_eq_some_iff,u8] at hm;obtain ⟨ty,hty,tys,htys,rfl⟩:=hm;split at hty
    case h_2=>cases hty
    rename_i ty' hd';split at hty
    case isFalse=>cases hty
    rename_i hsz;simp only[u8] at hty;subst hty;simp only[iU] at h;split at h
    case h_2=>cases h
    rename_i x xs y ys;unfold iu at h;split at h
    case h_2=>cases h
    rename_i ra rb h1 h2;simp only[aI] at hx;obtain ⟨e1,e2,rfl,k1,k2⟩:=hx;obtain ⟨s,q1,q2,q3⟩:=vz hd' hsz h1;obtain ⟨u,p1,p2⟩:=oO (P:=P) (w:=w) (c1:=c1) (c3:=e2) q1 q2 k1;simp only[p5,zz2,beq_iff_eq] at ho;have hsx:=pB ty' x y ra h1;have hle:e1.length=P.cellsOf f.type:=by rw[ah.length _ _ k1,hsx.1,hsz]
    have ih':=ih tys xs ys rb (c1++e1) e2 htys (fun g hg=>hn g (by simp[hg])) (by simp only[zz5,hle];exact ho.2) k2 h2 (by rw[←htot];simp);rw[zz3,htot,←ho.1] at p1;obtain ⟨hnm,hint⟩:=hn f (by simp);have hck:(Instr.checkKey em (n+1) f.type u).run P w=.ok () w:=by
     cases hu:P.underlying f.type with
     |none=>simp[hu,qZ] at hint
     |some dd =>
      cases dd <;>simp[hu,qZ] at hint
      rename_i q;have hti:ty'=.i q:=by
       rw[show d=10+1 from by omega] at hd';unfold gE at hd';simp only[hu,u8] at hd';exact hd'.symm
      subst hti;simp only[cq] at h1;split at h1
      case h_2=>cases h1
      split at h1
      case isFalse=>cases h1
      rename_i hq;rw[(fu p2).1,hq.1];exact MapKept.run_checkKey hu (by simp[MapKept.IsKey]) em n
    simp only[List.forIn_cons,Sem.run_bind,hnm,ne_eq,not_false_eq_true,if_true,p1,Result.andThen_ok,hck,Sem.run_pure];exact ih'
  rw[key fs.toList l' xs ys r [] cs hl (fun f hf=>⟨by simpa using zy8.1 hc2.2.1 f hf,Array.all_eq_true_iff_forall_mem.1 hc.2 f (Array.mem_toList_iff.1 hf)⟩) hc2.2.2 hc1 h rfl];simp
 ·cases hk
theorem yM{x:I}{xs:List I}{vs:List Value}(h:aG w D E (x::xs) vs):∃ v rest,vs=v::rest∧aV w D E x v∧aG w D E xs rest:=by
 simp only[aG] at h;obtain ⟨v,rest,cs,rfl,h1,h2,h3⟩:=h;exact ⟨v,rest,rfl,mG h1 h2,h3⟩
def pb(r:Option Nat)(es:List MapEntry)(i:Nat)(q:Option (Nat×Value)):Prop :=
 (r=none∧q=none)∨∃ j e,r=some (i+j)∧es[j]?=some e∧q=some (i+j,e.val)
theorem pb.step{r:Option Nat}{es:List MapEntry}{e:MapEntry}{i:Nat}{q:Option (Nat×Value)}(h:pb r es (i+1) q):pb r (e::es) i q:=by
 rcases h with h | ⟨j,e',h1,h2,h3⟩
 ·exact .inl h
 ·exact .inr ⟨j+1,e',by rw[h1];congr 1;omega,by simpa using h2,by rw[h3];congr 2;omega⟩
theorem Dl{q:IntKind}{k:I}{v:Value}(hv:aV w D E k v):∀ (ks:List I) (es:List MapEntry) (i:Nat) (r:Option Nat),aG w D E ks (es.map (·.key))→e8 (.i q) k ks i=some r →
  ∃ x,Instr.findNow (.int q) v es i=some x∧pb r es i x
 | [],es,i,r,hk,h=>by
  simp only[e8,u8] at h;simp only[aG,List.map_eq_nil_iff] at hk;subst h hk;exact ⟨none,rfl,.inl ⟨rfl,rfl⟩⟩
 |x::ks,es,i,r,hk,h=>by
  obtain ⟨u,rest,e1,hu,hr⟩:=yM hk;cases es with
  |nil=>cases e1
  |cons e es =>
   simp only[zz9,List.cons.injEq] at e1;obtain ⟨rfl,rfl⟩:=e1;simp only[e8] at h;have same:∀ b,cq (.i q) k x=some b→Instr.sameNow (.int q) v e.key=some b:=fun b hb=>by
    simp only[cq] at hb;split at hb
    case h_2=>cases hb
    split at hb
    case isFalse=>cases hb
    rename_i hq;simp only[u8] at hb;subst hb;rw[(fu hv).1,(fu hu).1];simp[Instr.sameNow,hq.1,hq.2]
   split at h
   ·rename_i hb;simp only[u8] at h;subst h;exact ⟨some (i,e.val),by simp[Instr.findNow,same _ hb],.inr ⟨0,e,rfl,rfl,rfl⟩⟩
   ·rename_i hb;obtain ⟨y,h1,h2⟩:=Dl hv ks es (i+1) r hr h;exact ⟨y,by simp[Instr.findNow,same _ hb,h1],h2.step⟩
   ·cases h
theorem Di{t:TypeId}{ty:cP}(hty:gE P 12 t=some ty){k:I}{v:Value}(hv:aV w D E k v):∀ (ks:List I) (es:List MapEntry) (i:Nat) (r:Option Nat),aG w D E ks (es.map (·.key))→e8 ty k ks i=some r →
  ∃ x,(Instr.findAsking t v es i).run P w=.ok x w∧pb r es i x
 | [],es,i,r,hk,h=>by
  simp only[e8,u8] at h;simp only[aG,List.map_eq_nil_iff] at hk;subst h hk;exact ⟨none,rfl,.inl ⟨rfl,rfl⟩⟩
 |x::ks,es,i,r,hk,h=>by
  obtain ⟨u,rest,e1,hu,hr⟩:=yM hk;cases es with
  |nil=>cases e1
  |cons e es =>
   simp only[zz9,List.cons.injEq] at e1;obtain ⟨rfl,rfl⟩:=e1;simp only[e8] at h;have same:∀ b,cq ty k x=some b→(Op.equal t v e.key).run P w=.ok b w:=fun b hb=>sI 12 t ty hty k x v e.key b hv hu hb _ (by simp[Op.maxDepth]);split at h
   ·rename_i hb;simp only[u8] at h;subst h;exact ⟨some (i,e.val),by simp[Instr.findAsking,same _ hb],.inr ⟨0,e,rfl,rfl,rfl⟩⟩
   ·rename_i hb;obtain ⟨y,h1,h2⟩:=Di hty hv ks es (i+1) r hr h;exact ⟨y,by simp[Instr.findAsking,same _ hb,h1],h2.step⟩
   ·cases h
theorem sL{t:TypeId}{ty:cP}(hk:lP P t=some ty){k:I}{v:Value}(hv:aV w D E k v){ks:List I}{es:List MapEntry}{r:Option Nat}(hks:aG w D E ks (es.map (·.key)))(h:e8 ty k ks 0=some r) :
  ∃ x,(Instr.findKey t v es).run P w=.ok x w∧pb r es 0 x:=by
 have hk0:=hk;unfold lP at hk;split at hk
 ·rename_i q hu;simp only[u8] at hk;subst hk;obtain ⟨x,h1,h2⟩:=Dl hv ks es 0 r hks h;exact ⟨x,by simp[Instr.findKey,run_underlying hu,h1],h2⟩
 ·rename_i fs hu;split at hk
  case h_2=>cases hk
  rename_i l hl;split at hk
  case isFalse=>cases hk
  simp only[u8] at hk;subst hk;cases es with
  |nil =>
   cases ks with
   |nil =>
    simp only[e8,u8] at h;subst h;exact ⟨none,by simp[Instr.findKey,run_underlying hu,Instr.findNow],.inl ⟨rfl,rfl⟩⟩
   |cons x xs=>simp[aG] at hks
  |cons e es =>
   obtain ⟨x,h1,h2⟩:=Di hl hv ks (e::es) 0 r hks h;exact ⟨x,by simp[Instr.findKey,run_underlying hu,Instr.findNow,Instr.sameNow,h1],h2⟩
 ·cases hk
theorem mS:∀ {xs:List I} {vs:List Value} {j:Nat} {v:Value},aG w D E xs vs→vs[j]?=some v→∃ x,xs[j]?=some x∧aV w D E x v
 | [],vs,j,v,h,hj=>by simp only[aG] at h;subst h;simp at hj
 |x::xs,vs,j,v,h,hj=>by
  obtain ⟨u,rest,rfl,h1,h2⟩:=yM h;cases j with
  |zero=>simp only[List.getElem?_cons_zero,u8] at hj;subst hj;exact ⟨x,rfl,h1⟩
  |succ j=>exact mS (xs:=xs) h2 (by simpa using hj)
end
section
variable {c:cS} {A:ae} {o:Oper} {x:I}
theorem ag8{a:Act}{w:World}{D:aM}{E:aW}(hs:aS c A a w D E){m:I}{v:Value}{ks vs:List I}(hv:aV w D E m v)(hm:gu A m=some (ks,vs)) :
  (v=.map none∧ks=[]∧vs=[])∨∃ b es clock,v=.map (some b)∧w.heap[b]?=some (.map es clock)∧aG w D E ks (es.toList.map (·.key))∧aG w D E vs (es.toList.map (·.val)):=by
 unfold gu at hm;split at hm
 ·simp only[u8,Prod.mk.injEq] at hm;obtain ⟨rfl,rfl⟩:=hm;obtain ⟨cs,q1,q2⟩:=hv;simp only[ah] at q2;obtain ⟨b,es,ck,q3,q4,q5,q6⟩:=q2;exact .inr ⟨b,es,ck,by simpa[bD,I.isAgg,q3] using q1.symm,q4.1,q5,q6⟩
 ·rename_i n;split at hm
  case h_2=>cases hm
  rename_i ks' vs' hn;simp only[u8,Prod.mk.injEq] at hm;obtain ⟨rfl,rfl⟩:=hm;obtain ⟨cs,q1,q2⟩:=hv;simp only[ah] at q2;obtain ⟨b,q3,q4⟩:=q2;obtain ⟨b',es,ck,k1,k2,k3,k4,k5,k6,k7⟩:=hs.map hn;rw[k1] at q3;cases q3;exact .inr ⟨_,es,ck,by simpa[bD,I.isAgg,q4] using q1.symm,k3,k5,k6⟩
 ·simp only[u8,Prod.mk.injEq] at hm;obtain ⟨rfl,rfl⟩:=hm;obtain ⟨cs,q1,q2⟩:=hv;simp only[ah] at q2;exact .inl ⟨by simpa[bD,I.isAgg,q2.1] using q1.symm,rfl,rfl⟩
 ·cases hm
theorem o7{w:World}{D:aM}{E:aW}{y:I}{v:Value}(hv:y.b8=true)(h:aV w D E y v):∃ cs,bD y v cs∧ah w D E y cs:=by
 cases y <;>simp[I.b8] at hv <;>exact h
theorem qe{w:World}{D:aM}{E:aW} : ∀ {xs:List I} {vs:List Value} {j:Nat} {x:I},aG w D E xs vs→xs[j]?=some x→x.b8=true
 | [],_,j,x,_,h=>by simp at h
 |y::ys,vs,j,x,hr,h=>by
  simp only[aG] at hr;obtain ⟨v,rest,cs,rfl,h1,h2,h3⟩:=hr;cases j with
  |zero =>
   simp only[List.getElem?_cons_zero,u8] at h;subst h;cases y <;>simp only[ah] at h2 <;>rfl
  |succ j=>exact qe (xs:=ys) h3 (by simpa using h)
theorem akO{x:I}{cs r:List Value}(h:mZ x cs=some r):x.b8=true:=by
 cases x <;>first | rfl | (cases cs <;>simp[mZ] at h)
theorem akP{P:Program}{t:TypeId}{z:I}(hz:fY P t=some z)(hp:uD P t z=true):∃ zv,(∀ w,(zeroValue t).run P w=.ok zv w)∧z.b8=true∧∀ w D E,aV w D E z zv:=by
 have hz0:=hz;obtain ⟨i,zv,hi,hzz,hzr⟩:=l7 hz;have hv:z.b8=true:=by
  unfold fY at hz;split at hz
  ·split at hz
   ·rename_i hk;simp only[u8] at hz;subst hz;exact akO hk
   ·cases hz
  ·cases hz
 refine ⟨zv,fun w=>by simp[zeroValue,typeInfo,hi,hzz],hv,fun w D E =>?_⟩;have h1:=hzr w D E;simp only[uD,hi,Option.bind_some,hzz] at hp;refine mG (cs:=zv.cells.toList) ?_ h1;cases zv <;>simp only[bD] at hp ⊢ <;>first
  |(rw[if_pos hp];simp[Value.cells])
  |(have hp':z.isAgg=false:=by simpa using hp
    rw[hp'];simp[Value.cells])
theorem af6{t kt et:TypeId}{m k:Operand}{m' k':aJ}{ok:Bool}{ty:cP}{z v:I}{ks vs:List I}{there:Bool}(ho:o.op=.lookup t m k ok)(hu:c.P.underlying t=some (.map kt et))(hk:lP c.P kt=some ty)(hz:fY c.P et=some z)(hzp:uD c.P et z=true)
  (hm:bB c.P 0 m=some m') (hk':bB c.P 0 k=some k') (hmm:gu A (af A m')=some (ks,vs)) (hl:gq ty z (af A k') ks vs=some (v,there)):dR c A o (if ok then .tuple [v,.bool there] else v) :=
 .same fun a w D E hs=>by
  have h1:=cj hs hm;have h2:=cj hs hk';obtain ⟨zv,hzrun,hzv,hzrv⟩:=akP hz hzp;unfold gq at hl;split at hl
  case isFalse=>cases hl
  rename_i hkk;obtain ⟨rk,hrk⟩:=zw0.1 hkk;have hchk:=fun em=>Cq (P:=c.P) (w:=w) (em:=em) hk h2 hrk 9998;have a7:∀ u there,v.b8=true→aV w D E v u→aV w D E (if ok then .tuple [v,.bool there] else v) (if ok then Value.tuple #[u,.bool there] else u):=fun u there hval hu'=>by
   cases ok
   ·exact hu'
   ·obtain ⟨cs,q1,q2⟩:=o7 hval hu';simp only[if_true,aV,aG];exact ⟨[u,.bool there],rfl,u,[.bool there],cs,rfl,q1,q2,.bool there,[],[.bool there],rfl,by simp[bD,I.isAgg],by simp[ah],rfl⟩
  have main:∀ (es:Array MapEntry),aG w D E ks (es.toList.map (·.key))→aG w D E vs (es.toList.map (·.val))→∃ u,v.b8=true∧aV w D E v u ∧
    ((∃ i,(Instr.findKey kt (a.eval k) es.toList).run c.P w=.ok (some (i,u)) w∧there=true)∨((Instr.findKey kt (a.eval k) es.toList).run c.P w=.ok none w∧u=zv∧there=false)):=fun es hks hvs=>by
   split at hl
   ·rename_i i hfi;simp only[zz0,Prod.mk.injEq] at hl;obtain ⟨v',hv',rfl,rfl⟩:=hl;obtain ⟨q,q1,q2⟩:=sL hk h2 hks hfi;rcases q2 with ⟨e,_⟩ | ⟨j,e,e1,e2,rfl⟩
    ·cases e
    ·simp only[zz4,u8] at e1;subst e1;obtain ⟨x,k1,k2⟩:=mS (j:=i) (v:=e.val) hvs (by simp only[zw2,e2,zy4]);rw[hv',u8] at k1;subst k1;exact ⟨e.val,qe hvs hv',k2,.inl ⟨_,q1,rfl⟩⟩
   ·rename_i hfi;simp only[u8,Prod.mk.injEq] at hl;obtain ⟨rfl,rfl⟩:=hl;obtain ⟨q,q1,q2⟩:=sL hk h2 hks hfi;rcases q2 with ⟨_,rfl⟩ | ⟨j,e,e1,_⟩
    ·exact ⟨zv,hzv,hzrv w D E,.inr ⟨q1,rfl,rfl⟩⟩
    ·cases e1
   ·cases hl
  rcases ag8 hs h1 hmm with ⟨e1,rfl,rfl⟩ | ⟨b,es,ck,e1,e2,e3,e4⟩
  ·obtain ⟨u,hval,hu',hrun⟩:=main #[] (by simp[aG]) (by simp[aG]);refine ⟨_,?_,a7 u there hval hu'⟩;rcases hrun with ⟨i,q1,rfl⟩ | ⟨q1,rfl,rfl⟩ <;>
    simp only[execOp,ho,Instr.lookup,e1,Sem.run_bind,run_underlying hu,Result.andThen_ok,Sem.run_pure,hchk,q1,hzrun]
  ·obtain ⟨u,hval,hu',hrun⟩:=main es e3 e4;refine ⟨_,?_,a7 u there hval hu'⟩;rcases hrun with ⟨i,q1,rfl⟩ | ⟨q1,rfl,rfl⟩ <;>
    simp only[execOp,ho,Instr.lookup,e1,Sem.run_bind,run_underlying hu,Result.andThen_ok,MapKept.run_getObj_map e2,Sem.run_pure,hchk,q1,hzrun]
theorem Jo{y:Operand}{y':aJ}(ho:o.op=.nilCheck y)(hy:bB c.P 0 y=some y')(h:(∃ n p,af A y'=.ptr n p)∨∃ z,af A y'=.ref z):dR c A o (af A y') :=
 .same fun a w D E hs=>by
  have h1:=cj hs hy;rcases h with ⟨n,p,h⟩ | ⟨z,h⟩
  ·rw[h] at h1 ⊢;obtain ⟨b,aO,off,_,_,e⟩:=oP h1;exact ⟨a.eval y,by simp only[execOp,ho,e,Sem.run_pure],h1⟩
  ·rw[h] at h1 ⊢;obtain ⟨b,off,cs,e,_⟩:=qd h1;exact ⟨a.eval y,by simp only[execOp,ho,e,Sem.run_pure],h1⟩
theorem JJ{w:World}{D:aM}{E:aW}{x:I}{v:Value}{b:Bool}(h:ja x=some b)(hv:aV w D E x v):∃ ad,v=.pointer ad∧ad.isNone=b:=by
 cases x <;>simp only[ja,u8] at h <;>try (cases h;done)
 case nilp =>
  subst h;obtain ⟨cs,q1,q2⟩:=hv;simp only[ah] at q2;exact ⟨none,by simpa[bD,I.isAgg,q2] using q1.symm,rfl⟩
 case ptr n p =>
  subst h;obtain ⟨b,aO,off,_,_,e⟩:=oP hv;exact ⟨_,e,rfl⟩
 case ref z =>
  subst h;obtain ⟨b,off,cs,e,_⟩:=qd hv;exact ⟨_,e,rfl⟩
theorem agb{neg:Bool}{t yt e:TypeId}{y z:Operand}{y' z':aJ}{b1 b2:Bool}(ho:o.op=.binOp (if neg then .neq else .eql) t y z yt)(hu:c.P.underlying t=some (.pointer e))(hy:bB c.P 0 y=some y')(hz:bB c.P 0 z=some z')
  (h1:ja (af A y')=some b1) (h2:ja (af A z')=some b2) (h:b1=true∨b2=true):dR c A o (.bool (if neg then !(b1&&b2) else (b1&&b2))) :=
 .same fun a w D E hs=>by
  obtain ⟨p,e1,k1⟩:=JJ h1 (cj hs hy);obtain ⟨q,e2,k2⟩:=JJ h2 (cj hs hz);have he:∀ d,(Op.equalIn (d+1) t (.pointer p) (.pointer q)).run c.P w=.ok (b1&&b2) w:=fun d=>by
   subst k1 k2;cases p <;>cases q <;>simp at h <;>simp[Op.equalIn,run_underlying hu]
  refine ⟨.bool (if neg then !(b1&&b2) else (b1&&b2)),?_,oE _⟩;cases neg <;>simp only[execOp,ho,e1,e2,if_true,zz6,if_false,Sem.run_bind,eqGuard] <;>simp[binOp,Op.equal,Op.maxDepth,he]
end
section
variable {c:cS} {A:ae} {o:Oper} {x:I}
theorem XV{t:TypeId}{d:Nat}(ho:o.op=.makeMap t none)(hd:o.dst=some d)(hn:d<c.n)(hf:A.o d=none):iN c A o ((A.aL d (.cv [] [])).put d (.mref d)):=by
 intro a w D E hs;have h1:=hs.ahy (.inl hn) hf;have h2:=h1.put (x:=.mref d) (v:=.map (some w.heap.size)) hn ⟨_,by simp[bD,I.isAgg];rfl,by
  simp only[ah,if_true];exact ⟨w.heap.size,rfl,rfl⟩⟩
 exact ⟨w.alloc (.map #[] 0),.inl ⟨.map (some w.heap.size),by simp[execOp,ho,Instr.makeMap],D,_,by rw[hd];exact h2⟩⟩
theorem yL{w:World}{D:aM}{E:aW} : ∀ {xs ys:List I} {us vs:List Value},aG w D E xs us→aG w D E ys vs→aG w D E (xs++ys) (us++vs)
 | [],ys,us,vs,h,k=>by simp only[aG] at h;subst h;simpa using k
 |x::xs,ys,us,vs,h,k=>by
  simp only[aG,zy0] at *;obtain ⟨v,rest,cs,rfl,h1,h2,h3⟩:=h;exact ⟨v,rest++vs,cs,rfl,h1,h2,yL h3 k⟩
theorem NI{w:World}{D:aM}{E:aW} : ∀ {xs:List I} {us:List Value} {i:Nat} {y:I} {v:Value} {cs:List Value},aG w D E xs us→bD y v cs→ah w D E y cs→aG w D E (xs.set i y) (us.set i v)
 | [],us,i,y,v,cs,h,_,_=>by simp only[aG] at h;subst h;simp[aG]
 |x::xs,us,i,y,v,cs,h,k1,k2=>by
  simp only[aG] at h;obtain ⟨u,rest,ds,rfl,h1,h2,h3⟩:=h;cases i with
  |zero=>simp only[List.set_cons_zero,aG];exact ⟨v,rest,cs,rfl,k1,k2,h3⟩
  |succ i=>simp only[List.set_cons_succ,aG];exact ⟨u,_,ds,rfl,h1,h2,NI h3 k1 k2⟩
theorem NH{w:World}{D:aM}{E:aW}{y:I}{v:Value}{cs:List Value}(h1:bD y v cs)(h2:ah w D E y cs):aG w D E [y] [v]:=by
 simp only[aG];exact ⟨v,[],cs,rfl,h1,h2,rfl⟩
theorem Dk{ty:cP}{k:I} : ∀ {ks:List I} {i j:Nat},e8 ty k ks i=some (some j)→∃ x,ks[j-i]?=some x∧i≤j∧cq ty k x=some true
 | [],i,j,h=>by simp[e8] at h
 |x::xs,i,j,h=>by
  simp only[e8] at h;split at h
  ·rename_i hb;simp only[u8] at h;subst h;exact ⟨x,by simp,zz7 _,hb⟩
  ·obtain ⟨y,h1,h2,h3⟩:=Dk h;refine ⟨y,?_,by omega,h3⟩;rw[show j-i=(j-(i+1))+1 from by omega];simpa using h1
  ·cases h
theorem CK{t kt et:TypeId}{m k v:Operand}{m' k' v':aJ}{ty:cP}{n:Nat}{ks vs ks' vs':List I}(ho:o.op=.mapUpdate t m k v∨o.op=.insert t m k v)(hu:c.P.underlying t=some (.map kt et))(hk:lP c.P kt=some ty)
  (hm:bB c.P 0 m=some m') (hk':bB c.P 0 k=some k') (hv':bB c.P et v=some v') (hmm:af A m'=.mref n) (hn:A.o n=some (.cv ks vs)) (hl:gh ty (af A k') (af A v') ks vs=some (ks',vs')) (hd:o.dst=none) :
  iN c A o (A.aL n (.cv ks' vs')):=by
 intro a w D E hs;have h1:=cj hs hm;have h2:=cj hs hk';have h3:=cj hs hv';rw[hmm] at h1;unfold gh at hl;split at hl
 case isFalse=>cases hl
 rename_i hc;obtain ⟨hkk,hkv,hvv⟩:=hc;obtain ⟨rk,hrk⟩:=zw0.1 hkk;have hchk:=fun em=>Cq (P:=c.P) (w:=w) (em:=em) hk h2 hrk 9998;obtain ⟨kcs,kp1,kp2⟩:=o7 hkv h2;obtain ⟨vcs,vp1,vp2⟩:=o7 hvv h3;obtain ⟨b,es,ck,k1,k2,k3,k4,k5,k6,k7⟩:=hs.map hn;have hmv:a.eval m=.map (some b):=by
  obtain ⟨cs,q1,q2⟩:=h1;simp only[ah] at q2;obtain ⟨b',q3,q4⟩:=q2;rw[k1] at q3;cases q3;simpa[bD,I.isAgg,q4] using q1.symm
 -- the new entries
 have step:∀ (es':Array MapEntry) (ck':Nat),(Instr.mapUpdate t (.map (some b)) (a.eval k) (a.eval v)).run c.P w=.ok () (w.putObj b (.map es' ck'))→ql es' ck'→aG w D E ks' (es'.toList.map (·.key))→aG w D E vs' (es'.toList.map (·.val)) →
   ∃ w',((∃ u,(execOp a.eval o).run c.P w=.ok (.value u) w'∧cw c (A.aL n (.cv ks' vs')) (a.put o.dst u) w')∨((execOp a.eval o).run c.P w=.ok .skip w'∧cw c (A.aL n (.cv ks' vs')) (a.put o.dst undef) w')):=fun es' ck' hrun hst hks hvs=>by
  refine ⟨w.putObj b (.map es' ck'),.inr ⟨?_,?_⟩⟩
  ·rcases ho with ho | ho <;>simp only[execOp,ho,hmv,Sem.run_bind,hrun,Result.andThen_ok,Sem.run_pure]
  ·rw[hd];have:=hs.NN (o':=.map es' ck') (x:=.cv ks' vs') k1 rfl rfl k3 rfl (fun q=>by simp) k2 (fun hl' hh hno=>⟨b,es',ck',k1,k2,hh,hst,aG.bI hl' _ _ hks,aG.bI hl' _ _ hvs,hno⟩);exact ⟨D,E,this⟩
 split at hl
 ·rename_i i hfi;simp only[u8,Prod.mk.injEq] at hl;obtain ⟨rfl,rfl⟩:=hl;obtain ⟨q,q1,q2⟩:=sL hk h2 k5 hfi;rcases q2 with ⟨e,_⟩ | ⟨j,e,e1,e2,rfl⟩
  ·cases e
  simp only[zz4,u8] at e1;subst e1;obtain ⟨y,y1,_,y2⟩:=Dk hfi;simp only[Nat.sub_zero] at y1;obtain ⟨y',y3,y4⟩:=mS (j:=i) (v:=e.key) k5 (by simp only[zw2,e2,zy4]);rw[y1,u8] at y3;subst y3;obtain ⟨_,kk2,kk3⟩:=agE hk y2 h2 y4;have hes:es[i]?=some e:=by rw[←zv3];exact e2
  have hlen:i<es.size:=(zx9.1 hes).1;refine step (es.modify i fun e => { e with key:=a.eval k,val:=a.eval v }) ck ?_ ?_ ?_ ?_
  ·have hsb:Instr.sameBits 10000 (((es[i]?).map (·.key)).getD (a.eval k)) (a.eval k)=true:=by
    rw[hes];simp only[zy4,Option.getD_some];rw[←kk2];rw[←kk2] at kk3;exact kk3
   simp only[Instr.mapUpdate,Sem.run_bind,run_underlying hu,Result.andThen_ok,MapKept.run_getObj_map k3,hchk,q1,zz4,Instr.keyThatStays,hsb,if_true,Sem.run_pure,MapKept.run_setObj_map _ k3];rfl
  all_goals
   have em:(es.modify i fun e => { e with key:=a.eval k,val:=a.eval v }).toList=es.toList.set i { e with key:=a.eval k,val:=a.eval v } :=by
    rw[Array.toList_modify];apply List.ext_getElem?;intro j;rw[List.getElem?_modify,List.getElem?_set];by_cases hij:i=j
    ·subst hij;have hge:es[i]'hlen=e:=(zx9.1 hes).2;simp[hlen,hge]
    ·simp[hij]
  ·refine ⟨fun x hx =>?_,?_⟩
   ·rw[em] at hx;rcases List.mem_or_eq_of_mem_set hx with hx | rfl
    ·exact k4.1 x hx
    ·exact k4.1 e (List.mem_of_getElem? e2)
   ·rw[em];have:(es.toList.set i { e with key:=a.eval k,val:=a.eval v }).map (·.born)=es.toList.map (·.born):=by
     rw[List.map_set];apply List.ext_getElem?;intro j;rw[List.getElem?_set];split
     ·rename_i hij;subst hij;simp[e2];exact hlen
     ·rfl
    rw[this];exact k4.2
  ·rw[em,List.map_set];have:(es.toList.map (·.key)).set i (a.eval k)=es.toList.map (·.key):=by
    apply List.ext_getElem?;intro j;rw[List.getElem?_set];split
    ·rename_i hij;subst hij;simp[e2,kk2];exact hlen
    ·rfl
   simp only[this];exact k5
  ·rw[em,List.map_set];exact NI k6 vp1 vp2
 ·rename_i hfi;simp only[u8,Prod.mk.injEq] at hl;obtain ⟨rfl,rfl⟩:=hl;obtain ⟨q,q1,q2⟩:=sL hk h2 k5 hfi;rcases q2 with ⟨_,rfl⟩ | ⟨j,e,e1,_⟩
  case inr=>cases e1
  refine step (es.push { key:=a.eval k,val:=a.eval v,born:=ck }) (ck+1) ?_ ⟨fun x hx =>?_,?_⟩ ?_ ?_
  ·simp only[Instr.mapUpdate,Sem.run_bind,run_underlying hu,Result.andThen_ok,MapKept.run_getObj_map k3,hchk,q1,MapKept.run_setObj_map _ k3];rfl
  ·simp only[Array.toList_push,zy1,zw5] at hx;rcases hx with hx | rfl
   ·have:=k4.1 x hx;omega
   ·simp
  ·simp only[Array.toList_push,zx6,zz9,zx1];refine List.nodup_append.2 ⟨k4.2,by simp,fun x hx y hy =>?_⟩;simp only[zw5] at hy;subst hy;obtain ⟨e,he,rfl⟩:=zx4.1 hx;exact Nat.ne_of_lt (k4.1 e he)
  ·simp only[Array.toList_push,zx6,zz9,zx1];exact yL k5 (NH kp1 kp2)
  ·simp only[Array.toList_push,zx6,zz9,zx1];exact yL k6 (NH vp1 vp2)
 ·cases hl
theorem XX{t kt et:TypeId}{y:Operand}{y':aJ}{ks vs:List I}{d:Nat}(ho:o.op=.range t y)(hu:c.P.underlying t=some (.map kt et))(hy:bB c.P 0 y=some y')(h:af A y'=.cI ks vs)(hd:o.dst=some d)(hn:d<c.n)(hf:A.o d=none) :
  iN c A o ((A.aL d (.it ks vs (List.range ks.length) none)).put d (.dv d)):=by
 intro a w D E hs;have h1:=cj hs hy;rw[h] at h1;obtain ⟨cs,q1,q2⟩:=h1;simp only[ah] at q2;obtain ⟨b,es,ck,q3,q4,q5,q6⟩:=q2;have hv:a.eval y=.map (some b):=by simpa[bD,I.isAgg,q3] using q1.symm
 have h2:=hs.ahx (.inl hn) hf q4 q5 q6;have h3:=h2.put (x:=.dv d) (v:=.pointer (some ⟨w.heap.size,0,none⟩)) hn ⟨_,by simp[bD,I.isAgg];rfl,by
  simp only[ah,if_true];exact ⟨w.heap.size,rfl,rfl⟩⟩
 refine ⟨w.alloc (.mapIter (some b) ck #[] ck),.inl ⟨.pointer (some ⟨w.heap.size,0,none⟩),?_,D,_,by rw[hd];exact h3⟩⟩;simp only[execOp,ho,hv,Sem.run_bind,run_range_map w t kt et b es ck hu q4.1,Result.andThen_ok,Sem.run_pure]
theorem JU{es:Array MapEntry}{cm:Array Nat}{i:Nat} : i∈ov es cm↔∃ e,es[i]?=some e∧cm.contains e.born=false:=by
 unfold ov;simp only[zw9,zx5];constructor
 ·rintro ⟨h1,h2⟩;rw[Array.getElem?_eq_getElem h1] at h2 ⊢;exact ⟨_,rfl,by simpa using h2⟩
 ·rintro ⟨e,h1,h2⟩;exact ⟨(zx9.1 h1).1,by rw[h1];simpa using h2⟩
theorem ake{es:Array MapEntry}{ck:Nat}(hst:ql es ck){i j:Nat}{e f:MapEntry}(hi:es[i]?=some e)(hj:es[j]?=some f)(h:e.born=f.born):i=j:=by
 have hn:=hst.2;rw[←zv3] at hi hj;have h1:(es.toList.map (·.born))[i]?=some e.born:=by rw[zw2,hi];rfl
 have h2:(es.toList.map (·.born))[j]?=some e.born:=by rw[zw2,hj,h];rfl
 have hil:i<(es.toList.map (·.born)).length:=(zy5.1 h1).1;have hjl:j<(es.toList.map (·.born)).length:=(zy5.1 h2).1;exact (List.getElem?_inj hil hn).1 (h1.trans h2.symm)
theorem agU{es:Array MapEntry}{cm:Array Nat}{ck i:Nat}{e:MapEntry}(hst:ql es ck)(hi:es[i]?=some e):ov es (cm.push e.born)=(ov es cm).filter (· != i):=by
 unfold ov;rw[List.filter_filter];refine List.filter_congr fun j hj =>?_;have hjl:j<es.size:=by simpa using hj
 rw[Array.getElem?_eq_getElem hjl];simp only[Array.contains_push];by_cases hij:j=i
 ·subst hij;rw[Array.getElem?_eq_getElem hjl,u8] at hi;simp[hi]
 ·have:(es[j].born==e.born)=false:=by
   simp only[beq_eq_false_iff_ne,ne_eq];exact fun h=>hij (ake hst (Array.getElem?_eq_getElem hjl) hi h)
  have h2:(j != i)=true:=by simpa using hij
  simp[this,h2]
theorem ahz{y:Operand}{y':aJ}{ks vs:List I}{left:List Nat}{cur:Option Nat}{n:Nat}(ho:o.op=.next y false)(hy:bB c.P 0 y=some y')(h:af A y'=.dv n)(hn:A.o n=some (.it ks vs left cur))(hdn:∀ k,o.dst=some k→k<c.n){a:Act}{w:World}{D:aM}{E:aW}(hs:aS c A a w D E) :
  ∃ w' v,(execOp a.eval o).run c.P w=.ok (.value v) w'∧((left=[]∧cw c (A.aN o.dst (.tuple [.bool false])) (a.put o.dst v) w') ∨
   ∃ i k x,i∈left∧ks[i]?=some k∧vs[i]?=some x∧cw c ((A.aL n (.it ks vs (left.filter (· != i)) (some i))).aN o.dst (.tuple [.bool true,k,x])) (a.put o.dst v) w'):=by
 have h1:=cj hs hy;rw[h] at h1;obtain ⟨cs,q1,q2⟩:=h1;simp only[ah] at q2;obtain ⟨r,q3,q4⟩:=q2;have hv:a.eval y=.pointer (some ⟨r,0,none⟩):=by simpa[bD,I.isAgg,q4] using q1.symm
 have hob:=hs.bT n;rw[hn] at hob;obtain ⟨r',b,es,ck,since,cm,last,k1,k2,k3,k4,k5,k6,k7,k8,k9,k9',k10⟩:=hob;rw[k1] at q3;cases q3;rcases run_next_at (P:=c.P) w o.type r b since last cm es ck k3 k4.1 k7 k8.1 with ⟨h0,hrun⟩ | ⟨e,he,w1,hal,hrun⟩
 ·refine ⟨w,.tuple #[.bool false],by simp only[execOp,ho,hv,Sem.run_bind,hrun,Result.andThen_ok,Sem.run_pure],.inl ⟨?_,D,E,hs.aN hdn ?_⟩⟩
  ·rw[k9];refine List.eq_nil_iff_forall_not_mem.2 fun i hi =>?_;obtain ⟨e,h1,h2⟩:=JU.1 hi;have hm:e∈leftOf es cm:=by
    unfold leftOf;simp only[Array.mem_filter];exact ⟨Array.mem_of_getElem? h1,by simpa using h2⟩
   rw[Array.eq_empty_of_size_eq_zero h0] at hm;simp at hm
  ·simp only[aV,aG];exact ⟨[.bool false],rfl,.bool false,[],[.bool false],rfl,by simp[bD,I.isAgg],by simp[ah],rfl⟩
 ·have hmem:e∈es.toList∧cm.contains e.born=false:=by
   unfold leftOf at he;simp only[Array.toList_filter,zw9] at he;exact ⟨he.1,by simpa using he.2⟩
  obtain ⟨i,hi⟩:=List.getElem?_of_mem hmem.1;have hie:es[i]?=some e:=by rw[←zv3];exact hi
  obtain ⟨k,hk1,hk2⟩:=mS (j:=i) (v:=e.key) k5 (by simp only[zw2,hi,zy4]);obtain ⟨x,hx1,hx2⟩:=mS (j:=i) (v:=e.val) k6 (by simp only[zw2,hi,zy4]);have hsw:aS c A a w1 D E:=by
   rcases hal with rfl | rfl
   ·exact hs
   ·exact hs.grow (w':=w.drew) (D':=D) ⟨rfl,rfl,rfl,zz7 _,fun _ _=>rfl⟩ (fun _ _ h=>h) (fun _ _ h _=>h) (fun b o hd=>hs.dq b o hd)
  have hw1:w1.heap=w.heap:=by rcases hal with rfl | rfl <;>rfl
  have k3':w1.heap[r]?=some (.mapIter (some b) since cm last):=by rw[hw1];exact k3
  have hset:=hsw.NN (x:=.it ks vs (left.filter (· != i)) (some i)) (o':=.mapIter (some b) since (cm.push e.born) ck) k1 rfl rfl k3' rfl (fun q=>by simp) k2
   (fun hl hh hno=>by
    have hm:oF w1 D b es ck:=⟨by rw[hw1];exact k4.1,k4.2.1,k4.2.2⟩
    have hob:=hsw.bT n;rw[hn] at hob;refine ⟨r,b,es,ck,since,cm.push e.born,ck,k1,k2,hh,hm.bI hl,aG.bI hl _ _ ?_,aG.bI hl _ _ ?_,k7,?_,?_,fun j hj =>?_,hno⟩
    ·obtain ⟨dL,b2,es2,ck2,si2,se2,la2,g1,g2,g3,g4,g5,g6,_⟩:=hob;rw[k1] at g1;cases g1;rw[k3'] at g3;cases g3;have:=g4.1;rw[hw1,k4.1] at this;cases this;exact g5
    ·obtain ⟨dL,b2,es2,ck2,si2,se2,la2,g1,g2,g3,g4,g5,g6,_⟩:=hob;rw[k1] at g1;cases g1;rw[k3'] at g3;cases g3;have:=g4.1;rw[hw1,k4.1] at this;cases this;exact g6
    ·exact ⟨k8.2,k8.2⟩
    ·rw[k9,agU k4.2.2 hie]
    ·cases hj;exact ⟨e,hie,by simp,rfl⟩)
  have hset':aS c (A.aL n (.it ks vs (left.filter (· != i)) (some i))) a (ChangeMaps.setBlock w1 r (.mapIter (some b) since (cm.push e.born) ck)) D E:=hset;refine ⟨_,.tuple #[.bool true,e.key,e.val],by simp only[execOp,ho,hv,Sem.run_bind,hrun,Result.andThen_ok,Sem.run_pure],.inr ⟨i,k,x,?_,hk1,hx1,D,E,hset'.aN hdn ?_⟩⟩
  ·rw[k9];exact JU.2 ⟨e,hie,hmem.2⟩
  ·have hob2:=hset'.bT n;simp only[ae.aL,if_true] at hob2;obtain ⟨dL,b2,es2,ck2,si2,se2,la2,g1,g2,g3,g4,g5,g6,_⟩:=hob2;rw[k1] at g1;cases g1;have hr2:(ChangeMaps.setBlock w1 r (.mapIter (some b) since (cm.push e.born) ck)).heap[r]?=some (.mapIter (some b) since (cm.push e.born) ck):=World.putObj_heap_same (w:=w1) (fW k3');rw[hr2] at g3;cases g3;have hb2:(ChangeMaps.setBlock w1 r (.mapIter (some b) since (cm.push e.born) ck)).heap[b]?=some (.map es ck):=by
    have:b≠r:=fun e=>by rw[e] at k4;rw[k4.1] at k3;cases k3
    refine (World.putObj_heap_other (w:=w1) this).trans ?_;rw[hw1];exact k4.1
   have:=g4.1;rw[hb2] at this;cases this;obtain ⟨kk,a1,a2⟩:=mS (j:=i) (v:=e.key) g5 (by simp only[zw2,hi,zy4]);rw[hk1] at a1;cases a1;obtain ⟨xx,b1,b2⟩:=mS (j:=i) (v:=e.val) g6 (by simp only[zw2,hi,zy4]);rw[hx1] at b1;cases b1;obtain ⟨c1,c2,c3⟩:=o7 (qe k5 hk1) a2;obtain ⟨d1,d2,d3⟩:=o7 (qe k6 hx1) b2;simp only[aV,aG];exact ⟨[.bool true,e.key,e.val],rfl,.bool true,_,[.bool true],rfl,by simp[bD,I.isAgg],by simp[ah],e.key,_,c1,rfl,c2,c3,e.val,[],d1,rfl,d2,d3,rfl⟩
theorem afT{y:Operand}{y':aJ}{ks vs:List I}{left:List Nat}{i n:Nat}{k x:I}(ho:o.op=.entry y)(hy:bB c.P 0 y=some y')(h:af A y'=.dv n)(hn:A.o n=some (.it ks vs left (some i)))(hk:ks[i]?=some k)(hx:vs[i]?=some x):dR c A o (.tuple [k,x]) :=
 .same fun a w D E hs=>by
  have h1:=cj hs hy;rw[h] at h1;obtain ⟨cs,q1,q2⟩:=h1;simp only[ah] at q2;obtain ⟨r,q3,q4⟩:=q2;have hv:a.eval y=.pointer (some ⟨r,0,none⟩):=by simpa[bD,I.isAgg,q4] using q1.symm
  have hob:=hs.bT n;rw[hn] at hob;obtain ⟨r',b,es,ck,since,cm,last,k1,k2,k3,k4,k5,k6,k7,k8,k9,k9',k10⟩:=hob;rw[k1] at q3;cases q3;obtain ⟨e,e1,e2,rfl⟩:=k9' i rfl;have hi:es.toList[i]?=some e:=by rw[zv3];exact e1
  obtain ⟨kk,a1,a2⟩:=mS (j:=i) (v:=e.key) k5 (by simp only[zw2,hi,zy4]);rw[hk] at a1;cases a1;obtain ⟨xx,b1,b2⟩:=mS (j:=i) (v:=e.val) k6 (by simp only[zw2,hi,zy4]);rw[hx] at b1;cases b1;obtain ⟨c1,c2,c3⟩:=o7 (qe k5 hk) a2;obtain ⟨d1,d2,d3⟩:=o7 (qe k6 hx) b2;have hf:es.find? (·.born==e.born)=some e:=by rw[←Array.find?_toList];exact find_born e es.toList k4.2.2.2 (List.mem_of_getElem? hi)
  refine ⟨.tuple #[e.key,e.val],?_,?_⟩
  ·have hr:(Instr.entry (.pointer (some ⟨r,0,none⟩))).run c.P w=.ok (.tuple #[e.key,e.val]) w:=by
    simp only[Instr.entry,getObj,Sem.run_bind,Sem.run,k3,k4.1,Result.andThen,e2,bne_self_eq_false,zz6,if_false,hf];rfl
   simp only[execOp,ho,hv,Sem.run_bind,hr,Result.andThen_ok,Sem.run_pure]
  ·simp only[aV,aG];exact ⟨[e.key,e.val],rfl,e.key,_,c1,rfl,c2,c3,e.val,[],d1,rfl,d2,d3,rfl⟩
theorem Nf{w:World}{D:aM}{E:aW}{z:I}{v:Value}(h:ah w D E z [v]):∀ n:Nat,aI w D E (List.replicate n z) (List.replicate n v)
 |0=>by simp[aI]
 |n+1=>by simp only[List.replicate_succ,aI];exact ⟨[v],_,rfl,h,Nf h n⟩
theorem XW{t e:TypeId}{l l':Operand}{n':aJ}{z:I}{n d:Nat}{k:IntKind}(ho:o.op=.makeSlice t l l')(hll:l'=l)(hu:c.P.underlying t=some (.slice e))(hl:bB c.P 0 l=some n')(h:af A n'=.int k n)(hz:fY c.P e=some z)(hz1:z.size=1)
  (hc1:c.P.cellsOf e=1) (hby:n*c.P.bytesOf e≤281474976710656) (hmax:n≤maxLen) (hd:o.dst=some d) (hn:d<c.n) (hf:A.o d=none):iN c A o ((A.aL d (.box (.agg (List.replicate n z)))).put d (.view d [] 1 0 n)):=by
 subst hll;intro a w D E hs;have h1:=cj hs hl;rw[h] at h1;obtain ⟨e1,_⟩:=fu h1;obtain ⟨i,zv,hi,hzz,hzr⟩:=l7 hz;have hzc:=ah.length _ _ (hzr w D E);rw[hz1] at hzc;obtain ⟨u,hu1⟩:∃ u,zv.cells = #[u]:=by
  have:zv.cells.size=1:=by simpa using hzc
  obtain ⟨u,hu⟩:=Array.size_eq_one_iff.1 this;exact ⟨u,hu⟩
 have hsz:i.size=1:=by have:=hc1;simp only[Program.cellsOf,hi,zy4,Option.getD_some] at this;exact this
 have hbytes:(i.bytes:Int)*(n:Int)≤281474976710656:=by
  have:c.P.bytesOf e=i.bytes:=by simp[Program.bytesOf,hi]
  rw[this] at hby;have h2:((i.bytes*n:Nat):Int)≤281474976710656:=by rw[Nat.mul_comm] at hby;omega
  rwa [Int.natCast_mul] at h2
 have hrun:=run_make (P:=c.P) w t e i zv hu hi hzz k k n n (by omega) (Int.le_refl _) hbytes (by have h9:=hmax;unfold maxLen at h9;omega);simp only[Int.toNat_natCast,hsz,Nat.mul_one] at hrun;have hmc:(madeCells zv.cells n).toList=List.replicate n u:=by
  rw[hu1];simp only[madeCells];apply List.ext_getElem?;intro j;simp[List.getElem?_replicate];split <;>simp_all[Nat.mod_one]
 have hcells:ah w D E (.agg (List.replicate n z)) (madeCells zv.cells n).toList:=by
  rw[hmc];simp only[ah];refine Nf ?_ n;have:=hzr w D E;rw[hu1] at this;simpa using this
 have h2:=hs.rq (T:=e) (.inl hn) hf hcells;have h3:=h2.put (x:=.view d [] 1 0 n) (v:=.slice (some ⟨w.heap.size,0,none⟩) n n) hn ⟨_,by simp[bD,I.isAgg];rfl,by
  simp only[ah,if_true];refine ⟨w.heap.size,_,0,I.cX (List.replicate n z),rfl,by simp[cQ.off],by simp[I.aO,cQ.part],by simp[I.dw],by simpa[I.dw] using hmax,by simp[I.dw],fun s hs =>?_⟩;rw[I.dw] at hs;obtain ⟨y,hy,rfl⟩:=zx4.1 hs;rw[I.l4,(List.mem_replicate.1 hy).2,hz1]⟩
 refine ⟨_,.inl ⟨_,?_,D,_,by rw[hd];exact h3⟩⟩;simp only[execOp,ho,e1,Sem.run_bind,hrun,Result.andThen_ok,Sem.run_pure]
end
end Go.Abs
namespace Go.Abs
open Go Go.RowKit
mutual
/-- Values that lead to no memory. -/
def I.flat:I→Bool
 | .agg fs | .tuple fs=>I.pE fs
 | .bool _ | .int _ _ | .cY _ | .nilp | .df | .dY | .raw _ | .undef | .dp=>true
 |_=>false
def I.pE:List I→Bool
 | []=>true
 |x::xs=>x.flat&&I.pE xs
end
mutual
theorem ah.flat{w w':World}{D D':aM}{E E':aW} : ∀ (x:I) (cs:List Value),x.flat=true→ah w D E x cs→ah w' D' E' x cs
 | .agg fs,cs,hf,hr=>by simp only[ah,I.flat] at *;exact aI.flat fs cs hf hr
 | .bool b,cs,_,hr=>by simpa only[ah] using hr
 | .int k n,cs,_,hr=>by simpa only[ah] using hr
 | .cY s,cs,_,hr=>by simpa only[ah] using hr
 | .nilp,cs,_,hr=>by simpa only[ah] using hr
 | .df,cs,_,hr=>by simpa only[ah] using hr
 | .dY,cs,_,hr=>by simpa only[ah] using hr
 | .raw _,cs,_,hr=>by simpa only[ah] using hr
 | .undef,_,_,hr=>by simp only[ah] at hr
 | .dp,_,_,hr=>by simp only[ah] at hr
 | .tuple _,_,_,hr=>by simp only[ah] at hr
 | .nils _,_,hf,_ | .c0 _,_,hf,_ | .slice _ _,_,hf,_ | .ref _,_,hf,_ | .func _ _,_,hf,_ | .iface _ _,_,hf,_ | .ptr _ _,_,hf,_ | .own _ _,_,hf,_ | .view _ _ _ _ _,_,hf,_ | .mref _,_,hf,_ | .dv _,_,hf,_ | .cI _ _,_,hf,_=>by simp[I.flat] at hf
theorem aI.flat{w w':World}{D D':aM}{E E':aW} : ∀ (xs:List I) (cs:List Value),I.pE xs=true→aI w D E xs cs→aI w' D' E' xs cs
 | [],cs,_,hr=>by simpa only[aI] using hr
 |x::xs,cs,hf,hr=>by
  simp only[aI,I.pE,zz2] at *;obtain ⟨c1,c2,h1,h2,h3⟩:=hr;exact ⟨c1,c2,h1,ah.flat x c1 hf.1 h2,aI.flat xs c2 hf.2 h3⟩
end
theorem aG.flat{w w':World}{D D':aM}{E E':aW} : ∀ (xs:List I) (vs:List Value),I.pE xs=true→aG w D E xs vs→aG w' D' E' xs vs
 | [],vs,_,hr=>by simpa only[aG] using hr
 |x::xs,vs,hf,hr=>by
  simp only[aG,I.pE,zz2] at *;obtain ⟨v,rest,cs,h1,h2,h3,h4⟩:=hr;exact ⟨v,rest,cs,h1,h2,ah.flat x cs hf.1 h3,aG.flat xs rest hf.2 h4⟩
theorem aV.flat{w w':World}{D D':aM}{E E':aW}{x:I}{v:Value}(hf:x.flat=true)(hr:aV w D E x v):aV w' D' E' x v:=by
 cases x <;>simp only[aV] at * <;>first
  |exact hr
  |(obtain ⟨vs,h1,h2⟩:=hr;exact ⟨vs,h1,aG.flat _ _ (by simpa[I.flat] using hf) h2⟩)
  |(obtain ⟨cs,h1,h2⟩:=hr;exact ⟨cs,h1,ah.flat _ _ hf h2⟩)
def dM:aW:=fun _=>none
def aD(P:Program)(f:FuncId)(args:List I)(r:I):Prop :=
 gR P f=true∧∀ (w:World) (D:aM) (vs:List Value),(∀ b o,D b o→b<w.heap.size)→aG w D dM args vs →
  Calls P f vs.toArray w fun e w'=>∃ v D',e=.returned v∧aV w' D' dM r v∧Below w.heap.size w w'∧(∀ b o,D' b o→b<w'.heap.size)∧∀ b o,D' b o→b<w.heap.size→D b o
def cD(P:Program)(f:FuncId)(args:List I)(os:List (Nat×ai))(post:cT):Prop :=
 gR P f=true∧qt (Calls P f) (fun _ _ _=>True) args os post
def a8(p:Nat→Bool):List (Nat×ai)→Prop
 | []=>True
 |(_,v)::r=>v.only p=true∧a8 p r
def db(ns:List Nat)(os:List (Nat×ai)):List (Nat×ai):=os.filter fun q => !ns.contains q.1
def gF(ns:List Nat)(ts:List (Nat×I)):List (Nat×I):=ts.map fun q=>(q.1,if q.2.only (fun n => !ns.contains n) then q.2 else .dp)
def iC(ns:List Nat)(os:List (Nat×ai)):List (Nat×ai):=os.filter fun q=>ns.contains q.1
def jW(ρ:List (Nat×Nat))(os:List (Nat×ai)):List Nat:=os.map fun q=>bx ρ q.1
def jr(aA:Bool)(A0:ae)(ρ:List (Nat×Nat))(os:List (Nat×ai)):List I→List I→Prop
 | [],[]=>True
 |x::xs,c::cs=>((x=c.aK (bx ρ)∧c.only (al os)=true∧c.b8=true)∨a7 aA A0 x=some c)∧jr aA A0 ρ os xs cs
 |_,_=>False
structure az where
 dst:Option Nat
 op:b9
 guard:Option (Nat×Bool)
 deriving Inhabited
inductive cK where
 |done (A:ae)
 |fail
 |call (f:FuncId) (avs:List I) (a1 a2:Option (List I)) (dst:Option Nat) (rest:List az) (A:ae)
 |pt (v:Value) (avs:List I) (dst:Option Nat) (rest:List az) (A:ae)
 |kC (f:FuncId) (avs:List I) (dst:Option Nat) (rest:List az) (A:ae)
 |any (p:Nat→Prop) (k:Nat→cK)
def cR(x:Option I)(k:I→cK):cK:=match x with
 |some v=>k v
 |none=>.fail
def yb(s:Option Nat)(v old:I):Prop:=v.b8=true∧bY s v=true∧v.aO=old.aO
def x4(e esz bytes l sz:Nat)(ys:List I)(T sz':Nat)(es:List I):Prop:=l=es.length∧sz=esz∧T=e∧sz'=esz∧ys≠[]∧es.length+ys.length≤maxLen∧(es.length+ys.length)*bytes≤140737488355328
def qX(ys:List I):List Int:=ys.filterMap fun y=>match y with | .int .i64 i=>some i | _=>none
def x5(e esz bytes l:Nat)(ys:List I)(T:Nat)(xs:List Int)(z:I):Prop:=l=xs.length∧esz=1∧T=e∧z=.int .i64 0∧ys=(qX ys).map (.int .i64)∧ys≠[]∧xs.length+ys.length≤maxLen∧(xs.length+ys.length)*bytes≤140737488355328
def j9:I→Bool
 | .slice _ es=>es.isEmpty
 | .c0 _=>true
 |_=>false
open Classical in
noncomputable def gO(A:ae)(dst:Option Nat)(esz bytes:Nat)(z:I)(es ys:List I)(k:ae→cK):cK :=
 match dst with
 |some d=>match A.o d with
  |none=>if (es.length+ys.length)*bytes≤140737488355328∧es.length+ys.length≤maxLen then
    .any (fun m=>es.length+ys.length+m≤maxLen) (fun m=>k ((A.aL d (.box (.agg (es++(ys++List.replicate m z))))).aN dst (.view d [] esz 0 (es.length+ys.length)))) else .fail
  |some _=>.fail
 |none=>.fail
open Classical in
noncomputable def fD(A:ae)(dst:Option Nat)(esz bytes:Nat)(z:I)(s:I):Option (List I)→Option (List I)→(ae→cK)→cK
 |some es,some ys,k=>if ys=[] then k (A.aN dst s) else match s with
  | .nils _=>gO A dst esz bytes z es ys k
  | .c0 _=>gO A dst esz bytes z es ys k
  | .view n p sz lo l=>match A.o n with
   |some (.box b)=>match b.at p with
    |some (.agg fs)=>if lo+l+ys.length≤fs.length then
      (if sz=esz∧I.cX ys=I.cX ((fs.drop (lo+l)).take ys.length) then k ((A.aL n (.box (jj b p (lo+l) fs ys))).aN dst (.view n p esz lo (l+ys.length))) else .fail)
      else gO A dst esz bytes z es ys k
    |_=>.fail
   |_=>.fail
  |_=>.fail
 |_,_,_=>.fail
open Classical in
noncomputable def uX(A:ae)(dst:Option Nat)(esz bytes:Nat)(z:I)(m:Nat)(s:I):Option (List I)→(ae→cK)→cK
 |some es,k=>match s with
  | .view n p _ lo l=>match A.o n with
   |some (.box b)=>match b.at p with
    |some (.agg fs)=>if 0<m∧fs.length<lo+l+m then gO A dst esz bytes z es (List.replicate m z) k else .fail
    |_=>.fail
   |_=>.fail
  |_=>.fail
 |_,_=>.fail
open Classical in
noncomputable def nc(A:ae)(esz:Nat)(z:I)(k:ae→cK):I→cK
 | .view n p sz lo l=>match A.o n with
  |some (.box b)=>match b.at p with
   |some (.agg fs)=>if sz=esz∧I.cX (List.replicate l z)=I.cX ((fs.drop lo).take l) then k (A.aL n (.box (jj b p lo fs (List.replicate l z)))) else .fail
   |_=>.fail
  |_=>.fail
 | .nils _=>k A
 | .c0 _=>k A
 |_=>.fail
open Classical in
noncomputable def sy(A:ae)(dst:Option Nat)(esz:Nat)(k:ae→cK):I→Option (List I)→cK
 | .view n p sz lo l,some ys=>match A.o n with
  |some (.box b)=>match b.at p with
   |some (.agg fs)=>if sz=esz∧I.cX (ys.take (min ys.length l))=I.cX ((fs.drop lo).take (min ys.length l)) then k ((A.aL n (.box (jj b p lo fs (ys.take (min ys.length l))))).aN dst (.int .i64 (min ys.length l:Nat))) else .fail
   |_=>.fail
  |_=>.fail
 |_,_=>.fail
open Classical in
noncomputable def bd(A:ae)(dst:Option Nat)(op:b9)(rest:List az)(k:ae→cK):cK :=
 match op with
 | .alloc z=>match dst with
  |some d=>match A.o d with
   |none=>k ((A.aL d (.box z)).put d (.ptr d []))
   |some _=>.fail
  |none=>.fail
 | .box x=>match dst with
  |some d=>match A.o d with
   |none=>if (af A x).b8 then k ((A.aL d (.box (af A x))).put d (.ptr d [])) else .fail
   |some _=>.fail
  |none=>.fail
 | .bl s x v=>match dst with
  |none=>match af A x with
   | .ptr n p=>match A.o n with
    |some (.box b)=>match b.at p with
     |some old=>if yb s (af A v) old then k (A.aL n (.box (b.dI p (af A v)))) else .fail
     |none=>.fail
    |_=>.fail
   |_=>.fail
  |some _=>.fail
 | .dN e esz bytes z s x=>match af A s with
  | .own n l=>match af A x with
   | .slice sz ys=>match A.o n with
    |some (.bX T sz' es)=>if x4 e esz bytes l sz ys T sz' es then k ((A.aL n (.bX e esz (es++ys))).aN dst (.own n (es.length+ys.length))) else .fail
    |some (.cV T xs)=>if x5 e esz bytes l ys T xs z then k ((A.aL n (.cV e (xs++qX ys))).aN dst (.own n (xs.length+ys.length))) else .fail
    |_=>.fail
   |_=>.fail
  |s'=>fD A dst esz bytes z s' (eI A esz s') (eI A esz (af A x)) k
 | .me _ esz bytes z s n=>match af A n with
  | .int _ m=>uX A dst esz bytes z m.toNat (af A s) (eI A esz (af A s)) k
  |_=>.fail
 | .nilS neg x=>if j9 (af A x) then .any (fun m=>m<2) (fun m=>k (A.aN dst (.bool (m==0)))) else cR (br A (.nilS neg x)) fun v=>k (A.aN dst v)
 | .js esz z x=>match dst with
  |none=>nc A esz z k (af A x)
  |some _=>.fail
 | .lC esz x y=>sy A dst esz k (af A x) (eI A esz (af A y))
 | .call f args=>.call f (args.map (af A)) (bZ true A (args.map (af A))) (bZ false A (args.map (af A))) dst rest A
 | .eF x args=>match af A x with
  | .func f caps=>.call f (args.map (af A)++caps) (bZ true A (args.map (af A)++caps)) (bZ false A (args.map (af A)++caps)) dst rest A
  | .raw v=>.pt v (args.map (af A)) dst rest A
  |_=>.fail
 | .kC f args=>.kC f (args.map (af A)) dst rest A
 | .jB=>match dst with
  |some d=>match A.o d with
   |none=>k ((A.aL d (.cv [] [])).put d (.mref d))
   |some _=>.fail
  |none=>.fail
 | .kp _ bytes z n=>match dst with
  |some d=>match A.o d with
   |none=>match af A n with
    | .int _ n=>if 0≤n∧n.toNat*bytes≤281474976710656∧n.toNat≤maxLen then k ((A.aL d (.box (.agg (List.replicate n.toNat z)))).put d (.view d [] 1 0 n.toNat)) else .fail
    |_=>.fail
   |some _=>.fail
  |none=>.fail
 | .gv ty m key v=>match dst with
  |none=>match af A m with
   | .mref n=>match A.o n with
    |some (.cv ks vs)=>match gh ty (af A key) (af A v) ks vs with
     |some (ks',vs')=>k (A.aL n (.cv ks' vs'))
     |none=>.fail
    |_=>.fail
   |_=>.fail
  |some _=>.fail
 | .j4 x=>match dst with
  |some d=>match A.o d with
   |none=>match af A x with
    | .cI ks vs=>k ((A.aL d (.it ks vs (List.range ks.length) none)).put d (.dv d))
    |_=>.fail
   |some _=>.fail
  |none=>.fail
 | .iF x=>match af A x with
  | .dv n=>match A.o n with
   |some (.it ks vs left cur)=>if left=[] then k (A.aN dst (.tuple [.bool false])) else
     .any (fun i=>i∈left) fun i=>match ks[i]?,vs[i]? with
      |some kk,some x=>k ((A.aL n (.it ks vs (left.filter (· != i)) (some i))).aN dst (.tuple [.bool true,kk,x]))
      |_,_=>.fail
   |_=>.fail
  |_=>.fail
 |op=>cR (br A op) fun v=>k (A.aN dst v)
noncomputable def ay:List az→ae→cK
 | [],A=>.done A
 |g::rest,A=>match g.guard with
  |none=>bd A g.dst g.op rest (ay rest)
  |some (t,b)=>match A.t t with
   | .bool b'=>if b'=b then bd A g.dst g.op rest (ay rest) else ay rest (A.aN g.dst .undef)
   | .undef=>ay rest (A.aN g.dst .undef)
   |_=>.fail
def P1(P:Program)(A:ae)(f:FuncId)(avs:List I)(r:I):Prop :=
 ∀ (c:cS) (a:Act) (w:World) (D:aM) (E:aW) (vs:List Value),c.P=P→aS c A a w D E→fU (aV w D E) avs vs→∃ v,(callFunc f vs.toArray).run P w=.ok (.value v) w∧aV w D E r v
inductive bj (P:Program) (Y:Value→List I→List (Nat×ai)→cT→Prop) (dr:Bool) (K:ae→Prop):cK→Prop where
 |done {A:ae} : K A→bj P Y dr K (.done A)
 |flat {f:FuncId} {avs cargs:List I} {a2:Option (List I)} {dst:Option Nat} {rest:List az} {A:ae} (r:I):aD P f cargs r→r.flat=true→bj P Y dr K (ay rest (A.aN dst r))→bj P Y dr K (.call f avs (some cargs) a2 dst rest A)
 |lead {f:FuncId} {avs cargs:List I} {a1:Option (List I)} {dst:Option Nat} {rest:List az} {A:ae} (r:I):aD P f cargs r→bj P Y dr K (ay rest (A.aN dst r))→bj P Y dr K (.call f avs a1 (some cargs) dst rest A)
 |ib {f:FuncId} {avs cargs:List I} {a1 a2:Option (List I)} {dst:Option Nat} {rest:List az} {ts:List (Nat×I)} {os0:List (Nat×ai)} (ns:List Nat) (r:I):dr=false→aD P f cargs r→bZ true (au ts (iC ns os0)) avs=some cargs →
   a8 (fun n => !ns.contains n) (db ns os0)→bj P Y dr K (ay rest ((au (gF ns ts) (db ns os0)).aN dst r))→bj P Y dr K (.call f avs a1 a2 dst rest (au ts os0))
 |bT {f:FuncId} {avs:List I} {a1 a2:Option (List I)} {dst:Option Nat} {rest:List az} {ts:List (Nat×I)} {os0:List (Nat×ai)} (aA:Bool) (ρ:List (Nat×Nat)) (os:List (Nat×ai)) (cargs:List I) (post:cT):dr=false→cD P f cargs os post →
   fZ ρ os os0→jr aA (au ts (db (jW ρ os) os0)) ρ os avs cargs→(∀ r os',post r os'→eK aA ρ os os0 r os') →
   (∀ r os',post r os'→bj P Y dr K (ay rest ((au ts (dH ρ os'++os0)).aN dst (r.aK (bx ρ)))))→bj P Y dr K (.call f avs a1 a2 dst rest (au ts os0))
 |zb {v:Value} {avs:List I} {dst:Option Nat} {rest:List az} {ts:List (Nat×I)} {os0:List (Nat×ai)} (os:List (Nat×ai)) (cargs:List I) (post:cT):dr=false→Y v cargs os post →
   fZ [] os os0→jr false (au ts (db (jW [] os) os0)) [] os avs cargs→(∀ r os',post r os'→eK false [] os os0 r os') →
   (∀ r os',post r os'→bj P Y dr K (ay rest ((au ts (dH [] os'++os0)).aN dst (r.aK (bx [])))))→bj P Y dr K (.pt v avs dst rest (au ts os0))
 |ext {f:FuncId} {avs:List I} {dst:Option Nat} {rest:List az} {A:ae} (r:I):dr=false→P1 P A f avs r→bj P Y dr K (ay rest (A.aN dst r))→bj P Y dr K (.kC f avs dst rest A)
 |any {p:Nat→Prop} {k:Nat→cK} : dr=false→(∀ m,p m→bj P Y dr K (k m))→bj P Y dr K (.any p k)
def CL(n:Nat):Option Nat→Bool
 |some d=>decide (d<n)
 |none=>true
def pq(P:Program)(n:Nat)(bV:Array Oper)(o:Oper):Option az :=
 match dE P o with
 |none=>none
 |some g=>if CL n o.dst=true then
   match o.guard with
   |none=>some ⟨o.dst,g,none⟩
   |some (j,b)=>match (bV[j]?).bind (·.dst) with
    |some t=>some ⟨o.dst,g,some (t,b)⟩
    |none=>none
  else none
def kI(P:Program)(n:Nat)(bV:Array Oper):List Oper→Option (List az)
 | []=>some []
 |o::l=>match pq P n bV o,kI P n bV l with
  |some g,some gs=>some (g::gs)
  |_,_=>none
end Go.Abs
namespace Go.Abs
open Go Go.RowKit
section
variable {c:cS} {A:ae} {o:Oper} {x:I}
theorem aje{g:b9}(hg:dE c.P o=some g)(h:br A g=some x):dR c A o x:=by
 unfold dE at hg;split at hg
 -- move
 ·rename_i y ho;simp only[zz0] at hg;obtain ⟨z,hz,rfl⟩:=hg;simp only[br,u8] at h;subst h;exact Jn (.inl ho) hz
 ·rename_i y ho;simp only[zz0] at hg;obtain ⟨z,hz,rfl⟩:=hg;simp only[br,u8] at h;subst h;exact Jn (.inr ho) hz
 -- pick
 ·rename_i q y z ho;split at hg
  ·rename_i q' y' z' h1 h2 h3;simp only[u8] at hg;subst hg;simp only[br] at h;split at h
   ·rename_i t ht;simp only[u8] at h;subst h;exact aga ho h1 h2 h3 ht
   ·cases h
  ·cases hg
 -- binOp
 ·rename_i op t y z yt ho;split at hg
  ·rename_i k y' z' hu h1 h2;simp only[u8] at hg;subst hg;exact Jl ho h1 h2 h
  ·rename_i y' z' hu h1 h2;simp only[u8] at hg;subst hg;exact Jl ho h1 h2 h
  ·rename_i e y' z' hu h1 h2;split at hg
   ·rename_i s;split at hg
    ·rename_i hop;simp only[u8] at hg;subst hg;have ho':o.op=.binOp (if (op==.neq)=true then .neq else .eql) t y z yt:=by
      rcases hop with rfl | rfl <;>simpa using ho
     simp only[br] at h;split at h
     ·rename_i s' hs';simp only[u8] at h;subst h;have:=wZ (r:=true) ho' hu h1 h2 (.inl ⟨s',hs',rfl⟩);rw[show (if (op==BinOp.neq)=true then !true else true) = !(op==BinOp.neq) from by cases (op==BinOp.neq) <;>rfl] at this;exact this
     ·rename_i s' es hs';split at h
      ·cases h
      ·rename_i hne;simp only[u8] at h;subst h;have:=wZ (r:=false) ho' hu h1 h2 (.inr (.inl ⟨s',es,hs',by simpa using hne,rfl⟩));rw[show (if (op==BinOp.neq)=true then !false else false)=(op==BinOp.neq) from by cases (op==BinOp.neq) <;>rfl] at this;exact this
     ·rename_i n p s' lo k hs';simp only[u8] at h;subst h;have:=wZ (r:=false) ho' hu h1 h2 (.inr (.inr ⟨n,p,s',lo,k,hs',rfl⟩));rw[show (if (op==BinOp.neq)=true then !false else false)=(op==BinOp.neq) from by cases (op==BinOp.neq) <;>rfl] at this;exact this
     ·cases h
    ·cases hg
   ·cases hg
  ·rename_i e y' z' hu h1 h2;split at hg
   ·rename_i hop;simp only[u8] at hg;subst hg;have ho':o.op=.binOp (if (op==.neq)=true then .neq else .eql) t y z yt:=by
     rcases hop with rfl | rfl <;>simpa using ho
    simp only[br] at h;cases hb1:ja (af A y') with
    |none=>rw[hb1] at h;cases h
    |some b1=>cases hb2:ja (af A z') with
     |none=>rw[hb1,hb2] at h;cases h
     |some b2 =>
      rw[hb1,hb2] at h;simp only[mL] at h;split at h
      ·rename_i hor;simp only[u8] at h;subst h;exact agb ho' hu h1 h2 hb1 hb2 (by simpa using hor)
      ·cases h
   ·cases hg
  ·rename_i d y' z' _ _ _ _ hu h1 h2;split at hg
   ·rename_i hop;simp only[zz0] at hg;obtain ⟨ty,hty,rfl⟩:=hg;have ho':o.op=.binOp (if (op==.neq)=true then .neq else .eql) t y z yt:=by
     rcases hop.1 with rfl | rfl <;>simpa using ho
    simp only[br,zz0] at h;obtain ⟨r,hr,rfl⟩:=h;exact afU ho' h1 h2 hop.2 hty hr
   ·cases hg
  ·cases hg
 -- unOp
 ·rename_i op t y ho;simp only[zz0] at hg;obtain ⟨z,hz,rfl⟩:=hg;simp only[br] at h;split at h
  ·rename_i b hb;simp only[u8] at h;subst h;exact af9 ho hz hb
  ·rename_i k n hb;simp only[u8] at h;subst h;exact af8 ho hz hb
  ·rename_i k n hb;simp only[u8] at h;subst h;exact afS ho hz hb
  ·cases h
 -- nilCheck
 ·rename_i y ho;simp only[zz0] at hg;obtain ⟨z,hz,rfl⟩:=hg;simp only[br] at h;cases hy:af A z <;>rw[hy] at h <;>simp only[mH,u8] at h <;>try (cases h;done)
  ·subst h;rw[←hy];exact Jo ho hz (.inr ⟨_,hy⟩)
  ·subst h;rw[←hy];exact Jo ho hz (.inl ⟨_,_,hy⟩)
 -- makeMap
 ·simp only[u8] at hg;subst hg;simp[br] at h
 -- lookup
 ·rename_i t m k ok ho;split at hg
  ·rename_i kt et m' k' hu h1 h2;split at hg
   ·rename_i ty z hk hz;split at hg
    ·rename_i hp;simp only[u8] at hg;subst hg;simp only[br] at h;cases hm:gu A (af A m') with
     |none=>rw[hm] at h;cases h
     |some q =>
      obtain ⟨ks,vs⟩:=q;rw[hm] at h;simp only[rj] at h;cases hl:gq ty z (af A k') ks vs with
      |none=>rw[hl] at h;cases h
      |some q =>
       obtain ⟨v,b⟩:=q;rw[hl] at h;simp only[rl,u8] at h;subst h;exact af6 ho hu hk hz hp h1 h2 hm hl
    ·cases hg
   ·cases hg
  ·cases hg
 -- mapUpdate,insert
 iterate 2
  ·split at hg
   ·split at hg
    ·simp only[u8] at hg;subst hg;simp[br] at h
    ·cases hg
   ·cases hg
 -- makeSlice
 ·split at hg
  ·split at hg
   ·split at hg
    ·simp only[u8] at hg;subst hg;simp[br] at h
    ·cases hg
   ·cases hg
  ·cases hg
 -- range
 ·split at hg
  ·simp only[zz0] at hg;obtain ⟨z,_,rfl⟩:=hg;simp[br] at h
  ·cases hg
 -- next
 ·simp only[zz0] at hg;obtain ⟨z,_,rfl⟩:=hg;simp[br] at h
 -- entry
 ·rename_i y ho;simp only[zz0] at hg;obtain ⟨z,hz,rfl⟩:=hg;simp only[br] at h;split at h
  ·rename_i n hn;split at h
   ·rename_i ks vs left cur hob;cases cur with
    |none=>cases h
    |some i =>
     simp only[ni] at h;split at h
     ·rename_i kk xx hk hx;simp only[u8] at h;subst h;exact afT ho hz hn hob hk hx
     ·cases h
   ·cases h
  ·cases h
 -- convert
 ·rename_i nP dst y ho;split at hg
  ·rename_i k0 k y' h1 h2 h3;simp only[u8] at hg;subst hg;simp only[br] at h;split at h
   ·rename_i k1 n hn;simp only[u8] at h;subst h;exact afR ho h1 h2 h3 hn
   ·cases h
  ·cases hg
 -- load
 ·rename_i t y ho;split at hg
  ·rename_i s y' h1 h2;simp only[u8] at hg;subst hg;simp only[br] at h;split at h
   ·rename_i v hv;split at h
    ·rename_i hok;simp only[u8] at h;subst h;exact af5 ho h1 h2 hv hok
    ·cases h
   ·cases h
  ·cases hg
 -- fieldAddr
 ·rename_i t y f ho;split at hg
  ·rename_i fs y' hu h1;split at hg
   ·rename_i fd hf;split at hg
    ·cases hg
    ·rename_i hz;simp only[u8] at hg;subst hg;simp only[br] at h;split at h
     ·rename_i gs hgs;split at h
      ·rename_i v hv;split at h
       ·rename_i hoff;simp only[u8] at h;subst h;exact afX ho hu hf hz h1 hgs hv hoff
       ·cases h
      ·cases h
     ·rename_i n p hp;split at h
      ·rename_i gs hgs;split at h
       ·rename_i hoff;simp only[u8] at h;subst h;exact afW ho hu hf hz h1 hp hgs hoff.1 hoff.2
       ·cases h
      ·cases h
     ·cases h
   ·cases hg
  ·cases hg
 -- field
 ·rename_i t y f ho;split at hg
  ·rename_i fs y' hu h1;split at hg
   ·rename_i fd hf;simp only[zz0] at hg;obtain ⟨s,hs,rfl⟩:=hg;simp only[br] at h;split at h
    ·rename_i gs hgs;split at h
     ·rename_i v hv;split at h
      ·rename_i hoff;simp only[u8] at h;subst h;exact afY ho hu hf hs h1 hgs hv hoff.1 hoff.2
      ·cases h
     ·cases h
    ·cases h
   ·cases hg
  ·cases hg
 -- indexAddr
 ·rename_i t y i ho;split at hg
  ·rename_i n e y' i' hu h1 h2;split at hg
   ·rename_i hinfo;obtain ⟨ti,hti⟩:=zw0.1 hinfo;simp only[u8] at hg;subst hg;simp only[br] at h;split at h
    ·rename_i kk k hk;split at h
     ·rename_i hb;split at h
      ·rename_i gs hgs;split at h
       ·rename_i hev;simp only[zz0] at h;obtain ⟨v,hv,rfl⟩:=h;exact af0 ho hu hti h1 h2 hgs hk hb hev hv
       ·cases h
      ·rename_i m p hp;split at h
       ·rename_i gs hgs;split at h
        ·rename_i hev;simp only[u8] at h;subst h;exact afZ ho hu hti h1 h2 hp hk hb hgs hev
        ·cases h
       ·cases h
      ·cases h
     ·cases h
    ·cases h
   ·cases hg
  ·rename_i e y' i' hu h1 h2;split at hg
   ·rename_i hinfo;obtain ⟨ti,hti⟩:=zw0.1 hinfo;simp only[u8] at hg;subst hg;simp only[br] at h;split at h
    ·rename_i kk k hk;split at h
     ·rename_i sz es hes;split at h
      ·rename_i hb;obtain ⟨rfl,hb⟩:=hb;simp only[zz0] at h;obtain ⟨v,hv,rfl⟩:=h;exact af1 ho hu hti h1 h2 hes hk hb hv
      ·cases h
     ·rename_i m l hm;split at h
      ·rename_i T sz es hes;split at h
       ·rename_i hb;obtain ⟨rfl,rfl,hb⟩:=hb;simp only[zz0] at h;obtain ⟨v,hv,rfl⟩:=h;exact af2 ho hu hti h1 h2 hm hes hk hb hv
       ·cases h
      ·cases h
     ·rename_i m p sz lo l hm;split at h
      ·rename_i fs hfs;split at h
       ·rename_i hb;simp only[u8] at h;subst h;exact af3 ho hu hti h1 h2 hb.1 hm hfs hk hb.2
       ·cases h
      ·cases h
     ·cases h
    ·cases h
   ·cases hg
  ·cases hg
 -- index
 ·rename_i t y i ho;split at hg
  ·rename_i n e y' i' hu h1 h2;simp only[zz0] at hg;obtain ⟨s,hs,rfl⟩:=hg;simp only[br] at h;split at h
   ·rename_i kk k hk;split at h
    ·rename_i hb;split at h
     ·rename_i gs hgs;split at h
      ·rename_i hev;split at h
       ·rename_i v hv;split at h
        ·rename_i hok;simp only[u8] at h;subst h;exact af4 ho hu hs h1 h2 hgs hk hb hev hv hok
        ·cases h
       ·cases h
      ·cases h
     ·cases h
    ·cases h
   ·cases h
  ·cases hg
 -- slice
 ·rename_i t y lo hi mx ho;split at hg
  ·rename_i n e y' hu h1;split at hg
   ·split at hg
    ·rename_i hinfo;obtain ⟨ti,hti⟩:=zw0.1 hinfo;simp only[u8] at hg;subst hg;simp only[br] at h;split at h
     ·rename_i m p hp;split at h
      ·rename_i gs hgs;split at h
       ·rename_i hev;simp only[u8] at h;subst h;exact agd ho hu hti h1 hp hgs hev.1 hev.2.1 hev.2.2
       ·cases h
      ·cases h
     ·rename_i gs hgs;split at h
      ·rename_i hev;simp only[u8] at h;subst h;exact age ho hu hti h1 hgs hev.1 hev.2.1
      ·cases h
     ·cases h
    ·cases hg
   ·cases hg
  ·rename_i e y' hu h1;split at hg
   ·rename_i lo' hi' mx' q1 q2 q3;split at hg
    ·rename_i hc;obtain ⟨ti,hti⟩:=zw0.1 hc.2;simp only[u8] at hg;subst hg;simp only[br] at h;split at h
     ·rename_i sz es hes;split at h
      ·rename_i hsz;subst hsz;exact w0 ho hu hti h1 q1 q2 q3 hc.1 (.inl hes) h
      ·cases h
     ·rename_i sz hes;split at h
      ·rename_i hsz;subst hsz;exact w0 ho hu hti h1 q1 q2 q3 hc.1 (.inr (.inl ⟨hes,rfl⟩)) h
      ·cases h
     ·rename_i sz hes;split at h
      ·rename_i hsz;subst hsz;exact w0 ho hu hti h1 q1 q2 q3 hc.1 (.inr (.inr ⟨hes,rfl⟩)) h
      ·cases h
     ·rename_i n p sz l0 k hv;split at h
      ·rename_i fs hfs;split at h
       ·rename_i hsz;exact agc ho hu hti h1 q1 q2 q3 hc.1 hsz hv hfs h
       ·cases h
      ·cases h
     ·cases h
    ·cases hg
   ·cases hg
  ·cases hg
 -- build
 ·rename_i t parts ho;split at hg
  ·rename_i zs ps hz hp;split at hg
   ·rename_i fs hu;split at hg
    ·rename_i hc;simp only[u8] at hg;subst hg;simp only[br,zz0] at h;obtain ⟨zs',h,rfl⟩:=h;exact Jm ho hz hp (.inl ⟨fs,hu,hc.1,hc.2⟩) h
    ·cases hg
   ·rename_i n e hu;split at hg
    ·rename_i hc;simp only[u8] at hg;subst hg;simp only[br,zz0] at h;obtain ⟨zs',h,rfl⟩:=h;exact Jm ho hz hp (.inr ⟨n,e,hu,hc.1,hc.2.1,hc.2.2⟩) h
    ·cases hg
   ·cases hg
  ·cases hg
 -- buildSlice
 ·rename_i t len parts ho;split at hg
  ·rename_i e hu;split at hg
   ·rename_i ps hp;split at hg
    ·rename_i h0;obtain ⟨rfl,rfl,h0⟩:=h0;obtain ⟨ti,hti⟩:=zw0.1 h0;simp only[u8] at hg;subst hg;simp only[br,u8] at h;subst h;exact afQ ho hu hti
    split at hg
    ·rename_i hc;obtain ⟨c1,c2,c3,iR,lx⟩:=hc;simp only[u8] at hg;subst hg;simp only[br] at h;split at h
     ·rename_i es hes;split at h
      ·rename_i hev;simp only[u8] at h;subst h;refine afP ho hu hp c1 c2 c3 iR lx hes (fun y hy =>?_) hev.2;have:=zy8.1 hev.1 y hy;simpa using this
      ·cases h
     ·cases h
    ·cases hg
   ·cases hg
  ·cases hg
 -- extract
 ·rename_i y i ho;simp only[zz0] at hg;obtain ⟨z,hz,rfl⟩:=hg;simp only[br] at h;split at h
  ·rename_i fs hfs;exact afV ho hz hfs h
  ·cases h
 -- makeFunc
 ·rename_i f first caps ho
  split at hg
  ·rename_i hfirst;simp only[zz0] at hg;obtain ⟨ys,hys,rfl⟩:=hg;simp only[br] at h;split at h
   ·rename_i hv;simp only[u8] at h;subst h;have hf:first = #[]:=by simpa using hfirst
    rw[hf] at ho;refine af7 ho hys (fun y hy =>?_);have:=zy8.1 hv (af A y) (zx4.2 ⟨y,hy,rfl⟩);exact this
   ·cases h
  ·cases hg
 -- alloc
 ·simp only[zz0] at hg;obtain ⟨z,_,rfl⟩:=hg;simp[br] at h
 -- box
 ·simp only[zz0] at hg;obtain ⟨z,_,rfl⟩:=hg;simp[br] at h
 -- store
 ·split at hg
  ·split at hg
   ·simp only[u8] at hg;subst hg;simp[br] at h
   ·cases hg
  ·cases hg
 -- call
 ·split at hg
  ·simp only[zz0] at hg;obtain ⟨z,_,rfl⟩:=hg;simp[br] at h
  ·simp only[zz0] at hg;obtain ⟨z,_,rfl⟩:=hg;simp[br] at h
 ·split at hg
  ·simp only[u8] at hg;subst hg;simp[br] at h
  ·cases hg
 -- len
 ·rename_i args tys ho;split at hg
  ·rename_i y ty hargs htys;have ho':o.op=.call { callee:=.builtin .len,args := #[y],argTypes := #[ty] } :=by
    rw[ho];have e1:args = #[y]:=by apply Array.ext';simpa using hargs
    have e2:tys = #[ty]:=by apply Array.ext';simpa using htys
    rw[e1,e2]
   split at hg
   ·rename_i e hu;simp only[zz0] at hg;obtain ⟨y',hy,rfl⟩:=hg;simp only[br] at h;split at h
    ·rename_i sz es hes;simp only[u8] at h;subst h;refine pG ho' hu (.inl ⟨e,rfl⟩) hy (fun a w D E hs v hv =>?_);rw[hes] at hv;obtain ⟨ad,cap,e1,e2,e3,_⟩:=nN hv;exact ⟨zv8 e2 e3,fun _=>⟨ad,cap,e1⟩,fun e=>by cases e⟩
    ·rename_i sz hes;simp only[u8] at h;subst h;refine pG (n:=0) ho' hu (.inl ⟨e,rfl⟩) hy (fun a w D E hs v hv =>?_);rw[hes] at hv;obtain ⟨cs,q1,q2⟩:=hv;simp only[ah] at q2;exact ⟨by simp[maxLen],fun _=>⟨none,0,by simpa[bD,I.isAgg,q2] using q1.symm⟩,fun e=>by cases e⟩
    ·rename_i sz hes;simp only[u8] at h;subst h;refine pG (n:=0) ho' hu (.inl ⟨e,rfl⟩) hy (fun a w D E hs v hv =>?_);rw[hes] at hv;obtain ⟨cs,q1,q2⟩:=hv;simp only[ah] at q2;obtain ⟨ad,q2⟩:=q2;exact ⟨by simp[maxLen],fun _=>⟨ad,0,by simpa[bD,I.isAgg,q2] using q1.symm⟩,fun e=>by cases e⟩
    ·rename_i m l hm;split at h
     ·rename_i T sz es hes;split at h
      ·rename_i hl;subst hl;simp only[u8] at h;subst h;refine pG ho' hu (.inl ⟨e,rfl⟩) hy (fun a w D E hs v hv =>?_);rw[hm] at hv;rcases hs.own hes hv with ⟨rfl,_,rfl⟩ | ⟨b,cap,cs,pre,rest,_,rfl,_,_,_,_,_,k8,k9,_⟩
       ·exact ⟨by simp[maxLen],fun _=>⟨none,0,rfl⟩,fun e=>by cases e⟩
       ·exact ⟨zv8 k8 k9,fun _=>⟨_,_,rfl⟩,fun e=>by cases e⟩
      ·cases h
     ·cases h
    ·rename_i n p sz lo k hm;simp only[u8] at h;subst h;refine pG ho' hu (.inl ⟨e,rfl⟩) hy (fun a w D E hs v hv =>?_);rw[hm] at hv;obtain ⟨cs,q1,q2⟩:=hv;simp only[ah] at q2;obtain ⟨b,aO,off,l,_,_,_,q2,q3,q4,_⟩:=q2;exact ⟨by omega,fun _=>⟨_,_,by simpa[bD,I.isAgg,q2] using q1.symm⟩,fun e=>by cases e⟩
    ·cases h
   ·rename_i hu;simp only[zz0] at hg;obtain ⟨y',hy,rfl⟩:=hg;simp only[br] at h;split at h
    ·rename_i s hs';simp only[u8] at h;subst h;refine pG ho' hu (.inr rfl) hy (fun a w D E hs v hv =>?_);rw[hs'] at hv;obtain ⟨e1,e2⟩:=nO hv;exact ⟨e2,(fun e=>by obtain ⟨_,e⟩:=e;cases e),fun _=>⟨s,e1,rfl⟩⟩
    ·cases h
   ·cases hg
  ·cases hg
 -- append
 ·split at hg
  ·split at hg
   ·split at hg
    ·simp only[zz0] at hg;obtain ⟨z,_,rfl⟩:=hg;simp[br] at h
    ·split at hg
     ·simp only[zz0] at hg;obtain ⟨z,_,rfl⟩:=hg;simp[br] at h
     ·cases hg
   ·cases hg
  ·cases hg
 -- cap
 ·rename_i args tys ho;split at hg
  ·rename_i y ty hargs htys;have ho':o.op=.call { callee:=.builtin .cap,args := #[y],argTypes := #[ty] } :=by
    rw[ho];have e1:args = #[y]:=by apply Array.ext';simpa using hargs
    have e2:tys = #[ty]:=by apply Array.ext';simpa using htys
    rw[e1,e2]
   split at hg
   ·rename_i e hu;simp only[zz0] at hg;obtain ⟨y',hy,rfl⟩:=hg;simp only[br] at h;split at h
    ·rename_i sz hes;simp only[u8] at h;subst h;refine wY ho' hu hy (fun a w D E hs v hv =>?_);rw[hes] at hv;obtain ⟨cs,q1,q2⟩:=hv;simp only[ah] at q2;exact ⟨by simp[maxLen],_,_,by simpa[bD,I.isAgg,q2] using q1.symm⟩
    ·rename_i sz hes;simp only[u8] at h;subst h;refine wY ho' hu hy (fun a w D E hs v hv =>?_);rw[hes] at hv;obtain ⟨cs,q1,q2⟩:=hv;simp only[ah] at q2;obtain ⟨ad,q2⟩:=q2;exact ⟨by simp[maxLen],_,_,by simpa[bD,I.isAgg,q2] using q1.symm⟩
    ·rename_i n p sz lo k hm;split at h
     ·rename_i fs hfs;simp only[u8] at h;subst h;refine wY ho' hu hy (fun a w D E hs v hv =>?_);rw[hm] at hv;obtain ⟨_,b,cs,T,off,c1,c2,c3,_,_,_,_,_,_,_,_,_,_,_,q1,q2⟩:=hs.view hv hfs;exact ⟨by omega,_,_,q2⟩
     ·cases h
    ·cases h
   ·cases hg
  ·cases hg
 -- clear
 ·split at hg
  ·split at hg
   ·simp only[zz0] at hg;obtain ⟨z,_,rfl⟩:=hg;simp[br] at h
   ·cases hg
  ·cases hg
 -- copy
 ·split at hg
  ·split at hg
   ·split at hg
    ·simp only[u8] at hg;subst hg;simp[br] at h
    ·cases hg
   ·cases hg
  ·cases hg
 ·cases hg
theorem fU.append{α β:Type}{R:α→β→Prop} : ∀ {xs:List α} {ys:List β} {xs':List α} {ys':List β},fU R xs ys→fU R xs' ys'→fU R (xs++xs') (ys++ys')
 |_,_,_,_,.nil,h=>h
 |_,_,_,_,.cons h1 h2,h=>.cons h1 (h2.append h)
theorem yK{w:World}{D:aM}{E:aW} : ∀ {xs:List I} {vs:List Value},aG w D E xs vs→fU (aV w D E) xs vs
 | [],vs,h=>by simp only[aG] at h;subst h;exact .nil
 |x::xs,vs,h=>by
  simp only[aG] at h;obtain ⟨v,rest,cs,rfl,h1,h2,h3⟩:=h;exact .cons (mG h1 h2) (yK h3)
theorem SR {P : Program} {f : FuncId} (h : gR P f = true) : ∃ fn, P.funcs[f]? = some fn ∧ ¬ fn.name = "runtime.NumGoroutine" ∧ ¬ fn.body = none := by
 unfold gR at h;cases hf:P.funcs[f]? with
 |none=>simp[hf] at h
 |some fn =>
  simp only[hf,Option.any_some,zz2,bne_iff_ne,ne_eq] at h;refine ⟨fn,rfl,by simpa using h.1,?_⟩;cases hb:fn.body <;>simp_all
theorem yG{P:Program}{w:World}{f:FuncId}{args:Array Value}(h:gR P f=true):(callFunc f args).run P w=.ok (.enter f args) w:=by
 obtain ⟨fn,h1,h2,h3⟩:=SR h;simp[callFunc,h1,h2,h3]
theorem aD.aky{f:FuncId}{avs cargs:List I}{r:I}{vs:List Value}{a:Act}{w:World}{D:aM}{E:aW}(hs:aS c A a w D E)(h:aD c.P f cargs r)(hf:r.flat=true)(hc:bZ true A avs=some cargs)(hv:fU (aV w D E) avs vs) :
  Calls c.P f vs.toArray w fun e w'=>∃ v D',e=.returned v∧aS c A a w' D' E∧aV w' D' E r v:=by
 have hw:ir true A D E (fun b _=>b<w.heap.size):=by
  refine ⟨fun b o hd=>hs.dq b o hd,fun n T sz es b cap hn aw o _=>hs.fV aw rfl,fun _ n x b aO hn aw o _=>hs.fV aw rfl,fun _ n ks vs b hn aw=>hs.fV aw rfl⟩
 have hrv:=mA (E':=dM) hs (fun _ _ h=>h) hw avs cargs vs (mT _ _ hv (qP hc)) hc;refine (h.2 w _ vs (fun _ _ hd=>hd) hrv).mono fun e w' ⟨v,D',he,h1,h2,h3,h4⟩=>⟨v,D,he,?_,aV.flat hf h1⟩
 exact hs.grow h2 (fun _ _ hd=>hd) (fun _ _ hd _=>hd) (fun b o hd=>Nat.lt_of_lt_of_le (hs.dq b o hd) h2.size)
theorem aD.akA{f:FuncId}{avs cargs:List I}{r:I}{vs:List Value}{a:Act}{w:World}{D:aM}{E:aW}(hs:aS c A a w D E)(h:aD c.P f cargs r)(hc:bZ false A avs=some cargs)(hv:fU (aV w D E) avs vs) :
  Calls c.P f vs.toArray w fun e w'=>∃ v D',e=.returned v∧aS c A a w' D' E∧aV w' D' E r v:=by
 obtain ⟨hs1,hw⟩:=hs.oS;have hrv:=mA (E':=dM) hs (fun _ _ h=>h) hw avs cargs vs (mT _ _ hv (qP hc)) hc;refine (h.2 w _ vs hs1.dq hrv).mono fun e w' ⟨v,D',he,h1,h2,h3,h4⟩=>⟨v,fun b o=>oN A D E b o∨(w.heap.size≤b∧D' b o),he,?_,?_⟩
 ·refine hs1.grow h2 (fun _ _ hd=>.inl hd) ?_ ?_
  ·rintro b o (hd | ⟨hle,_⟩) hlt
   ·exact hd
   ·omega
  ·rintro b o (hd | ⟨_,hd⟩)
   ·exact Nat.lt_of_lt_of_le (hs1.dq b o hd) h2.size
   ·exact h3 b o hd
 ·refine aV.bI (E:=dM) ⟨fun b o hd =>?_,fun _ _ _ _ h=>h,fun n b aO hn=>by simp[dM] at hn,fun n aE l hn=>by simp[dM] at hn,fun n b hn=>by simp[dM] at hn,fun n b hn=>by simp[dM] at hn,fun _ _ _ _ h=>h⟩ h1;rcases Nat.lt_or_ge b w.heap.size with hlt | hge
  ·exact .inl (h4 b o hd hlt)
  ·exact .inr ⟨hge,hd⟩
theorem J2(p:Nat→Bool)(os:List (Nat×ai))(n:Nat):ak (os.filter fun q=>p q.1) n=if p n then ak os n else none:=by
 induction os with
 |nil=>simp[ak]
 |cons q os ih =>
  obtain ⟨k,v⟩:=q;simp only[zw1];by_cases hk:p k=true
  ·simp only[hk,if_true,ak,ih];by_cases hn:n=k
   ·subst hn;simp only[hk,if_true]
   ·simp only[if_neg hn]
  ·simp only[hk,zz6,if_false,ih,ak];by_cases hn:n=k
   ·subst hn;simp[hk]
   ·simp only[if_neg hn]
theorem nz(ns:List Nat)(os:List (Nat×ai))(n:Nat):ak (db ns os) n=if ns.contains n then none else ak os n:=by
 rw[db,J2 (fun n => !ns.contains n)];cases ns.contains n <;>rfl
theorem ox(ns:List Nat)(os:List (Nat×ai))(n:Nat):ak (iC ns os) n=if ns.contains n then ak os n else none:=J2 _ _ _
theorem yc{p:Nat→Bool} : ∀ {os:List (Nat×ai)},a8 p os→∀ k x,ak os k=some x→x.only p=true
 | [],_,k,x,hx=>by simp[ak] at hx
 |(j,v)::r,h,k,x,hx=>by
  simp only[a8] at h;simp only[ak] at hx;split at hx
  ·simp only[u8] at hx;subst hx;exact h.1
  ·exact yc h.2 k x hx
theorem J3(ns:List Nat):∀ (ts:List (Nat×I)) (t:Nat),cn (gF ns ts) t=if (cn ts t).only (fun n => !ns.contains n) then cn ts t else .dp
 | [],t=>by simp[gF,cn,I.only]
 |(k,v)::r,t=>by
  simp only[gF,zz9,cn];by_cases h:t=k
  ·simp only[if_pos h]
  ·simp only[if_neg h];exact J3 ns r t
theorem aS.Dr{a:Act}{w:World}{D:aM}{E:aW}{ts:List (Nat×I)}{os0:List (Nat×ai)}(h:aS c (au ts os0) a w D E)(ns:List Nat)(ho:a8 (fun n => !ns.contains n) (db ns os0)) :
  ∃ D' E',aS c (au (gF ns ts) (db ns os0)) a w D' E'∧ir true (au ts (iC ns os0)) D E D':=by
 have h1:=h.oS.1;have hw1:=h.oS.2;obtain ⟨D1,hD1⟩:∃ D1,D1=oN (au ts os0) D E:=⟨_,rfl⟩
 rw[←hD1] at h1 hw1;obtain ⟨D2,hD2⟩:∃ D2:aM,D2=fun b o=>D1 b o∨(∃ n x aO,ns.contains n=true∧ak os0 n=some (.box x)∧E n=some (.aA b aO)∧o<x.size)∨∃ n ks vs,ns.contains n=true∧ak os0 n=some (.cv ks vs)∧E n=some (.cv b)∧o=0:=⟨_,rfl⟩
 obtain ⟨E2,hE2⟩:∃ E2:aW,E2=fun n=>if ns.contains n then none else E n:=⟨_,rfl⟩
 have e2:∀ n,(!ns.contains n)=true→E2 n=E n:=fun n hn=>by rw[hE2];simp at hn;simp[hn]
 have hl:dS w D1 E2 w D2 E2:=⟨fun b o hd=>by rw[hD2];exact .inl hd,fun _ _ _ _ h=>h,fun _ _ _ h=>h,fun _ aE l h=>⟨aE,l,h,zz7 _,fun _=>rfl⟩,fun _ _ h=>h,fun _ _ h=>h,fun _ _ _ _ h=>h⟩
 have pV:∀ b o,D2 b o→D1 b o∨∃ n e q,ns.contains n=true∧E n=some e∧e.aE=some b∧c.fj b∧w.heap[b]?=some q:=fun b o hd=>by
  rw[hD2] at hd;rcases hd with hd | ⟨n,x,aO,k1,k2,k3,k4⟩ | ⟨n,ks,vs,k1,k2,k3,_⟩
  ·exact .inl hd
  ·obtain ⟨b',cs,T,q1,q2,q3,_⟩:=h.box (n:=n) (x:=x) (by simpa[au] using k2);rw[k3] at q1;simp only[u8,bR.aA.injEq] at q1;obtain ⟨rfl,rfl⟩:=q1;exact .inr ⟨n,_,_,k1,k3,rfl,q2,q3⟩
  ·obtain ⟨b',es,ck,q1,q2,q3,_⟩:=h.map (n:=n) (ks:=ks) (vs:=vs) (by simpa[au] using k2);rw[k3] at q1;cases q1;exact .inr ⟨n,_,_,k1,k3,rfl,q2,q3⟩
 refine ⟨D2,E2,⟨h1.sz,h1.eU,fun t =>?_,h1.dZ,fun b o hd hm =>?_,fun b o hd =>?_,fun n =>?_,fun n m e e' b g1 g2 g3 g4 =>?_,fun n e hn =>?_,h1.fb,fun b o hd=>hl.da b o (h1.cO b o hd),h1.fg,h1.fJ⟩,?_⟩
 ·simp only[au,J3];have ht:=h1.eB t;simp only[au] at ht;split
  ·rename_i hp;exact aV.bI hl (aV.dB e2 hp ht)
  ·simp[aV]
 ·rcases pV b o hd with hd | ⟨n,e,q,_,_,_,k,_⟩
  ·exact h1.da b o hd hm
  ·exact absurd k hm
 ·rcases pV b o hd with hd | ⟨n,e,q,_,_,_,_,k⟩
  ·exact h1.dq b o hd
  ·exact fW k
 ·simp only[au,nz];by_cases hn:ns.contains n=true
  ·simp only[hn,if_true,dg];rw[hE2];simp only[hn,if_true]
  ·have hnb:(!ns.contains n)=true:=by simpa using hn
   simp only[hn,zz6,if_false];have hob:=h1.bT n;simp only[au] at hob;cases hx:ak os0 n with
   |none=>rw[hx] at hob;simp only[dg] at hob ⊢;rw[e2 n hnb];exact hob
   |some x =>
    have hon:=yc ho n x (by rw[nz,if_neg hn];exact hx);have nD:∀ e b,E n=some e→e.aE=some b→∀ o,D2 b o→D1 b o:=fun e b he hb o hd=>by
     rcases pV b o hd with hd | ⟨m,e',q,k1,k3,k2,_⟩
     ·exact hd
     ·have:=h.cU n m e _ b he k3 hb k2;subst this;exact absurd k1 hn
    rw[hx] at hob;cases x with
    |box x =>
     obtain ⟨b,cs,T,k1,k2,k3,k4,k5⟩:=hob;exact ⟨b,cs,T,(e2 n hnb).trans k1,k2,k3,ah.bI hl _ _ (ah.dB e2 _ _ (by simpa[ai.only] using hon) k4),fun o hd=>k5 o (nD _ b k1 rfl o hd)⟩
    |bX T sz es =>
     obtain ⟨aE,k1,k2,k3⟩:=hob;refine ⟨aE,(e2 n hnb).trans k1,k2,?_⟩;cases aE with
     |none=>exact k3
     |some bc =>
      obtain ⟨b,cap⟩:=bc;obtain ⟨cs,pre,rest,q1,q2,q3,q4,q5,q6,q7,q8⟩:=k3;exact ⟨cs,pre,rest,q1,q2,q3,aI.bI hl _ _ (aI.dB e2 _ _ (by simpa[ai.only] using hon) q4),q5,q6,q7,fun o hd=>q8 o (nD _ b k1 rfl o hd)⟩
    |cV T xs =>
     obtain ⟨aE,k1,k2,k3⟩:=hob;refine ⟨aE,(e2 n hnb).trans k1,k2,?_⟩;cases aE with
     |none=>exact k3
     |some bc =>
      obtain ⟨b,cap⟩:=bc;obtain ⟨cs,r,q1,q2,q3,q4,q5,q6,q7⟩:=k3;exact ⟨cs,r,q1,q2,q3,q4,q5,q6,fun o hd=>q7 o (nD _ b k1 rfl o hd)⟩
    |dQ x =>
     obtain ⟨b,k1,k2,k3,k4,k5⟩:=hob;exact ⟨b,(e2 n hnb).trans k1,k2,k3,k4,fun o hd=>k5 o (nD _ b k1 rfl o hd)⟩
    |cv ks vs =>
     obtain ⟨b,es,ck,k1,k2,k3,k4,k5,k6,k7⟩:=hob;simp only[ai.only,zz2] at hon;exact ⟨b,es,ck,(e2 n hnb).trans k1,k2,k3,k4,aG.bI hl _ _ (aG.dB e2 _ _ hon.1 k5),aG.bI hl _ _ (aG.dB e2 _ _ hon.2 k6),fun o hd=>k7 o (nD _ b k1 rfl o hd)⟩
    |it ks vs left cur =>
     obtain ⟨r,b,es,ck,si,se,la,k1,k2,k3,k4,k5,k6,k7,k8,k9,k9',k10⟩:=hob;simp only[ai.only,zz2] at hon;exact ⟨r,b,es,ck,si,se,la,(e2 n hnb).trans k1,k2,k3,k4.bI hl,aG.bI hl _ _ (aG.dB e2 _ _ hon.1 k5),aG.bI hl _ _ (aG.dB e2 _ _ hon.2 k6),k7,k8,k9,k9',fun o hd=>k10 o (nD _ r k1 rfl o hd)⟩
 ·have cut:∀ n e,E2 n=some e→E n=some e:=fun n e he=>by
   rw[hE2] at he;simp only at he;split at he
   ·cases he
   ·exact he
  exact h.cU n m e e' b (cut n e g1) (cut m e' g2) g3 g4
 ·by_cases hm:ns.contains n=true
  ·left;rw[hE2];simp only[hm,if_true]
  ·rw[e2 n (by simpa using hm)];exact h.ed n e hn
 ·refine ⟨fun b o hd=>by rw[hD2];exact .inl (hw1.da b o hd),fun n T sz es b cap hn aw o hlt =>?_,fun _ n x b aO hn aw o hlt =>?_,fun _ n ks vs b hn aw =>?_⟩
  ·simp only[au,ox] at hn;split at hn
   ·rw[hD2];exact .inl (hw1.bX n T sz es b cap hn aw o hlt)
   ·cases hn
  ·simp only[au,ox] at hn;split at hn
   ·rename_i hk;rw[hD2];exact .inr (.inl ⟨n,x,aO,hk,hn,aw,hlt⟩)
   ·cases hn
  ·simp only[au,ox] at hn;split at hn
   ·rename_i hk;rw[hD2];exact .inr (.inr ⟨n,ks,vs,hk,hn,aw,rfl⟩)
   ·cases hn
theorem aD.akz{f:FuncId}{avs cargs:List I}{r:I}{vs:List Value}{a:Act}{w:World}{D:aM}{E:aW}{ts:List (Nat×I)}{os0:List (Nat×ai)}(hs:aS c (au ts os0) a w D E)(ns:List Nat)(ho:a8 (fun n => !ns.contains n) (db ns os0))
  (h:aD c.P f cargs r) (hc:bZ true (au ts (iC ns os0)) avs=some cargs) (hv:fU (aV w D E) avs vs) :
  Calls c.P f vs.toArray w fun e w'=>∃ v D' E',e=.returned v∧aS c (au (gF ns ts) (db ns os0)) a w' D' E'∧aV w' D' E' r v:=by
 obtain ⟨D1,E1,hs1,hw⟩:=hs.Dr ns ho;have hu:eC (au ts (iC ns os0)) (au ts os0):=fun n x hx=>by
  simp only[au,ox] at hx ⊢;split at hx
  ·exact hx
  ·cases hx
 have hrv:=mA (E':=dM) hs hu hw avs cargs vs (mT _ _ hv (qP hc)) hc;refine (h.2 w _ vs hs1.dq hrv).mono fun e w' ⟨v,D',he,h1,h2,h3,h4⟩=>⟨v,fun b o=>D1 b o∨(w.heap.size≤b∧D' b o),E1,he,?_,?_⟩
 ·refine hs1.grow h2 (fun _ _ hd=>.inl hd) ?_ ?_
  ·rintro b o (hd | ⟨hle,_⟩) hlt
   ·exact hd
   ·omega
  ·rintro b o (hd | ⟨_,hd⟩)
   ·exact Nat.lt_of_lt_of_le (hs1.dq b o hd) h2.size
   ·exact h3 b o hd
 ·refine aV.bI (E:=dM) ⟨fun b o hd =>?_,fun _ _ _ _ h=>h,fun n b aO hn=>by simp[dM] at hn,fun n aE l hn=>by simp[dM] at hn,fun n b hn=>by simp[dM] at hn,fun n b hn=>by simp[dM] at hn,fun _ _ _ _ h=>h⟩ h1;rcases Nat.lt_or_ge b w.heap.size with hlt | hge
  ·exact .inl (h4 b o hd hlt)
  ·exact .inr ⟨hge,hd⟩
theorem uZ{a:Act}{w:World}{D D1:aM}{E:aW}{ts:List (Nat×I)}{os0 os:List (Nat×ai)}{ρ:List (Nat×Nat)}{aA:Bool}{A0:ae}(hs:aS c (au ts os0) a w D E)(hu:eC A0 (au ts os0))(hD:∀ b o,D b o→D1 b o)(hw:ir aA A0 D E D1) :
  ∀ (avs cargs:List I) (vs:List Value),jr aA A0 ρ os avs cargs→fU (aV w D E) avs vs→aG w D1 (aw ρ os E) cargs vs
 | [],[],vs,_,hv=>by cases hv;simp[aG]
 | [],_::_,_,h,_=>by simp[jr] at h
 |_::_,[],_,h,_=>by simp[jr] at h
 |x::xs,y::ys,vs,h,hv=>by
  cases hv with
  |cons hv hvs =>
  rename_i v vs;simp only[jr] at h;have ih:=uZ hs hu hD hw xs ys vs h.2 hvs;have hl:dS w D (aw ρ os E) w D1 (aw ρ os E):=⟨hD,fun _ _ _ _ h=>h,fun _ _ _ h=>h,fun _ aE l h=>⟨aE,l,h,zz7 _,fun _=>rfl⟩,fun _ _ h=>h,fun _ _ h=>h,fun _ _ _ _ h=>h⟩
  have h1:∃ cs,bD y v cs∧ah w D1 (aw ρ os E) y cs:=by
   rcases h.1 with ⟨k1,k2,k3⟩ | k
   ·rw[k1] at hv;have h2:=aV.bI hl ((aV.aK (w:=w) (D:=D) (p:=al os) (ρ:=bx ρ) (E:=aw ρ os E) (E':=E) (fun n hn=>by simp only[aw,hn,if_true]) k2).1 hv);cases y <;>simp only[aV] at h2 <;>first | (simp[I.b8] at k3;done) | exact h2
   ·have h2:aG w D E [x] [v]:=mT [x] [v] (.cons hv .nil) (by
     intro z hz;simp only[zw5] at hz;subst hz;cases z <;>simp_all[a7,I.b8])
    have h3:=mA (E':=aw ρ os E) hs hu hw [x] [y] [v] h2 (by simp[bZ,k]);simp only[aG] at h3;obtain ⟨v',rest,cs,e,k1,k2,_⟩:=h3;simp only[List.cons.injEq] at e;obtain ⟨rfl,_⟩:=e;exact ⟨cs,k1,k2⟩
  obtain ⟨cs,k1,k2⟩:=h1;simp only[aG];exact ⟨v,vs,cs,rfl,k1,k2,ih⟩
theorem eC.drop(ts:List (Nat×I))(ns:List Nat)(os0:List (Nat×ai)):eC (au ts (db ns os0)) (au ts os0):=fun n x hx=>by
 simp only[au,nz] at hx ⊢;split at hx
 ·cases hx
 ·exact hx
theorem qt.use{run:Array Value→World→(Ending→World→Prop)→Prop}{since:World→aM→aW→Prop}{avs cargs:List I}{post:cT}{vs:List Value}{a:Act}{w:World}{D:aM}{E:aW}{ts:List (Nat×I)}{os0 os:List (Nat×ai)}{ρ:List (Nat×Nat)}
  (hs:aS c (au ts os0) a w D E) (h:qt run since cargs os post) (aA:Bool) (hmono:∀ {vs w R R'},run vs w R→(∀ e w,R e w→R' e w)→run vs w R') (hsince:(aA=true→∀ D E,since w D E)∧(aA=false→since w (oN (au ts os0) D E) (aw ρ os E)))
  (hg:fZ ρ os os0) (ha:jr aA (au ts (db (jW ρ os) os0)) ρ os avs cargs) (hb:∀ r os',post r os'→eK aA ρ os os0 r os') (hv:fU (aV w D E) avs vs) :
  run vs.toArray w fun e w'=>∃ v r os' D2 E2,e=.returned v∧post r os'∧aS c (au ts (dH ρ os'++os0)) a w' D2 E2∧aV w' D2 E2 (r.aK (bx ρ)) v∧∀ m e,aw ρ os E m=some e→al os' m=true→∃ e',E2 (bx ρ m)=some e'∧e.le e':=by
 have notName:∀ n,(jW ρ os).contains n=false→∀ m,al os m=true→bx ρ m≠n:=fun n hn m hm he=>by
  obtain ⟨q,hq,rfl⟩:=xp.1 hm;have:(jW ρ os).contains n=true:=by simp only[jW,List.contains_iff_mem,zx4];exact ⟨q,hq,he⟩
  rw[this] at hn;cases hn
 have other:∀ {D:aM},aS c (au ts os0) a w D E→∀ n e b x,ak (db (jW ρ os) os0) n=some x→E n=some e→e.aE=some b→¬ dz (aw ρ os E) b:=fun hs n e b x hx he hb ho=>by
  obtain ⟨m,e',h1,h2,hb',_⟩:=hs.sX hg ho;rw[nz] at hx;split at hx
  ·cases hx
  ·rename_i hc;have:=hs.cU n (bx ρ m) e _ b he h2 hb hb';exact notName n (by simpa using hc) m h1 this.symm
 cases aA with
 |true =>
  obtain ⟨D1,hD1⟩:∃ D1:aM,D1=fun b o=>D b o∨(b<w.heap.size∧¬ dz (aw ρ os E) b):=⟨_,rfl⟩
  have hD:∀ b o,D b o→D1 b o:=fun b o hd=>by rw[hD1];exact .inl hd
  have hw:ir true (au ts (db (jW ρ os) os0)) D E D1:=by
   refine ⟨hD,fun n T sz es b cap hn aw o _ =>?_,fun _ n x b aO hn aw o _ =>?_,fun _ n ks vs b hn aw =>?_⟩
   ·rw[hD1];exact .inr ⟨hs.fV aw rfl,other hs n _ b _ hn aw rfl⟩
   ·rw[hD1];exact .inr ⟨hs.fV aw rfl,other hs n _ b _ hn aw rfl⟩
   ·rw[hD1];exact .inr ⟨hs.fV aw rfl,other hs n _ b _ hn aw rfl⟩
  have hrv:=uZ hs (eC.drop ts _ os0) hD hw avs cargs vs ha hv;refine hmono (h w D1 (aw ρ os E) vs (hsince.1 rfl _ _) (fun b o hd=>by
   rw[hD1] at hd;rcases hd with hd | hd
   ·exact hs.dq b o hd
   ·exact hd.1) (hs.Jt hg hD fun b o hd ho=>by
    rw[hD1] at hd;rcases hd with hd | hd
    ·exact hd
    ·exact absurd ho hd.2) hrv) ?_
  rintro e w' ⟨v,D',E',r,os',he,hp,h1,h2,h3,h4,h5,h6,h7,h8⟩;obtain ⟨D2,E2,k1,k2⟩:=hs.pk hg hD (fun h=>by cases h) (hb r os' hp) h1 h2 h3 h5 h4 h8 h6 h7;exact ⟨v,r,os',D2,E2,he,hp,k1,k2⟩
 |false =>
  obtain ⟨hs1,hw⟩:=hs.oS;have hw':ir false (au ts (db (jW ρ os) os0)) D E (oN (au ts os0) D E):=⟨hw.da,fun n T sz es b cap hn aw o hlt=>hw.bX n T sz es b cap (eC.drop ts _ os0 n _ hn) aw o hlt,(fun hb=>by cases hb),fun hb=>by cases hb⟩
  have hrv:=uZ hs (eC.drop ts _ os0) hw.da hw' avs cargs vs ha hv;refine hmono (h w _ (aw ρ os E) vs (hsince.2 rfl) hs1.dq (hs1.Jt hg (fun _ _ h=>h) fun b o hd _=>hd) hrv) ?_;rintro e w' ⟨v,D',E',r,os',he,hp,h1,h2,h3,h4,h5,h6,h7,h8⟩;obtain ⟨D2,E2,k1,k2⟩:=hs1.pk hg (fun _ _ h=>h) (fun _ _ _ h=>h) (hb r os' hp) h1 h2 h3 h5 h4 h8 h6 h7;exact ⟨v,r,os',D2,E2,he,hp,k1,k2⟩
theorem aS.since{A:ae}{a:Act}{w:World}{D:aM}{E E':aW}(h:aS c A a w D E)(aw:∀ n,E' n=E n∨E' n=none):zR c w D E' :=
 ⟨h.dZ,h.cO,h.da,fun n e hn=>by
  rcases aw n with k | k
  ·rw[k];exact h.ed n e hn
  ·exact .inl k,h.fJ⟩
theorem od(c:cS)(f:FuncId):c.bh.fn f:=by unfold cS.bh;split <;>trivial
theorem CI(c:cS):c.bh.depth.isSome=true→1≤9:=fun _=>by omega
theorem mb{a:Act}{w:World} : ∀ f,o.about c.P w a.eval=some f→c.bh.fn f:=fun f _=>od c f
theorem mV{g:b9}(hg:dE c.P o=some g)(r:Option Nat)(ρ:Operand→Value):o.semAt r ρ=execOp ρ o:=by
 cases r with
 |none=>rfl
 |some l =>
  refine Oper.semAt_some l ρ o fun cl h =>?_;unfold dE at hg;rw[h] at hg;simp at hg
theorem SU{f:FuncId}{args:Array Value}{w:World}{R:Ending→World→Prop}(h:Calls c.P f args w R):CallsIn c.bh (9-1) c.P f args w R:=by
 have h1:CallsIn Fence.wide (9-1) c.P f args w R:=callsIn_wide.2 h;unfold cS.bh;split
 ·exact h1
 ·exact h1
theorem sc.mono{P:Program}{v:Value}{vs:Array Value}{w:World}{R R':Ending→World→Prop}(h:sc P v vs w R)(hr:∀ e w,R e w→R' e w):sc P v vs w R':=by
 obtain ⟨l,h1,fn,tmps,assign,body,h2,h3⟩:=h;exact ⟨l,h1,fn,tmps,assign,body,h2,h3.mono hr⟩
theorem ajG{l:Nat}{f:FuncId}{tmps:Array Value}{assign body:Code}{w:World}{R:Ending→World→Prop}(h:RoundIn Fence.wide 9 c.P l f tmps assign body w R):RoundIn c.bh (9-1) c.P l f tmps assign body w R:=by
 have h1:RoundIn Fence.wide (9-1) c.P l f tmps assign body w R:=⟨h.1,fun cc cs _=>h.2 cc cs (room_wide _)⟩
 unfold cS.bh;split
 ·exact h1
 ·exact h1
theorem iN.wp{B:ae}{g:b9}(hg:dE c.P o=some g)(h:iN c A o B){a:Act}{w:World}{K:Act→World→Prop}{Q:Exit→Act→World→Prop}(hs:cw c A a w)(hK:∀ a w,cw c B a w→K a w):o.wpIn c.bh 9 c.P a w K Q:=by
 obtain ⟨D,E,hs⟩:=hs;obtain ⟨w',h⟩:=h a w D E hs;refine ⟨mb,?_⟩;rw[mV hg];rcases h with ⟨v,h1,h2⟩ | ⟨h1,h2⟩
 ·rw[h1];exact hK _ _ h2
 ·rw[h1];exact hK _ _ h2
theorem Ck{dr:Bool}{K:ae→Prop}{f:FuncId}{avs:List I}{a1 a2:Option (List I)}{vs:List Value}{dst:Option Nat}{rest:List az}{a:Act}{w:World}{Kw:Act→World→Prop}{Q:Exit→Act→World→Prop}{g:b9}(hg:dE c.P o=some g)(h1:bZ true A avs=a1)(h2:bZ false A avs=a2)
  (hs:∀ D E,aS c A a w D E→fU (aV w D E) avs vs) (hsim:cw c A a w) (hwp:bj c.P c.Y dr K (.call f avs a1 a2 dst rest A)) (hd:o.dst=dst) (hdn:∀ k,dst=some k→k<c.n)
  (hrun:gR c.P f=true→(execOp a.eval o).run c.P w=.ok (.enter f vs.toArray) w)
  (hK:∀ B a' w',bj c.P c.Y dr K (ay rest B)→cw c B a' w'→Kw a' w'):o.wpIn c.bh 9 c.P a w Kw Q:=by
 obtain ⟨D,E,hsw⟩:=hsim;have oY:∀ {R:Ending→World→Prop},gR c.P f=true→Calls c.P f vs.toArray w R→(∀ e w',R e w'→∃ v,e=.returned v∧Kw (a.put o.dst v) w')→o.wpIn c.bh 9 c.P a w Kw Q:=fun {R} hc hcl hR=>by
  refine ⟨mb,?_⟩;rw[mV hg,hrun hc,Oper.uponIn_enter];refine ⟨CI c,SU (hcl.mono fun e w' he =>?_)⟩;obtain ⟨v,rfl,hv⟩:=hR e w' he;exact hv
 cases hwp with
 |flat r hspec hflat hrest =>
  refine oY hspec.1 (hspec.aky hsw hflat h1 (hs D E hsw)) ?_;rintro e w' ⟨v,D',he,hs',hv⟩;refine ⟨v,he,?_⟩;rw[hd];exact hK _ _ _ hrest ⟨D',E,hs'.aN hdn hv⟩
 |lead r hspec hrest =>
  refine oY hspec.1 (hspec.akA hsw h2 (hs D E hsw)) ?_;rintro e w' ⟨v,D',he,hs',hv⟩;refine ⟨v,he,?_⟩;rw[hd];exact hK _ _ _ hrest ⟨D',E,hs'.aN hdn hv⟩
 |ib ns r hdr hspec hf ho hrest =>
  refine oY hspec.1 (hspec.akz hsw ns ho hf (hs D E hsw)) ?_;rintro e w' ⟨v,D',E',he,hs',hv⟩;refine ⟨v,he,?_⟩;rw[hd];exact hK _ _ _ hrest ⟨D',E',hs'.aN hdn hv⟩
 |bT aA ρ os cargs post hdr hspec hgv ha hb hrest =>
  refine oY hspec.1 (hspec.2.use hsw aA (fun h=>h.mono) ⟨fun _ _ _=>trivial,fun _=>trivial⟩ hgv ha hb (hs D E hsw)) ?_;rintro e w' ⟨v,r,os',D2,E2,he,hp,hs',hv,_⟩;refine ⟨v,he,?_⟩;rw[hd];exact hK _ _ _ (hrest r os' hp) ⟨D2,E2,hs'.aN hdn hv⟩
theorem SS{dr:Bool}{K:ae→Prop}{v:Value}{avs:List I}{vs:List Value}{dst:Option Nat}{rest:List az}{a:Act}{w:World}{Kw:Act→World→Prop}{Q:Exit→Act→World→Prop}{g:b9}(hg:dE c.P o=some g)
  (hs:∀ D E,aS c A a w D E→fU (aV w D E) avs vs) (hsim:cw c A a w) (hwp:bj c.P c.Y dr K (.pt v avs dst rest A)) (hd:o.dst=dst) (hdn:∀ k,dst=some k→k<c.n)
  (hrun:∀ l,v=.func (.yield l) #[] #[]→(execOp a.eval o).run c.P w=(Instr.yield l vs.toArray).run c.P w)
  (hK:∀ B a' w',bj c.P c.Y dr K (ay rest B)→cw c B a' w'→Kw a' w'):o.wpIn c.bh 9 c.P a w Kw Q:=by
 obtain ⟨D,E,hsw⟩:=hsim;cases hwp with
 |zb os cargs post hdr hY hgv ha hb hrest =>
  have hyr:=(hsw.fg _ _ _ _ hY).use (ρ:=[]) hsw false (fun h=>h.mono) ⟨(fun h=>by cases h),fun _=>hsw.oS.1.since (fun n=>by simp only[aw,bx];split <;>simp)⟩ hgv ha hb (hs D E hsw);obtain ⟨l,rfl,fn,tmps,assign,body,h2,h3⟩:=hyr;refine ⟨mb,?_⟩;rw[mV hg,hrun l rfl,h2,Oper.uponIn_round];refine ⟨CI c,ajG (h3.mono fun e w' he =>?_)⟩;obtain ⟨v,r,os',D2,E2,rfl,hp,hs',hv,_⟩:=he;rw[hd];exact hK _ _ _ (hrest r os' hp) ⟨D2,E2,hs'.aN hdn hv⟩
end
section
variable {c:cS} {A:ae} {o:Oper}
theorem u7{P:Program}{n:Nat}{bV:Array Oper}{g:az}(h:pq P n bV o=some g):dE P o=some g.op∧g.dst=o.dst∧(∀ k,o.dst=some k→k<n) ∧
  ((o.guard=none∧g.guard=none)∨∃ j b t,o.guard=some (j,b)∧(bV[j]?).bind (·.dst)=some t∧g.guard=some (t,b)):=by
 unfold pq at h;split at h
 ·cases h
 rename_i g' hg';split at h
 case isFalse=>cases h
 rename_i hd;have hdst:∀ k,o.dst=some k→k<n:=by
  intro k hk;rw[hk] at hd;simpa[CL] using hd
 split at h
 ·rename_i hgd;simp only[u8] at h;subst h;exact ⟨hg',rfl,hdst,.inl ⟨hgd,rfl⟩⟩
 ·rename_i j b hgd;split at h
  ·rename_i t ht;simp only[u8] at h;subst h;exact ⟨hg',rfl,hdst,.inr ⟨j,b,t,hgd,ht,rfl⟩⟩
  ·cases h
theorem Jk{dr:Bool}{K:ae→Prop}{op:b9}{dst:Option Nat}{rest:List az}{a:Act}{w:World}{Kw:Act→World→Prop}{Q:Exit→Act→World→Prop}(hop:dE c.P o=some op)(hd:o.dst=dst)(hdn:∀ k,dst=some k→k<c.n)
  (hsim:cw c A a w) (hK:∀ B a' w',bj c.P c.Y dr K (ay rest B)→cw c B a' w'→Kw a' w') (h:bj c.P c.Y dr K (cR (br A op) fun v=>ay rest (A.aN dst v))):o.wpIn c.bh 9 c.P a w Kw Q:=by
 cases hv:br A op with
 |some v =>
  rw[hv] at h;exact ((aje hop hv).does (by rw[hd];exact hdn)).wp hop hsim (fun a' w' hs=>by rw[hd] at hs;exact hK _ a' w' h hs)
 |none=>rw[hv] at h;cases h
theorem afs{dr:Bool}{K:ae→Prop}{dst:Option Nat}{rest:List az}{a:Act}{w:World}{Kw:Act→World→Prop}{Q:Exit→Act→World→Prop}{z:I}(hop:dE c.P o=some (.alloc z))(hd:o.dst=dst)(hdn:∀ k,dst=some k→k<c.n)
  (hwp:bj c.P c.Y dr K (bd A dst (.alloc z) rest (ay rest))) (hsim:cw c A a w) (hK:∀ B a' w',bj c.P c.Y dr K (ay rest B)→cw c B a' w'→Kw a' w'):o.wpIn c.bh 9 c.P a w Kw Q:=by
 have hop0:=hop;simp only[bd] at hwp;split at hwp
 case h_2=>cases hwp
 rename_i d;split at hwp
 case h_2=>cases hwp
 rename_i hf;unfold dE at hop;split at hop <;>try (first | (simp at hop;done) | ((repeat' split at hop) <;>simp at hop;done))
 rename_i t ho;simp only[zz0,b9.alloc.injEq] at hop;obtain ⟨z',hz,rfl⟩:=hop;exact (XN ho hz hd (hdn d rfl) hf).wp hop0 hsim (fun a' w' hs=>hK _ a' w' hwp hs)
theorem afv{dr:Bool}{K:ae→Prop}{dst:Option Nat}{rest:List az}{a:Act}{w:World}{Kw:Act→World→Prop}{Q:Exit→Act→World→Prop}{x:aJ}(hop:dE c.P o=some (.box x))(hd:o.dst=dst)(hdn:∀ k,dst=some k→k<c.n)
  (hwp:bj c.P c.Y dr K (bd A dst (.box x) rest (ay rest))) (hsim:cw c A a w) (hK:∀ B a' w',bj c.P c.Y dr K (ay rest B)→cw c B a' w'→Kw a' w'):o.wpIn c.bh 9 c.P a w Kw Q:=by
 have hop0:=hop;simp only[bd] at hwp;split at hwp
 case h_2=>cases hwp
 rename_i d;split at hwp
 case h_2=>cases hwp
 rename_i hf;split at hwp
 case isFalse=>cases hwp
 rename_i hv;unfold dE at hop;split at hop <;>try (first | (simp at hop;done) | ((repeat' split at hop) <;>simp at hop;done))
 rename_i t y ho;simp only[zz0,b9.box.injEq] at hop;obtain ⟨z',hz,rfl⟩:=hop;exact (XS ho hz hv hd (hdn d rfl) hf).wp hop0 hsim (fun a' w' hs=>hK _ a' w' hwp hs)
theorem afG{dr:Bool}{K:ae→Prop}{dst:Option Nat}{rest:List az}{a:Act}{w:World}{Kw:Act→World→Prop}{Q:Exit→Act→World→Prop}{s:Option Nat}{x v:aJ}(hop:dE c.P o=some (.bl s x v))(hd:o.dst=dst)(hdn:∀ k,dst=some k→k<c.n)
  (hwp:bj c.P c.Y dr K (bd A dst (.bl s x v) rest (ay rest))) (hsim:cw c A a w) (hK:∀ B a' w',bj c.P c.Y dr K (ay rest B)→cw c B a' w'→Kw a' w'):o.wpIn c.bh 9 c.P a w Kw Q:=by
 have hop0:=hop;simp only[bd] at hwp;split at hwp
 case h_2=>cases hwp
 split at hwp
 case h_2=>cases hwp
 rename_i n p hp;split at hwp
 case h_2=>cases hwp
 rename_i b hb;split at hwp
 case h_2=>cases hwp
 rename_i old hat;split at hwp
 case isFalse=>cases hwp
 rename_i hok;unfold dE at hop;split at hop <;>try (first | (simp at hop;done) | ((repeat' split at hop) <;>simp at hop;done))
 rename_i t y z ho;split at hop
 case h_2=>cases hop
 rename_i s' x' v' h1 h2 h3;split at hop
 case isFalse=>cases hop
 rename_i hk;simp only[u8,b9.bl.injEq] at hop;obtain ⟨rfl,rfl,rfl⟩:=hop;exact (XY ho h1 hk h2 h3 hp hb hat hok.1 hok.2.1 hok.2.2 hd).wp hop0 hsim (fun a' w' hs=>hK _ a' w' hwp hs)
theorem afw{dr:Bool}{K:ae→Prop}{dst:Option Nat}{rest:List az}{a:Act}{w:World}{Kw:Act→World→Prop}{Q:Exit→Act→World→Prop}{f:FuncId}{args:List aJ}(hop:dE c.P o=some (.call f args))(hd:o.dst=dst)(hdn:∀ k,dst=some k→k<c.n)
  (hwp:bj c.P c.Y dr K (bd A dst (.call f args) rest (ay rest))) (hsim:cw c A a w) (hK:∀ B a' w',bj c.P c.Y dr K (ay rest B)→cw c B a' w'→Kw a' w'):o.wpIn c.bh 9 c.P a w Kw Q:=by
 have hop0:=hop;simp only[bd] at hwp;unfold dE at hop;split at hop <;>try (first | (simp at hop;done) | ((repeat' split at hop) <;>simp at hop;done))
 rename_i f' xs ts ho;split at hop
 case isFalse=>simp at hop
 simp only[zz0,b9.call.injEq] at hop;obtain ⟨ys,hys,rfl,rfl⟩:=hop;refine Ck (vs:=xs.toList.map a.eval) hop0 rfl rfl (fun D E hs=>ph hs xs.toList ts.toList ys hys) hsim hwp hd hdn (fun hc =>?_) hK;have e:xs.map a.eval=(xs.toList.map a.eval).toArray:=by apply Array.ext';simp
 simp only[execOp,ho,resolve,Act.eval,Deferred.ofValue,Sem.run_bind,Sem.run_pure,Result.andThen_ok,invoke,Array.append_empty,Array.empty_append,yG hc];rw[←e]
theorem afH{dr:Bool}{K:ae→Prop}{dst:Option Nat}{rest:List az}{a:Act}{w:World}{Kw:Act→World→Prop}{Q:Exit→Act→World→Prop}{f:FuncId}{args:List aJ}(hop:dE c.P o=some (.kC f args))(hd:o.dst=dst)(hdn:∀ k,dst=some k→k<c.n)
  (hwp:bj c.P c.Y dr K (bd A dst (.kC f args) rest (ay rest))) (hsim:cw c A a w) (hK:∀ B a' w',bj c.P c.Y dr K (ay rest B)→cw c B a' w'→Kw a' w'):o.wpIn c.bh 9 c.P a w Kw Q:=by
 have hop0:=hop;simp only[bd] at hwp;unfold dE at hop;split at hop <;>try (first | (simp at hop;done) | ((repeat' split at hop) <;>simp at hop;done))
 rename_i f' xs ts ho;split at hop
 case isTrue=>simp at hop
 simp only[zz0,b9.kC.injEq] at hop;obtain ⟨ys,hys,rfl,rfl⟩:=hop;obtain ⟨D,E,hs⟩:=hsim;cases hwp with
 |ext r hdr hx hw =>
  obtain ⟨v,g1,g2⟩:=hx c a w D E (xs.toList.map a.eval) rfl hs (ph hs xs.toList ts.toList ys hys);have e:xs.map a.eval=(xs.toList.map a.eval).toArray:=by apply Array.ext';simp
  have hrun:(execOp a.eval o).run c.P w=.ok (.value v) w:=by
   simp only[execOp,ho,resolve,Act.eval,Deferred.ofValue,Sem.run_bind,Sem.run_pure,Result.andThen_ok,invoke,Array.append_empty,Array.empty_append];rw[←e] at g1;exact g1
  refine ⟨mb,?_⟩;rw[mV hop0,hrun,Oper.uponIn_value];exact hK _ _ _ hw ⟨D,E,by rw[hd];exact hs.aN hdn g2⟩
theorem afA{dr:Bool}{K:ae→Prop}{dst:Option Nat}{rest:List az}{a:Act}{w:World}{Kw:Act→World→Prop}{Q:Exit→Act→World→Prop} (hop:dE c.P o=some (.jB))(hd:o.dst=dst)(hdn:∀ k,dst=some k→k<c.n)
  (hwp:bj c.P c.Y dr K (bd A dst (.jB) rest (ay rest))) (hsim:cw c A a w) (hK:∀ B a' w',bj c.P c.Y dr K (ay rest B)→cw c B a' w'→Kw a' w'):o.wpIn c.bh 9 c.P a w Kw Q:=by
 have hop0:=hop;simp only[bd] at hwp;split at hwp
 case h_2=>cases hwp
 rename_i d;split at hwp
 case h_2=>cases hwp
 rename_i hf;unfold dE at hop;split at hop <;>try (first | (simp at hop;done) | ((repeat' split at hop) <;>simp at hop;done))
 rename_i t ho;exact (XV ho hd (hdn d rfl) hf).wp hop0 hsim (fun a' w' hs=>hK _ a' w' hwp hs)
theorem afB{dr:Bool}{K:ae→Prop}{dst:Option Nat}{rest:List az}{a:Act}{w:World}{Kw:Act→World→Prop}{Q:Exit→Act→World→Prop}{e:TypeId}{bytes:Nat}{z:I}{n:aJ}(hop:dE c.P o=some (.kp e bytes z n))(hd:o.dst=dst)(hdn:∀ k,dst=some k→k<c.n)
  (hwp:bj c.P c.Y dr K (bd A dst (.kp e bytes z n) rest (ay rest))) (hsim:cw c A a w) (hK:∀ B a' w',bj c.P c.Y dr K (ay rest B)→cw c B a' w'→Kw a' w'):o.wpIn c.bh 9 c.P a w Kw Q:=by
 have hop0:=hop;simp only[bd] at hwp;split at hwp
 case h_2=>cases hwp
 rename_i d;split at hwp
 case h_2=>cases hwp
 rename_i hf;split at hwp
 case h_2=>cases hwp
 rename_i k m hn;split at hwp
 case isFalse=>cases hwp
 rename_i hc;unfold dE at hop;split at hop <;>try (first | (simp at hop;done) | ((repeat' split at hop) <;>simp at hop;done))
 rename_i t l l' ho;split at hop
 case h_2=>cases hop
 rename_i e' n' hu hl;split at hop
 case h_2=>cases hop
 rename_i z' hz;split at hop
 case isFalse=>cases hop
 rename_i hc2;simp only[u8,b9.kp.injEq] at hop;obtain ⟨rfl,rfl,rfl,rfl⟩:=hop;obtain ⟨j,rfl⟩:=Int.eq_ofNat_of_zero_le hc.1;simp only[Int.toNat_natCast] at hc hwp;exact (XW ho (ajK hc2.1) hu hl hn hz hc2.2.1 hc2.2.2 hc.2.1 hc.2.2 hd (hdn d rfl) hf).wp hop0 hsim (fun a' w' hs=>hK _ a' w' hwp hs)
theorem afC{dr:Bool}{K:ae→Prop}{dst:Option Nat}{rest:List az}{a:Act}{w:World}{Kw:Act→World→Prop}{Q:Exit→Act→World→Prop}{ty:cP}{m k v:aJ}(hop:dE c.P o=some (.gv ty m k v))(hd:o.dst=dst)(hdn:∀ k,dst=some k→k<c.n)
  (hwp:bj c.P c.Y dr K (bd A dst (.gv ty m k v) rest (ay rest))) (hsim:cw c A a w) (hK:∀ B a' w',bj c.P c.Y dr K (ay rest B)→cw c B a' w'→Kw a' w'):o.wpIn c.bh 9 c.P a w Kw Q:=by
 have hop0:=hop;simp only[bd] at hwp;split at hwp
 case h_2=>cases hwp
 split at hwp
 case h_2=>cases hwp
 rename_i n hm;split at hwp
 case h_2=>cases hwp
 rename_i ks vs hn;split at hwp
 case h_2=>cases hwp
 rename_i ks' vs' hl;unfold dE at hop;split at hop <;>try (first | (simp at hop;done) | ((repeat' split at hop) <;>simp at hop;done))
 all_goals
  rename_i t mo ko vo ho;split at hop
  case h_2=>cases hop
  rename_i kt et m' k' hu h1 h2;split at hop
  case h_2=>cases hop
  rename_i ty' v' hk h3;simp only[u8,b9.gv.injEq] at hop;obtain ⟨rfl,rfl,rfl,rfl⟩:=hop
 ·exact (CK (.inl ho) hu hk h1 h2 h3 hm hn hl hd).wp hop0 hsim (fun a' w' hs=>hK _ a' w' hwp hs)
 ·exact (CK (.inr ho) hu hk h1 h2 h3 hm hn hl hd).wp hop0 hsim (fun a' w' hs=>hK _ a' w' hwp hs)
theorem afF{dr:Bool}{K:ae→Prop}{dst:Option Nat}{rest:List az}{a:Act}{w:World}{Kw:Act→World→Prop}{Q:Exit→Act→World→Prop}{x:aJ}(hop:dE c.P o=some (.j4 x))(hd:o.dst=dst)(hdn:∀ k,dst=some k→k<c.n)
  (hwp:bj c.P c.Y dr K (bd A dst (.j4 x) rest (ay rest))) (hsim:cw c A a w) (hK:∀ B a' w',bj c.P c.Y dr K (ay rest B)→cw c B a' w'→Kw a' w'):o.wpIn c.bh 9 c.P a w Kw Q:=by
 have hop0:=hop;simp only[bd] at hwp;split at hwp
 case h_2=>cases hwp
 rename_i d;split at hwp
 case h_2=>cases hwp
 rename_i hf;split at hwp
 case h_2=>cases hwp
 rename_i ks vs hx;unfold dE at hop;split at hop <;>try (first | (simp at hop;done) | ((repeat' split at hop) <;>simp at hop;done))
 rename_i t y ho;split at hop
 case h_2=>cases hop
 rename_i kt et hu;simp only[zz0,b9.j4.injEq] at hop;obtain ⟨z,hz,rfl⟩:=hop;exact (XX ho hu hz hx hd (hdn d rfl) hf).wp hop0 hsim (fun a' w' hs=>hK _ a' w' hwp hs)
theorem afE{dr:Bool}{K:ae→Prop}{dst:Option Nat}{rest:List az}{a:Act}{w:World}{Kw:Act→World→Prop}{Q:Exit→Act→World→Prop}{x:aJ}(hop:dE c.P o=some (.iF x))(hd:o.dst=dst)(hdn:∀ k,dst=some k→k<c.n)
  (hwp:bj c.P c.Y dr K (bd A dst (.iF x) rest (ay rest))) (hsim:cw c A a w) (hK:∀ B a' w',bj c.P c.Y dr K (ay rest B)→cw c B a' w'→Kw a' w'):o.wpIn c.bh 9 c.P a w Kw Q:=by
 have hop0:=hop;simp only[bd] at hwp;split at hwp
 case h_2=>cases hwp
 rename_i n hx;split at hwp
 case h_2=>cases hwp
 rename_i ks vs left cur hn;unfold dE at hop;split at hop <;>try (first | (simp at hop;done) | ((repeat' split at hop) <;>simp at hop;done))
 rename_i y ho;simp only[zz0,b9.iF.injEq] at hop;obtain ⟨z,hz,rfl⟩:=hop;obtain ⟨D,E,hs⟩:=hsim;obtain ⟨w',v,hrun,hor⟩:=ahz ho hz hx hn (by rw[hd];exact hdn) hs;refine ⟨mb,?_⟩;rw[mV hop0,hrun,Oper.uponIn_value];rw[hd] at hor;split at hwp
 ·rename_i hl;rcases hor with ⟨_,hor⟩ | ⟨i,k,x,hi,_⟩
  ·exact hK _ _ _ hwp (by rw[hd];exact hor)
  ·rw[hl] at hi;cases hi
 ·rename_i hl;rcases hor with ⟨h,_⟩ | ⟨i,k,x,hi,hk,hx,hor⟩
  ·exact absurd h hl
  ·cases hwp with
   |any hdr hall =>
    have:=hall i hi;simp only[hk,hx] at this;exact hK _ _ _ this (by rw[hd];exact hor)
theorem afx{dr:Bool}{K:ae→Prop}{dst:Option Nat}{rest:List az}{a:Act}{w:World}{Kw:Act→World→Prop}{Q:Exit→Act→World→Prop}{x:aJ}{args:List aJ}(hop:dE c.P o=some (.eF x args))(hd:o.dst=dst)(hdn:∀ k,dst=some k→k<c.n)
  (hwp:bj c.P c.Y dr K (bd A dst (.eF x args) rest (ay rest))) (hsim:cw c A a w) (hK:∀ B a' w',bj c.P c.Y dr K (ay rest B)→cw c B a' w'→Kw a' w'):o.wpIn c.bh 9 c.P a w Kw Q:=by
 have hop0:=hop;simp only[bd] at hwp;unfold dE at hop;split at hop <;>try (first | (simp at hop;done) | ((repeat' split at hop) <;>simp at hop;done))
 rename_i y xs ts _ ho;split at hop
 case h_2=>cases hop
 rename_i y' ys h1 h2;simp only[u8,b9.eF.injEq] at hop;obtain ⟨rfl,rfl⟩:=hop;obtain ⟨D,E,hs⟩:=hsim;have hv:=cj hs h1;split at hwp
 ·rename_i f caps hx;rw[hx] at hv;obtain ⟨cs,q1,q2⟩:=hv;simp only[ah] at q2;obtain ⟨vs,q3,q4⟩:=q2;have hval:a.eval y=.func (.func f) #[] vs.toArray:=by simpa[bD,I.isAgg,q3] using q1.symm
  refine Ck (vs:=xs.toList.map a.eval++vs) hop0 rfl rfl (fun D' E' hs'=>(ph hs' xs.toList ts.toList ys h2).append ?_) ⟨D,E,hs⟩ hwp hd hdn (fun hc =>?_) hK
  ·have hv':=cj hs' h1;rw[hx] at hv';obtain ⟨cs',q1',q2'⟩:=hv';simp only[ah] at q2';obtain ⟨vs',q3',q4'⟩:=q2';have hval':a.eval y=.func (.func f) #[] vs'.toArray:=by simpa[bD,I.isAgg,q3'] using q1'.symm
   rw[hval] at hval';simp only[Value.func.injEq,true_and,Array.mk.injEq] at hval';subst hval';exact yK q4'
  ·have e:xs.map a.eval=(xs.toList.map a.eval).toArray:=by apply Array.ext';simp
   simp only[execOp,ho,resolve,hval,Deferred.ofValue,Sem.run_bind,Sem.run_pure,Result.andThen_ok,invoke,Array.empty_append,yG hc];rw[e];simp
 ·rename_i u hx;rw[hx] at hv;obtain ⟨cs,q1,q2⟩:=hv;simp only[ah] at q2;have hval:a.eval y=u:=by simpa[bD,I.isAgg,q2.1] using q1.symm
  refine SS (vs:=xs.toList.map a.eval) hop0 (fun D' E' hs'=>ph hs' xs.toList ts.toList ys h2) ⟨D,E,hs⟩ hwp hd hdn (fun l hl =>?_) hK;subst hl;have e:xs.map a.eval=(xs.toList.map a.eval).toArray:=by apply Array.ext';simp
  simp only[execOp,ho,resolve,hval,Deferred.ofValue,Sem.run_bind,Sem.run_pure,Result.andThen_ok,invoke,Array.empty_append];rw[e]
 ·cases hwp
theorem afD{dr:Bool}{K:ae→Prop}{dst:Option Nat}{rest:List az}{a:Act}{w:World}{Kw:Act→World→Prop}{Q:Exit→Act→World→Prop}{neg:Bool}{x:aJ}(hop:dE c.P o=some (.nilS neg x))(hd:o.dst=dst)(hdn:∀ k,dst=some k→k<c.n)
  (hwp:bj c.P c.Y dr K (bd A dst (.nilS neg x) rest (ay rest))) (hsim:cw c A a w) (hK:∀ B a' w',bj c.P c.Y dr K (ay rest B)→cw c B a' w'→Kw a' w'):o.wpIn c.bh 9 c.P a w Kw Q:=by
 have hop0:=hop;simp only[bd] at hwp;split at hwp
 case isFalse=>exact Jk hop hd hdn hsim hK hwp
 rename_i hu;cases hwp with
 |any hdr hall =>
 unfold dE at hop;split at hop <;>try (first | (simp at hop;done) | ((repeat' split at hop) <;>simp at hop;done))
 rename_i bop t y z yt ho;split at hop
 ·simp at hop
 ·simp at hop
 ·rename_i e y' z' hut h1 h2;split at hop
  ·rename_i s;split at hop
   ·rename_i hopp;simp only[u8,b9.nilS.injEq] at hop;obtain ⟨rfl,rfl⟩:=hop;have ho':o.op=.binOp (if (bop==.neq)=true then .neq else .eql) t y z yt:=by
     rcases hopp with rfl | rfl <;>simpa using ho
    obtain ⟨D,E,hs⟩:=hsim;have hund:∃ sz,af A y'=.slice sz []∨af A y'=.c0 sz:=by
     generalize af A y'=q at hu;cases q <;>simp only[j9,zz6,List.isEmpty_iff] at hu
     ·rename_i sz;exact ⟨sz,.inr rfl⟩
     ·rename_i sz es;subst hu;exact ⟨sz,.inl rfl⟩
    obtain ⟨b,hrun⟩:=ahA ho' hut h1 h2 hund hs;refine ⟨mb,?_⟩;rw[mV hop0,hrun,Oper.uponIn_value];have hb:=hall (if b then 0 else 1) (by cases b <;>simp);refine hK _ _ _ hb ⟨D,E,?_⟩;rw[hd];have e:((if b=true then (0:Nat) else 1)==0)=b:=by cases b <;>rfl
    rw[e];exact hs.aN hdn (oE b)
   ·cases hop
  ·cases hop
 ·split at hop <;>simp at hop
 ·split at hop <;>simp at hop
 ·cases hop
theorem aft{dr:Bool}{K:ae→Prop}{dst:Option Nat}{rest:List az}{a:Act}{w:World}{Kw:Act→World→Prop}{Q:Exit→Act→World→Prop}{e:TypeId}{esz bytes:Nat}{z:I}{s x:aJ}(hop:dE c.P o=some (.dN e esz bytes z s x))(hd:o.dst=dst)(hdn:∀ k,dst=some k→k<c.n)
  (hwp:bj c.P c.Y dr K (bd A dst (.dN e esz bytes z s x) rest (ay rest))) (hsim:cw c A a w) (hK:∀ B a' w',bj c.P c.Y dr K (ay rest B)→cw c B a' w'→Kw a' w'):o.wpIn c.bh 9 c.P a w Kw Q:=by
 have hop0:=hop;simp only[bd] at hwp;unfold dE at hop;split at hop <;>try (first | (simp at hop;done) | ((repeat' split at hop) <;>simp at hop;done))
 rename_i args tys ho;split at hop
 case h_2=>cases hop
 rename_i y q t t' ha ht;split at hop
 case h_2=>cases hop
 rename_i e' s' x' k1 k2 k3;split at hop
 case isFalse=>split at hop <;>simp at hop
 rename_i hk;simp only[zz0,b9.dN.injEq] at hop;obtain ⟨zz,hz1,rfl,rfl,rfl,rfl,rfl,rfl⟩:=hop;obtain ⟨rfl,hk2,hk3⟩:=hk;have ha':args = #[y,q]:=by apply Array.ext';simpa using ha
 have ht':tys = #[t,t]:=by apply Array.ext';simpa using ht
 subst ha' ht';rw[hz1] at hk3;simp only[zy4,u8] at hk3;have hinfo:(c.P.info? e').isSome=true:=by
  obtain ⟨ti,_,hti,_⟩:=l7 hz1;rw[hti];rfl
 have grow:∀ es ys,eI A (c.P.cellsOf e') (af A s')=some es→eI A (c.P.cellsOf e') (af A x')=some ys→ys≠[]→(∀ a w D E,aS c A a w D E→∀ ad l cp,a.eval y=.slice ad l cp→cp<l+ys.length) →
   bj c.P c.Y dr K (gO A dst (c.P.cellsOf e') (c.P.bytesOf e') zz es ys (ay rest))→o.wpIn c.bh 9 c.P a w Kw Q:=fun es ys hse hsx hne hfull h=>by
  simp only[gO] at h;split at h
  case h_2=>cases h
  rename_i d;split at h
  case h_2=>cases h
  rename_i hf;split at h
  case isFalse=>cases h
  rename_i hb;cases h with
  |any hdr hall =>
   obtain ⟨D,E,hs⟩:=hsim;obtain ⟨v,w',m,g1,g2,g3⟩:=Qm ho k1 k2 k3 hz1 hk3 hse hsx hb.1 hd (hdn d rfl) hf hne hs (hfull a w D E hs) hb.2;refine ⟨mb,?_⟩;rw[mV hop0,g1,Oper.uponIn_value,hd];rw[hd] at g3;exact hK _ _ _ (hall m g2) g3
 split at hwp
 ·rename_i n l hs';split at hwp
  case h_2=>cases hwp
  rename_i sz ys hx';split at hwp
  case h_3=>cases hwp
  case h_2 =>
   rename_i T xs hn;split at hwp
   case isFalse=>cases hwp
   rename_i hok;obtain ⟨h1,h2,h3,h4,h5,h6,h7,h8⟩:=hok;subst h3 h4;have hl5:ys.length=(qX ys).length:=(congrArg List.length h5).trans (by simp);rw[hl5] at h7 h8 hwp;rw[h5] at hx';have hd':=XP (o:=o) ho k1 k2 k3 hz1 h2 hs' hn h1 hx' (fun e=>h6 (by rw[h5,e];rfl)) h7 h8 (by rw[hd];exact hdn);exact hd'.wp hop0 hsim (fun a' w' hs=>by rw[hd] at hs;exact hK _ a' w' hwp hs)
  rename_i T sz' es hn;split at hwp
  case isFalse=>cases hwp
  rename_i hok;obtain ⟨h1,h2,h3,h4,h5,h6,h7⟩:=hok;subst h2 h3 h4;have hd':=XO (o:=o) ho k1 k2 k3 hz1 hk3 hk2 hs' hn h1 hx' rfl h5 h6 h7 (by rw[hd];exact hdn);exact hd'.wp hop0 hsim (fun a' w' hs=>by rw[hd] at hs;exact hK _ a' w' hwp hs)
 ·simp only[fD] at hwp;split at hwp
  case h_2=>cases hwp
  rename_i es ys hse hsx;split at hwp
  ·rename_i hne;subst hne;exact ((XR ho k1 hinfo k2 k3 hse hsx).does (by rw[hd];exact hdn)).wp hop0 hsim (fun a' w' hs=>by rw[hd] at hs;exact hK _ a' w' hwp hs)
  ·rename_i hne;have hpos:0<ys.length:=List.length_pos_iff.2 hne;split at hwp
   ·rename_i z0 hsv;refine grow es ys hse hsx hne (fun a w D E hs ad l cp hv =>?_) hwp;have h0:=cj hs k2;rw[hsv] at h0;obtain ⟨cs,q1,q2⟩:=h0;simp only[ah] at q2;have:a.eval y=.slice none 0 0:=by simpa[bD,I.isAgg,q2] using q1.symm
    rw[this] at hv;simp only[Value.slice.injEq] at hv;omega
   ·rename_i z0 hsv;refine grow es ys hse hsx hne (fun a w D E hs ad l cp hv =>?_) hwp;have h0:=cj hs k2;rw[hsv] at h0;obtain ⟨cs,q1,q2⟩:=h0;simp only[ah] at q2;obtain ⟨ad',q2⟩:=q2;have:a.eval y=.slice ad' 0 0:=by simpa[bD,I.isAgg,q2] using q1.symm
    rw[this] at hv;simp only[Value.slice.injEq] at hv;omega
   ·rename_i n p sz lo l hsv;split at hwp
    case h_2=>cases hwp
    rename_i b hn;split at hwp
    case h_2=>cases hwp
    rename_i fs hat;split at hwp
    ·rename_i hroom;split at hwp
     case isFalse=>cases hwp
     rename_i hok;obtain ⟨rfl,hsh⟩:=hok;exact (XQ ho k1 hinfo k2 k3 hsv hn hat hsx hroom hsh (by rw[hd];exact hdn)).wp hop0 hsim (fun a' w' hs=>by rw[hd] at hs;exact hK _ a' w' hwp hs)
    ·rename_i hroom;refine grow es ys hse hsx hne (fun a w D E hs ad l' cp hv =>?_) hwp;have h0:=cj hs k2;rw[hsv] at h0;obtain ⟨_,bb,cs,T,off,c1,c2,c3,_,_,_,_,_,_,_,_,_,_,r1,dL,tS⟩:=hs.view (fs:=fs) h0 (by simp only[cB,hn,hat]);rw[tS] at hv;simp only[Value.slice.injEq] at hv;omega
   ·cases hwp
theorem afu{dr:Bool}{K:ae→Prop}{dst:Option Nat}{rest:List az}{a:Act}{w:World}{Kw:Act→World→Prop}{Q:Exit→Act→World→Prop}{e:TypeId}{esz bytes:Nat}{z:I}{s n:aJ}(hop:dE c.P o=some (.me e esz bytes z s n))(hd:o.dst=dst)(hdn:∀ k,dst=some k→k<c.n)
  (hwp:bj c.P c.Y dr K (bd A dst (.me e esz bytes z s n) rest (ay rest))) (hsim:cw c A a w) (hK:∀ B a' w',bj c.P c.Y dr K (ay rest B)→cw c B a' w'→Kw a' w'):o.wpIn c.bh 9 c.P a w Kw Q:=by
 have hop0:=hop;simp only[bd] at hwp;unfold dE at hop;split at hop <;>try (first | (simp at hop;done) | ((repeat' split at hop) <;>simp at hop;done))
 rename_i args tys ho;split at hop
 case h_2=>cases hop
 rename_i y q t t' ha ht;split at hop
 case h_2=>cases hop
 rename_i e' s' x' k1 k2 k3;split at hop
 case isTrue=>simp at hop
 split at hop
 case isFalse=>cases hop
 rename_i hk;simp only[zz0,b9.me.injEq] at hop;obtain ⟨zz,hz1,rfl,rfl,rfl,rfl,rfl,rfl⟩:=hop;obtain ⟨hint,hk2,hk3⟩:=hk;have ha':args = #[y,q]:=by apply Array.ext';simpa using ha
 have ht':tys = #[t,t']:=by apply Array.ext';simpa using ht
 subst ha' ht';rw[hz1] at hk3;simp only[zy4,u8] at hk3;obtain ⟨kt,hkt⟩:∃ kt,c.P.underlying t'=some (.int kt):=by
  cases hu:c.P.underlying t' with
  |none=>rw[hu] at hint;cases hint
  |some dsc=>cases dsc <;>rw[hu] at hint <;>first | exact ⟨_,rfl⟩ | cases hint
 split at hwp
 case h_2=>cases hwp
 rename_i kx bg hx';simp only[uX] at hwp;split at hwp
 case h_2=>cases hwp
 rename_i es hse;split at hwp
 case h_2=>cases hwp
 rename_i nn p sz lo l hsv;split at hwp
 case h_2=>cases hwp
 rename_i bb hn;split at hwp
 case h_2=>cases hwp
 rename_i fs hat;split at hwp
 case isFalse=>cases hwp
 rename_i hroom;simp only[gO] at hwp;split at hwp
 case h_2=>cases hwp
 rename_i d;split at hwp
 case h_2=>cases hwp
 rename_i hf;split at hwp
 case isFalse=>cases hwp
 rename_i hb;rw[List.length_replicate] at hb;cases hwp with
 |any hdr hall =>
  obtain ⟨D,E,hs⟩:=hsim;obtain ⟨v,w',m,g1,g2,g3⟩:=Qp ho k1 k2 k3 hkt hx' rfl hroom.1 hk2 hz1 hk3 hse hb.1 hd (hdn d rfl) hf hs (fun ad l' cp hv=>by
   have h0:=cj hs k2;rw[hsv] at h0;have hsv':=hse;obtain ⟨_,b1,cs,T,off,c1,c2,c3,_,_,_,_,_,_,_,_,_,_,r1,dL,tS⟩:=hs.view (fs:=fs) h0 (by simp only[cB,hn,hat]);rw[tS] at hv;simp only[Value.slice.injEq] at hv;have hel:es.length=l:=by
    rw[hsv] at hse;simp only[eI,cB,hn,hat] at hse;split at hse
    ·simp only[u8] at hse;rw[←hse,zx3,zx0];omega
    ·cases hse
   omega) hb.2
  refine ⟨mb,?_⟩;rw[mV hop0,g1,Oper.uponIn_value,hd];rw[hd] at g3;have:=hall m (by rw[List.length_replicate];exact g2);rw[List.length_replicate] at this;exact hK _ _ _ this g3
theorem afy{dr:Bool}{K:ae→Prop}{dst:Option Nat}{rest:List az}{a:Act}{w:World}{Kw:Act→World→Prop}{Q:Exit→Act→World→Prop}{esz:Nat}{z:I}{x:aJ}(hop:dE c.P o=some (.js esz z x))(hd:o.dst=dst)(hdn:∀ k,dst=some k→k<c.n)
  (hwp:bj c.P c.Y dr K (bd A dst (.js esz z x) rest (ay rest))) (hsim:cw c A a w) (hK:∀ B a' w',bj c.P c.Y dr K (ay rest B)→cw c B a' w'→Kw a' w'):o.wpIn c.bh 9 c.P a w Kw Q:=by
 have hop0:=hop;simp only[bd] at hwp;split at hwp
 case h_2=>cases hwp
 unfold dE at hop;split at hop <;>try (first | (simp at hop;done) | ((repeat' split at hop) <;>simp at hop;done))
 rename_i args tys ho;split at hop
 case h_2=>cases hop
 rename_i y t ha ht;split at hop
 case h_2=>cases hop
 rename_i e' x' k1 k2;simp only[zz0,b9.js.injEq] at hop;obtain ⟨zz,hz1,rfl,rfl,rfl⟩:=hop;have ha':args = #[y]:=by apply Array.ext';simpa using ha
 have ht':tys = #[t]:=by apply Array.ext';simpa using ht
 subst ha' ht';have nothing:bj c.P c.Y dr K (ay rest A)→(∀ a w D E,aS c A a w D E→∃ ad cp,a.eval y=.slice ad 0 cp)→o.wpIn c.bh 9 c.P a w Kw Q:=fun h hv=>by
  obtain ⟨D,E,hs⟩:=hsim;obtain ⟨ad,cp,hv⟩:=hv a w D E hs;refine ⟨mb,?_⟩;have hrun:(execOp a.eval o).run c.P w=.ok (.value (.tuple #[])) w:=by
   cases ad <;>simp[execOp,ho,resolve,invoke,builtin,Builtin.clear_,run_underlying k1,hv]
  rw[mV hop0,hrun,Oper.uponIn_value,hd];exact hK _ _ _ h ⟨D,E,hs⟩
 unfold nc at hwp;split at hwp
 ·rename_i n p sz lo l hv;split at hwp
  case h_2=>cases hwp
  rename_i b hn;split at hwp
  case h_2=>cases hwp
  rename_i fs hat;split at hwp
  case isFalse=>cases hwp
  rename_i hok;obtain ⟨rfl,hsh⟩:=hok;exact (XT ho k1 k2 hz1 hv hn hat hsh hd).wp hop0 hsim (fun a' w' hs=>hK _ a' w' hwp hs)
 ·rename_i z0 hv;refine nothing hwp fun a w D E hs =>?_;have h0:=cj hs k2;rw[hv] at h0;obtain ⟨cs,q1,q2⟩:=h0;simp only[ah] at q2;exact ⟨none,0,by simpa[bD,I.isAgg,q2] using q1.symm⟩
 ·rename_i z0 hv;refine nothing hwp fun a w D E hs =>?_;have h0:=cj hs k2;rw[hv] at h0;obtain ⟨cs,q1,q2⟩:=h0;simp only[ah] at q2;obtain ⟨ad,q2⟩:=q2;exact ⟨ad,0,by simpa[bD,I.isAgg,q2] using q1.symm⟩
 ·cases hwp
theorem afz{dr:Bool}{K:ae→Prop}{dst:Option Nat}{rest:List az}{a:Act}{w:World}{Kw:Act→World→Prop}{Q:Exit→Act→World→Prop}{esz:Nat}{x y:aJ}(hop:dE c.P o=some (.lC esz x y))(hd:o.dst=dst)(hdn:∀ k,dst=some k→k<c.n)
  (hwp:bj c.P c.Y dr K (bd A dst (.lC esz x y) rest (ay rest))) (hsim:cw c A a w) (hK:∀ B a' w',bj c.P c.Y dr K (ay rest B)→cw c B a' w'→Kw a' w'):o.wpIn c.bh 9 c.P a w Kw Q:=by
 have hop0:=hop;simp only[bd] at hwp;unfold dE at hop;split at hop <;>try (first | (simp at hop;done) | ((repeat' split at hop) <;>simp at hop;done))
 rename_i args tys ho;split at hop
 case h_2=>cases hop
 rename_i u v t t' ha ht;split at hop
 case h_2=>cases hop
 rename_i e' x' y' k1 k2 k3;split at hop
 case isFalse=>cases hop
 rename_i hk;simp only[u8,b9.lC.injEq] at hop;obtain ⟨rfl,rfl,rfl⟩:=hop;obtain ⟨rfl,hinfo⟩:=hk;have ha':args = #[u,v]:=by apply Array.ext';simpa using ha
 have ht':tys = #[t,t]:=by apply Array.ext';simpa using ht
 subst ha' ht';unfold sy at hwp;split at hwp
 ·rename_i n p sz lo l ys hv hsx;split at hwp
  case h_2=>cases hwp
  rename_i b hn;split at hwp
  case h_2=>cases hwp
  rename_i fs hat;split at hwp
  case isFalse=>cases hwp
  rename_i hok;obtain ⟨rfl,hsh⟩:=hok;exact (XU ho k1 hinfo k2 k3 hv hn hat hsx rfl hsh (by rw[hd];exact hdn)).wp hop0 hsim (fun a' w' hs=>by rw[hd] at hs;exact hK _ a' w' hwp hs)
 ·cases hwp
theorem wS{dr:Bool}{K:ae→Prop}{op:b9}{dst:Option Nat}{rest:List az}{a:Act}{w:World}{Kw:Act→World→Prop}{Q:Exit→Act→World→Prop}(hop:dE c.P o=some op)(hd:o.dst=dst)(hdn:∀ k,dst=some k→k<c.n)
  (hwp:bj c.P c.Y dr K (bd A dst op rest (ay rest))) (hsim:cw c A a w) (hK:∀ B a' w',bj c.P c.Y dr K (ay rest B)→cw c B a' w'→Kw a' w'):o.wpIn c.bh 9 c.P a w Kw Q:=by
 cases op with
 |alloc z=>exact afs hop hd hdn hwp hsim hK
 |box x=>exact afv hop hd hdn hwp hsim hK
 |bl s x v=>exact afG hop hd hdn hwp hsim hK
 |call f args=>exact afw hop hd hdn hwp hsim hK
 |kC f args=>exact afH hop hd hdn hwp hsim hK
 |jB=>exact afA hop hd hdn hwp hsim hK
 |kp e bytes z n=>exact afB hop hd hdn hwp hsim hK
 |gv ty m k v=>exact afC hop hd hdn hwp hsim hK
 |j4 x=>exact afF hop hd hdn hwp hsim hK
 |iF x=>exact afE hop hd hdn hwp hsim hK
 |eF x args=>exact afx hop hd hdn hwp hsim hK
 |nilS neg x=>exact afD hop hd hdn hwp hsim hK
 |dN e esz bytes z s x=>exact aft hop hd hdn hwp hsim hK
 |me e esz bytes z s n=>exact afu hop hd hdn hwp hsim hK
 |js esz z x=>exact afy hop hd hdn hwp hsim hK
 |lC esz x y=>exact afz hop hd hdn hwp hsim hK
 |_=>exact Jk hop hd hdn hsim hK (by simpa only[bd] using hwp)
theorem xa{j t:Nat}{bV:Array Oper}{a:Act}{w:World}{b b':Bool}(hs:cw c A a w)(hg:o.guard=some (j,b))(ht:(bV[j]?).bind (·.dst)=some t)(hv:A.t t=.bool b'):Region.wanted o (yielded bV a.tmps)=(b'==b):=by
 obtain ⟨D,E,hs⟩:=hs;have h:=hs.eB t;rw[hv] at h;have h:=lZ h;have hy:yielded bV a.tmps j=some b':=by
  unfold yielded;rw[ht];simp only[Option.bind_some];simp only[Array.getD_eq_getD_getElem?] at h;cases hh:a.tmps[t]? with
  |none=>simp[hh,undef] at h
  |some v=>simp only[hh,Option.getD_some] at h;subst h;rfl
 unfold Region.wanted;rw[hg];simp only[hy];cases b <;>cases b' <;>rfl
theorem xb{j t:Nat}{bV:Array Oper}{a:Act}{w:World}{b:Bool}(hs:cw c A a w)(hg:o.guard=some (j,b))(ht:(bV[j]?).bind (·.dst)=some t)(hv:A.t t=.undef):Region.wanted o (yielded bV a.tmps)=false:=by
 obtain ⟨D,E,hs⟩:=hs;have h:=hs.eB t;rw[hv] at h;simp only[aV] at h;have hy:yielded bV a.tmps j=none:=by
  unfold yielded;rw[ht];simp only[Option.bind_some];simp only[Array.getD_eq_getD_getElem?] at h;cases hh:a.tmps[t]? with
  |none=>rfl
  |some v=>simp only[hh,Option.getD_some] at h;subst h;rfl
 unfold Region.wanted;rw[hg];simp only[hy];rfl
theorem cw.qa{a:Act}{w:World}(h:cw c A a w){d:Option Nat}(hd:∀ k,d=some k→k<c.n):cw c (A.aN d .undef) (a.put d undef) w:=by
 obtain ⟨D,E,h⟩:=h;exact ⟨D,E,h.aN hd (by simp[aV])⟩
theorem sY{dr:Bool}{K:ae→Prop}{bV:Array Oper}{Q:Exit→Act→World→Prop}(hQ:∀ B a w,K B→cw c B a w→Q .normal a w):∀ (l:List Oper) (gs:List az) (A:ae) (a:Act) (w:World),kI c.P c.n bV l=some gs→bj c.P c.Y dr K (ay gs A) →
  cw c A a w→wpListIn c.bh 9 c.P bV Q l a w
 | [],gs,A,a,w,hc,hwp,hs=>by
  simp only[kI,u8] at hc;subst hc;simp only[ay] at hwp;cases hwp with
  |done hk=>exact hQ A a w hk hs
 |o::l,gs,A,a,w,hc,hwp,hs=>by
  simp only[kI] at hc;split at hc
  case h_2=>cases hc
  rename_i g gs' hg hgs;simp only[u8] at hc;subst hc;obtain ⟨h1,h2,h3,h4⟩:=u7 hg;have step:bj c.P c.Y dr K (bd A g.dst g.op gs' (ay gs'))→o.wpIn c.bh 9 c.P a w (wpListIn c.bh 9 c.P bV Q l) Q:=fun h =>
   wS h1 h2.symm (by rw[h2];exact h3) h hs (fun B a' w' hw hs'=>sY hQ l gs' B a' w' hgs hw hs')
  simp only[wpListIn];simp only[ay] at hwp;rcases h4 with ⟨h5,h6⟩ | ⟨j,b,t,h5,h6,h7⟩
  ·rw[h6] at hwp;have hw:Region.wanted o (yielded bV a.tmps)=true:=by simp[Region.wanted,h5]
   rw[hw,if_pos rfl];exact step hwp
  ·rw[h7] at hwp;simp only at hwp;split at hwp
   ·rename_i b' hb';rw[xa hs h5 h6 hb'];split at hwp
    ·rename_i hbb;subst hbb;simp only[BEq.rfl,if_true];exact step hwp
    ·rename_i hbb;have:(b'==b)=false:=by simpa using hbb
     rw[this];simp only[zz6,if_false];exact ⟨fun f _=>od c f,sY hQ l gs' _ _ w hgs hwp (by rw[h2];exact hs.qa h3)⟩
   ·rename_i hb';rw[xb hs h5 h6 hb'];simp only[zz6,if_false];exact ⟨fun f _=>od c f,sY hQ l gs' _ _ w hgs hwp (by rw[h2];exact hs.qa h3)⟩
   ·cases hwp
end
def aJ.sl:aJ→List Nat
 | .t n=>[n]
 | .c _=>[]
def tC:Option aJ→List Nat
 |some x=>x.sl
 |none=>[]
def j6(l:List aJ):List Nat:=l.flatMap aJ.sl
def b9.c7:b9→List Nat
 | .mv x=>x.sl
 | .pick c a b=>c.sl++(a.sl++b.sl)
 | .bin _ x y=>x.sl++y.sl
 | .eqv _ _ x y=>x.sl++y.sl
 | .nilS _ x=>x.sl
 | .conv _ x=>x.sl
 | .un _ x=>x.sl
 | .ld _ x=>x.sl
 | .fa _ _ x=>x.sl
 | .fl _ _ _ x=>x.sl
 | .ia _ _ x i=>x.sl++i.sl
 | .is _ x i=>x.sl++i.sl
 | .ix _ _ _ x i=>x.sl++i.sl
 | .len x=>x.sl
 | .lenT x=>x.sl
 | .va _ _ x=>x.sl
 | .sl _ x lo hi mx=>x.sl++(tC lo++(tC hi++tC mx))
 | .bld _ ps=>j6 (ps.map (·.2))
 | .bs _ _ ps=>j6 ps
 | .ext x _=>x.sl
 | .mk _ caps=>j6 caps
 | .alloc _=>[]
 | .box x=>x.sl
 | .bl _ x v=>x.sl++v.sl
 | .dN _ _ _ _ s x=>s.sl++x.sl
 | .me _ _ _ _ s x=>s.sl++x.sl
 | .cap x=>x.sl
 | .bs0 _=>[]
 | .js _ _ x=>x.sl
 | .lC _ x y=>x.sl++y.sl
 | .call _ args=>j6 args
 | .eF x args=>x.sl++j6 args
 | .kC _ args=>j6 args
 | .nilC x=>x.sl
 | .ptrE _ x y=>x.sl++y.sl
 | .kp _ _ _ n=>n.sl
 | .jB=>[]
 | .lk _ _ _ m k=>m.sl++k.sl
 | .gv _ m k v=>m.sl++(k.sl++v.sl)
 | .j4 x=>x.sl
 | .iF x=>x.sl
 | .ent x=>x.sl
def az.c7(g:az):List Nat:=g.op.c7++(match g.guard with | some (t,_)=>[t] | none=>[])
def b9.gD:b9→Nat
 | .mv _ | .pick .. | .bin .. | .eqv .. | .nilS .. | .conv .. | .un .. | .fl .. | .ix .. | .lenT _ | .bld .. | .ext .. | .mk .. | .nilC _ | .ptrE .. =>0
 | .ld .. | .fa .. | .ia .. | .is .. | .len _ | .va .. | .bs .. | .sl .. | .cap _ | .bs0 _ | .lk .. | .ent _=>1
 | .call .. | .eF .. =>2
 | .alloc _ | .box _=>3
 | .bl .. =>4
 | .dN .. | .me .. | .js .. | .lC .. | .kC .. | .kp .. | .jB | .gv .. | .j4 _ | .iF _=>5
def vm(a b:Nat):Bool:=(decide (a≤2)&&decide (b≤3))||(a==0&&b==4)
def nx(g h:az):Bool:=vm g.op.gD h.op.gD&&(match g.dst with
  |some d => !h.c7.contains d&&h.dst != some d
  |none=>true)&&(match h.dst with
  |some d => !g.c7.contains d
  |none=>true)
def en(A A':ae)(l:List Nat):Prop:=∀ k∈l,A'.t k=A.t k
section
variable {A A':ae}
theorem dh{x:aJ}(h:en A A' x.sl):af A' x=af A x:=by
 cases x with
 |t n=>exact h n (by simp[aJ.sl])
 |c x=>rfl
theorem en.l{l m:List Nat}(h:en A A' (l++m)):en A A' l:=fun k hk=>h k (List.mem_append_left _ hk)
theorem en.r{l m:List Nat}(h:en A A' (l++m)):en A A' m:=fun k hk=>h k (List.mem_append_right _ hk)
theorem mu:∀ {l:List aJ},en A A' (j6 l)→l.map (af A')=l.map (af A)
 | [],_=>rfl
 |x::l,h=>by
  simp only[j6,List.flatMap_cons] at h;simp only[zz9,dh h.l,mu (l:=l) h.r]
theorem pC{x:Option aJ}(h:en A A' (tC x)):x.map (af A')=x.map (af A):=by
 cases x with
 |none=>rfl
 |some x=>simp only[zy4,dh (x:=x) h]
theorem C3:∀ {l:List (Nat×aJ)},en A A' (j6 (l.map (·.2)))→(l.map fun p=>(p.1,af A' p.2))=l.map fun p=>(p.1,af A p.2)
 | [],_=>rfl
 |x::l,h=>by
  simp only[j6,zz9,List.flatMap_cons] at h;simp only[zz9,dh h.l,C3 (l:=l) h.r]
theorem rp{f g:I→Option I}(h:∀ x v,f x=some v→g x=some v):∀ {xs vs:List I},fy f xs=some vs→fy g xs=some vs
 | [],vs,hx=>by simpa only[fy] using hx
 |x::xs,vs,hx=>by
  simp only[fy] at hx ⊢;cases h1:f x with
  |none=>rw[h1] at hx;cases hx
  |some y=>cases h2:fy f xs with
   |none=>rw[h1,h2] at hx;cases hx
   |some ys=>rw[h1,h2] at hx;rw[h x y h1,rp h h2];exact hx
theorem vL(hu:eC A A'):∀ (k:Nat) (x v:I),dK A k x=some v→dK A' k x=some v
 |0,_,_,h=>by simp[dK] at h
 |k+1,x,v,h=>by
  have ih:=vL hu k;simp only[dK] at h ⊢;split at h
  ·rename_i hc;rw[if_pos hc];exact h
  ·rename_i hc;rw[if_neg hc];cases x <;>simp only[] at h ⊢ <;>try (cases h;done)
   case agg fs =>
    simp only[zz0] at h ⊢;obtain ⟨a,h1,h2⟩:=h;exact ⟨a,rp ih h1,h2⟩
   case func f fs =>
    simp only[zz0] at h ⊢;obtain ⟨a,h1,h2⟩:=h;exact ⟨a,rp ih h1,h2⟩
   case ptr n p =>
    cases hd:cB A (.ptr n p) with
    |none=>rw[hd] at h;cases h
    |some y =>
     rw[hd] at h;rw[jR hu hd];simp only[zz0] at h ⊢;obtain ⟨a,h1,h2⟩:=h;exact ⟨a,ih _ _ h1,h2⟩
   case view n p sz lo l =>
    cases hd:cB A (.ptr n p) with
    |none=>rw[hd] at h;cases h
    |some y=>rw[hd] at h;rw[jR hu hd];exact h
   case mref n =>
    cases ho:A.o n with
    |none=>rw[ho] at h;cases h
    |some y =>
     rw[ho] at h;rw[hu n y ho];cases y <;>try (cases h;done)
     simp only at h ⊢;split at h
     ·rename_i hk;rw[if_pos hk];simp only[zz0] at h ⊢;obtain ⟨a,h1,h2⟩:=h;exact ⟨a,rp ih h1,h2⟩
     ·cases h
   case own n l =>
    cases ho:A.o n with
    |none=>rw[ho] at h;cases h
    |some y=>rw[ho] at h;rw[hu n y ho];exact h
mutual
theorem Dg(hu:eC A A'){aA:Bool} : ∀ {x v:I},a7 aA A x=some v→a7 aA A' x=some v
 | .ptr n p,v,h=>by
  simp only[a7] at h ⊢;cases aA <;>simp only[zz6,if_false,if_true] at h ⊢
  ·exact h
  ·cases hd:cB A (.ptr n p) with
   |none=>rw[hd] at h;cases h
   |some y =>
    rw[hd] at h;rw[jR hu hd];simp only at h ⊢;split at h
    ·rename_i hc;rw[if_pos hc];exact h
    ·rename_i hc;rw[if_neg hc];simp only[zz0] at h ⊢;obtain ⟨a,h1,h2⟩:=h;exact ⟨a,vL hu 9 _ _ h1,h2⟩
 | .mref n,v,h=>by
  simp only[a7] at h ⊢;cases aA <;>simp only[zz6,if_false,if_true] at h ⊢
  ·exact h
  ·cases ho:A.o n with
   |none=>rw[ho] at h;cases h
   |some y =>
    rw[ho] at h;rw[hu n y ho];cases y <;>try (cases h;done)
    simp only at h ⊢;split at h
    ·rename_i hk;rw[if_pos hk];simp only[zz0] at h ⊢;obtain ⟨a,h1,h2⟩:=h;exact ⟨a,rp (vL hu 9) h1,h2⟩
    ·cases h
 | .dv _,_,h=>by simp[a7] at h
 | .cI _ _,_,h=>by simpa only[a7] using h
 | .own n k,v,h=>by
  simp only[a7] at h ⊢;cases ho:A.o n with
  |none=>rw[ho] at h;cases h
  |some y=>rw[ho] at h;rw[hu n y ho];exact h
 | .view n p sz lo k,v,h=>by
  simp only[a7] at h ⊢;cases aA <;>simp only[zz6,if_false,if_true] at h ⊢
  ·exact h
  ·cases hd:cB A (.ptr n p) with
   |none=>rw[hd] at h;cases h
   |some y=>rw[hd] at h;rw[jR hu hd];exact h
 | .func f caps,v,h=>by
  simp only[a7,zz0] at h ⊢;obtain ⟨a,h1,h2⟩:=h;exact ⟨a,lK hu h1,h2⟩
 | .agg fs,v,h=>by
  simp only[a7,zz0] at h ⊢;obtain ⟨a,h1,h2⟩:=h;exact ⟨a,lK hu h1,h2⟩
 | .nils _,_,h | .c0 _,_,h | .tuple _,_,h | .undef,_,h | .dp,_,h | .bool _,_,h | .int _ _,_,h | .cY _,_,h | .nilp,_,h | .df,_,h | .dY,_,h | .raw _,_,h | .slice _ _,_,h | .ref _,_,h | .iface _ _,_,h=>by simpa only[a7] using h
theorem lK(hu:eC A A'){aA:Bool} : ∀ {xs vs:List I},bZ aA A xs=some vs→bZ aA A' xs=some vs
 | [],vs,h=>by simpa only[bZ] using h
 |x::xs,vs,h=>by
  simp only[bZ] at h ⊢;cases h1:a7 aA A x with
  |none=>rw[h1] at h;cases h
  |some y=>cases h2:bZ aA A xs with
   |none=>rw[h1,h2] at h;cases h
   |some ys=>rw[h1,h2] at h;rw[Dg hu h1,lK hu h2];exact h
end
theorem yl{op:b9}(hc:op.gD=0)(h:en A A' op.c7):br A' op=br A op:=by
 cases op <;>simp only[b9.gD] at hc <;>try (cases hc;done)
 all_goals simp only[b9.c7] at h
 case mv x=>simp only[br,dh h]
 case pick c a b=>simp only[br,dh h.l,dh h.r.l,dh h.r.r]
 case bin _ x y=>simp only[br,dh h.l,dh h.r]
 case eqv _ _ x y=>simp only[br,dh h.l,dh h.r]
 case nilS x=>simp only[br,dh h]
 case conv x=>simp only[br,dh h]
 case un x=>simp only[br,dh h]
 case fl x=>simp only[br,dh h]
 case ix x i=>simp only[br,dh h.l,dh h.r]
 case lenT x=>simp only[br,dh h]
 case bld zs ps=>simp only[br,C3 h]
 case ext x i=>simp only[br,dh h]
 case mk f caps=>simp only[br,mu h]
 case nilC x=>simp only[br,dh h]
 case ptrE neg x y=>simp only[br,dh h.l,dh h.r]
theorem aha(hu:eC A A'){m:I}{q:List I×List I}(h:gu A m=some q):gu A' m=some q:=by
 cases m with
 |mref n =>
  simp only[gu] at h ⊢;cases hd:A.o n with
  |none=>simp only[hd] at h;cases h
  |some y=>simp only[hd] at h;simp only[hu n y hd];exact h
 |raw v=>cases v <;>first | (cases h;done) | (rename_i m;cases m <;>first | exact h | cases h)
 |cI ks vs=>exact h
 |_=>simp only[gu] at h;cases h
theorem Lk{op:b9}(hu:eC A A')(h:en A A' op.c7){v:I}(hv:br A op=some v):br A' op=some v:=by
 by_cases hc:op.gD=0
 ·rw[yl hc h];exact hv
 cases op <;>try (exact absurd rfl hc)
 all_goals simp only[b9.c7] at h
 case ld s x =>
  simp only[br,dh h] at hv ⊢;cases hd:cB A (af A x) with
  |none=>rw[hd] at hv;cases hv
  |some y=>rw[hd] at hv;rw[jR hu hd];exact hv
 case fa f off x =>
  simp only[br,dh h] at hv ⊢;generalize af A x=z at *;cases z <;>try (first | exact hv | (rename_i y;cases y <;>exact hv))
  rename_i n p;cases hd:cB A (.ptr n p) with
  |none=>simp only[hd] at hv;cases hv
  |some y=>simp only[hd] at hv;simp only[jR hu hd];exact hv
 case ia n esz x i =>
  simp only[br,dh h.l,dh h.r] at hv ⊢;generalize af A x=z at *;cases z <;>try (first | exact hv | (rename_i y;cases y <;>exact hv))
  rename_i n p;cases hd:cB A (.ptr n p) with
  |none=>simp only[hd] at hv;(repeat' split at hv) <;>cases hv
  |some y=>simp only[hd] at hv;simp only[jR hu hd];exact hv
 case is esz x i =>
  simp only[br,dh h.l,dh h.r] at hv ⊢;generalize af A i=q at *;cases q <;>try (exact hv)
  simp only at hv ⊢;generalize af A x=z at *;cases z <;>try (first | exact hv | (rename_i y;cases y <;>exact hv))
  ·rename_i n p;cases hd:A.o n with
   |none=>simp only[hd] at hv;cases hv
   |some y=>simp only[hd] at hv;simp only[hu n y hd];exact hv
  ·rename_i n p sz lo k;simp only at hv ⊢;cases hd:cB A (.ptr n p) with
   |none=>simp only[hd] at hv;cases hv
   |some y=>simp only[hd] at hv;simp only[jR hu hd];exact hv
 case len x =>
  simp only[br,dh h] at hv ⊢;generalize af A x=z at *;cases z <;>try (first | exact hv | (rename_i y;cases y <;>exact hv))
  rename_i n p;cases hd:A.o n with
  |none=>simp only[hd] at hv;cases hv
  |some y=>simp only[hd] at hv;simp only[hu n y hd];exact hv
 case cap x =>
  simp only[br,dh h] at hv ⊢;generalize af A x=z at *;cases z <;>try (first | exact hv | (rename_i y;cases y <;>exact hv))
  rename_i n p sz lo k;simp only at hv ⊢;cases hd:cB A (.ptr n p) with
  |none=>simp only[hd] at hv;cases hv
  |some y=>simp only[hd] at hv;simp only[jR hu hd];exact hv
 case bs0 esz=>exact hv
 case sl esz x lo hi mx =>
  simp only[br,dh h.l,pC h.r.l,pC h.r.r.l,pC h.r.r.r] at hv ⊢;generalize af A x=z at *;cases z <;>try (first | exact hv | (rename_i y;cases y <;>exact hv))
  rename_i n p sz l0 k;simp only at hv ⊢;cases hd:cB A (.ptr n p) with
  |none=>simp only[hd] at hv;cases hv
  |some y=>simp only[hd] at hv;simp only[jR hu hd];exact hv
 case va n esz x =>
  simp only[br,dh h] at hv ⊢;generalize af A x=z at *;cases z <;>try (first | exact hv | (rename_i y;cases y <;>exact hv))
  rename_i n p;cases hd:cB A (.ptr n p) with
  |none=>simp only[hd] at hv;cases hv
  |some y=>simp only[hd] at hv;simp only[jR hu hd];exact hv
 case lk ty z ok m k =>
  simp only[br,dh h.l,dh h.r] at hv ⊢;cases hd:gu A (af A m) with
  |none=>rw[hd] at hv;cases hv
  |some y=>rw[hd] at hv;rw[aha hu hd];exact hv
 case ent x =>
  simp only[br,dh h] at hv ⊢;generalize af A x=z at *;cases z <;>try (exact hv)
  rename_i n;simp only at hv ⊢;cases hd:A.o n with
  |none=>simp only[hd] at hv;cases hv
  |some y=>simp only[hd] at hv;simp only[hu n y hd];exact hv
 case bs esz ps =>
  simp only[br,mu h] at hv ⊢;cases hd:bZ false A (ps.map (af A)) with
  |none=>rw[hd] at hv;cases hv
  |some y=>rw[hd] at hv;rw[lK hu hd];exact hv
 all_goals (simp only[br] at hv;cases hv)
end
def pass(A:ae)(g:az):Prop:=match g.guard with | none=>True | some (t,b)=>A.t t=.bool b
def gw(A:ae)(g:az):Prop:=match g.guard with | none=>False | some (t,b)=>A.t t=.bool (!b)∨A.t t=.undef
inductive jL (P:Program) (A:ae):b9→I→Prop where
 |pure {op:b9} {v:I} : br A op=some v→jL P A op v
 |flat {f:FuncId} {args:List aJ} {cargs:List I} {r:I} : bZ true A (args.map (af A))=some cargs→aD P f cargs r→r.flat=true→jL P A (.call f args) r
 |lead {f:FuncId} {args:List aJ} {cargs:List I} {r:I} : bZ false A (args.map (af A))=some cargs→aD P f cargs r→jL P A (.call f args) r
 |uz {x:aJ} {f:FuncId} {caps:List I} {args:List aJ} {cargs:List I} {r:I} : af A x=.func f caps→bZ true A (args.map (af A)++caps)=some cargs→aD P f cargs r→r.flat=true→jL P A (.eF x args) r
 |uA {x:aJ} {f:FuncId} {caps:List I} {args:List aJ} {cargs:List I} {r:I} : af A x=.func f caps→bZ false A (args.map (af A)++caps)=some cargs→aD P f cargs r→jL P A (.eF x args) r
def r8(A:ae)(op:b9)(x:I):Prop:=op=.alloc x∨∃ y,op=.box y∧(af A y).b8=true∧x=af A y
def r9(A:ae)(op:b9)(n:Nat)(z:ai):Prop:=∃ s x v p b old,op=.bl s x v∧af A x=.ptr n p∧A.o n=some (.box b)∧b.at p=some old∧yb s (af A v) old∧z=.box (b.dI p (af A v))
def PU(A:ae)(dst:Option Nat)(op:b9)(B:ae):Prop:=op.gD=5∧∀ (rest:List az) (k:ae→cK),bd A dst op rest k=k B
theorem akw{A:ae}{neg:Bool}{x:aJ}{v:I}(h:br A (.nilS neg x)=some v):j9 (af A x)=false:=by
 simp only[br] at h;generalize af A x=q at *;cases q <;>simp only[j9] <;>simp only at h <;>try (cases h;done)
 rename_i sz es;cases es with
 |nil=>simp at h
 |cons=>rfl
inductive fq (P:Program) (g:az) (A:ae):ae→Prop where
 |skip:gw A g→fq P g A (A.aN g.dst .undef)
 |val {v:I} : pass A g→jL P A g.op v→fq P g A (A.aN g.dst v)
 |jA {d:Nat} {x:I} : pass A g→g.dst=some d→r8 A g.op x→A.o d=none→fq P g A ((A.aL d (.box x)).put d (.ptr d []))
 |bl {n:Nat} {z:ai} : pass A g→g.dst=none→r9 A g.op n z→fq P g A (A.aL n z)
 |iy {B:ae} : pass A g→PU A g.dst g.op B→fq P g A B
theorem u2{b' b:Bool}(h:b'≠b):b' = !b:=by cases b <;>cases b' <;>simp_all
section
variable {P:Program} {Y:Value→List I→List (Nat×ai)→cT→Prop} {K:ae→Prop}
theorem fq.KA{A:ae}{g:az}{rest:List az}(hp:pass A g)(h:bj P Y true K (bd A g.dst g.op rest (ay rest))):∃ B,fq P g A B∧bj P Y true K (ay rest B):=by
 have pure:bj P Y true K (cR (br A g.op) fun v=>ay rest (A.aN g.dst v))→∃ B,fq P g A B∧bj P Y true K (ay rest B):=by
  intro h;cases hv:br A g.op with
  |none=>rw[hv] at h;cases h
  |some v=>rw[hv] at h;exact ⟨_,.val hp (.pure hv),h⟩
 obtain ⟨dst,op,gd⟩:=g;cases op with
 |alloc z =>
  simp only[bd] at h;split at h
  case h_2=>cases h
  split at h
  case h_2=>cases h
  rename_i hd _ ho;exact ⟨_,.jA hp rfl (.inl rfl) ho,h⟩
 |box x =>
  simp only[bd] at h;split at h
  case h_2=>cases h
  split at h
  case h_2=>cases h
  rename_i hd _ ho;split at h
  case isFalse=>cases h
  rename_i hv;exact ⟨_,.jA hp rfl (.inr ⟨x,rfl,hv,rfl⟩) ho,h⟩
 |bl s x v =>
  simp only[bd] at h;split at h
  case h_2=>cases h
  split at h
  case h_2=>cases h
  rename_i n p hx;split at h
  case h_2=>cases h
  rename_i b hb;split at h
  case h_2=>cases h
  rename_i old hat;split at h
  case isFalse=>cases h
  rename_i hok;exact ⟨_,.bl hp rfl ⟨s,x,v,p,b,old,rfl,hx,hb,hat,hok,rfl⟩,h⟩
 |nilS neg x =>
  simp only[bd] at h;split at h
  ·cases h with | any hdr=>cases hdr
  ·exact pure h
 |dN e esz bytes z s x =>
  simp only[bd] at h;split at h
  ·rename_i n l hs';split at h
   case h_2=>cases h
   rename_i sz ys hx';split at h
   case h_3=>cases h
   case h_2 =>
    rename_i T xs hn;split at h
    case isFalse=>cases h
    rename_i hok;exact ⟨_,.iy hp ⟨rfl,fun rest k=>by simp only[bd,hs',hx',hn,if_pos hok]⟩,h⟩
   rename_i T sz' es hn;split at h
   case isFalse=>cases h
   rename_i hok;exact ⟨_,.iy hp ⟨rfl,fun rest k=>by simp only[bd,hs',hx',hn,if_pos hok]⟩,h⟩
  ·rename_i hno;have hg:∀ (rest:List az) (k:ae→cK),bd A dst (.dN e esz bytes z s x) rest k=fD A dst esz bytes z (af A s) (eI A esz (af A s)) (eI A esz (af A x)) k:=fun rest k=>by
    simp only[bd]
   simp only[fD] at h hg;split at h
   case h_2=>cases h
   rename_i es ys hse hsx;simp only[hse,hsx] at hg;have grow:¬ bj P Y true K (gO A dst esz bytes z es ys (ay rest)):=fun h=>by
    simp only[gO] at h;split at h
    case h_2=>cases h
    split at h
    case h_2=>cases h
    split at h
    case isFalse=>cases h
    cases h with | any hdr=>cases hdr
   split at h
   ·rename_i hne;simp only[if_pos hne] at hg;exact ⟨_,.iy hp ⟨rfl,hg⟩,h⟩
   ·rename_i hne;simp only[if_neg hne] at hg;split at h
    ·exact absurd h grow
    ·exact absurd h grow
    ·rename_i n p sz lo l hsv;split at h
     case h_2=>cases h
     rename_i b hn;split at h
     case h_2=>cases h
     rename_i fs hat;split at h
     ·rename_i hroom;split at h
      case isFalse=>cases h
      rename_i hok;simp only[hsv,hn,hat,if_pos hroom,if_pos hok] at hg;exact ⟨_,.iy hp ⟨rfl,hg⟩,h⟩
     ·exact absurd h grow
    ·cases h
 |kC f args =>
  simp only[bd] at h;cases h with | ext r hdr=>cases hdr
 |me e esz bytes z s n =>
  exfalso
  simp only[bd] at h;split at h
  case h_2=>cases h
  simp only[uX] at h;split at h
  case h_2=>cases h
  split at h
  case h_2=>cases h
  split at h
  case h_2=>cases h
  split at h
  case h_2=>cases h
  split at h
  case isFalse=>cases h
  simp only[gO] at h;split at h
  case h_2=>cases h
  split at h
  case h_2=>cases h
  split at h
  case isFalse=>cases h
  cases h with | any hdr=>cases hdr
 |jB =>
  simp only[bd] at h;split at h
  case h_2=>cases h
  rename_i d;split at h
  case h_2=>cases h
  rename_i hf;exact ⟨_,.iy hp ⟨rfl,fun rest k=>by simp only[bd,hf]⟩,h⟩
 |kp e bytes z n =>
  simp only[bd] at h;split at h
  case h_2=>cases h
  rename_i d;split at h
  case h_2=>cases h
  rename_i hf;split at h
  case h_2=>cases h
  rename_i k m hn;split at h
  case isFalse=>cases h
  rename_i hc;exact ⟨_,.iy hp ⟨rfl,fun rest k=>by simp only[bd,hf,hn,if_pos hc]⟩,h⟩
 |gv ty m key v =>
  simp only[bd] at h;split at h
  case h_2=>cases h
  split at h
  case h_2=>cases h
  rename_i n hm;split at h
  case h_2=>cases h
  rename_i ks vs hn;split at h
  case h_2=>cases h
  rename_i ks' vs' hl;exact ⟨_,.iy hp ⟨rfl,fun rest k=>by simp only[bd,hm,hn,hl]⟩,h⟩
 |j4 x =>
  simp only[bd] at h;split at h
  case h_2=>cases h
  rename_i d;split at h
  case h_2=>cases h
  rename_i hf;split at h
  case h_2=>cases h
  rename_i ks vs hx;exact ⟨_,.iy hp ⟨rfl,fun rest k=>by simp only[bd,hf,hx]⟩,h⟩
 |iF x =>
  simp only[bd] at h;split at h
  case h_2=>cases h
  rename_i n hx;split at h
  case h_2=>cases h
  rename_i ks vs left cur hn;split at h
  ·rename_i hl;exact ⟨_,.iy hp ⟨rfl,fun rest k=>by simp only[bd,hx,hn,if_pos hl]⟩,h⟩
  ·cases h with | any hdr=>cases hdr
 |js esz z x =>
  simp only[bd] at h;split at h
  case h_2=>cases h
  have hg:∀ (rest:List az) (k:ae→cK),bd A none (.js esz z x) rest k=nc A esz z k (af A x):=fun rest k=>rfl;simp only[nc] at h hg;split at h
  ·rename_i n p sz lo l hv;split at h
   case h_2=>cases h
   rename_i b hn;split at h
   case h_2=>cases h
   rename_i fs hat;split at h
   case isFalse=>cases h
   rename_i hok;simp only[hv,hn,hat,if_pos hok] at hg;exact ⟨_,.iy hp ⟨rfl,hg⟩,h⟩
  ·rename_i z0 hv;simp only[hv] at hg;exact ⟨_,.iy hp ⟨rfl,hg⟩,h⟩
  ·rename_i z0 hv;simp only[hv] at hg;exact ⟨_,.iy hp ⟨rfl,hg⟩,h⟩
  ·cases h
 |lC esz x y =>
  have hg:∀ (rest:List az) (k:ae→cK),bd A dst (.lC esz x y) rest k=sy A dst esz k (af A x) (eI A esz (af A y)):=fun rest k=>rfl;simp only[bd] at h;simp only[sy] at h hg;split at h
  ·rename_i n p sz lo l ys hv hsx;split at h
   case h_2=>cases h
   rename_i b hn;split at h
   case h_2=>cases h
   rename_i fs hat;split at h
   case isFalse=>cases h
   rename_i hok;simp only[hv,hsx,hn,hat,if_pos hok] at hg;exact ⟨_,.iy hp ⟨rfl,hg⟩,h⟩
  ·cases h
 |call f args =>
  simp only[bd] at h;generalize h1:bZ true A (args.map (af A))=a1 at h;generalize h2:bZ false A (args.map (af A))=a2 at h;cases h with
  |flat r hc hf hw=>exact ⟨_,.val hp (.flat h1 hc hf),hw⟩
  |lead r hc hw=>exact ⟨_,.val hp (.lead h2 hc),hw⟩
  |ib ns r hdr=>cases hdr
  |bT aA ρ os cargs post hdr=>cases hdr
 |eF x args =>
  simp only[bd] at h;split at h
  case h_3=>cases h
  case h_2=>cases h with | zb os cargs post hdr=>cases hdr
  rename_i f caps hx;generalize h1:bZ true A (args.map (af A)++caps)=a1 at h;generalize h2:bZ false A (args.map (af A)++caps)=a2 at h;cases h with
  |flat r hc hf hw=>exact ⟨_,.val hp (.uz hx h1 hc hf),hw⟩
  |lead r hc hw=>exact ⟨_,.val hp (.uA hx h2 hc),hw⟩
  |ib ns r hdr=>cases hdr
  |bT aA ρ os cargs post hdr=>cases hdr
 |_=>exact pure (by simpa only[bd] using h)
theorem fq.xZ{A:ae}{g:az}{rest:List az}(h:bj P Y true K (ay (g::rest) A)):∃ B,fq P g A B∧bj P Y true K (ay rest B):=by
 simp only[ay] at h;split at h
 ·rename_i hg;exact fq.KA (by simp only[pass,hg]) h
 ·rename_i t b hg;split at h
  ·rename_i b' hb;split at h
   ·rename_i hbb;subst hbb;exact fq.KA (by simp only[pass,hg];exact hb) h
   ·rename_i hbb;refine ⟨_,.skip (by simp only[gw,hg];exact .inl (by rw[hb,u2 hbb])),h⟩
  ·rename_i hb;exact ⟨_,.skip (by simp only[gw,hg];exact .inr hb),h⟩
  ·cases h
theorem nX{A:ae}{g:az}{rest:List az}(hp:pass A g):ay (g::rest) A=bd A g.dst g.op rest (ay rest):=by
 simp only[ay];cases hg:g.guard with
 |none=>rfl
 |some tb =>
  obtain ⟨t,b⟩:=tb;simp only[pass,hg] at hp;simp only[hp,if_true]
theorem fq.y7{A B:ae}{g:az}{rest:List az}(h:fq P g A B)(hw:bj P Y true K (ay rest B)):bj P Y true K (ay (g::rest) A):=by
 cases h with
 |skip hn =>
  simp only[ay];cases hg:g.guard with
  |none=>simp only[gw,hg] at hn
  |some tb =>
   obtain ⟨t,b⟩:=tb;simp only[gw,hg] at hn;rcases hn with hn | hn
   ·simp only[hn];rw[if_neg (by cases b <;>simp)];exact hw
   ·simp only[hn];exact hw
 |val hp hv =>
  rw[nX hp];obtain ⟨dst,op,gd⟩:=g;cases hv with
  |pure hv =>
   have hv':br A op=some _:=hv;cases op <;>try (simp only[bd,hv',cR] <;>first | exact hw | (simp only[br] at hv';cases hv');done)
   all_goals first
    |(simp only[br] at hv';cases hv';done)
    |(simp only[bd,akw hv',zz6,if_false,hv',cR];exact hw)
  |flat h1 h2 h3=>simp only[bd,h1];exact .flat _ h2 h3 hw
  |lead h1 h2=>simp only[bd,h1];exact .lead _ h2 hw
  |uz h0 h1 h2 h3=>simp only[bd,h0,h1];exact .flat _ h2 h3 hw
  |uA h0 h1 h2=>simp only[bd,h0,h1];exact .lead _ h2 hw
 |jA hp hd hm ho =>
  rw[nX hp];obtain ⟨dst,op,gd⟩:=g;simp only at hd;subst hd;rcases hm with hm | ⟨y,hm,hv,rfl⟩ <;>simp only at hm <;>subst hm
  ·simp only[bd,ho];exact hw
  ·simp only[bd,ho,hv,if_true];exact hw
 |bl hp hd hm =>
  rw[nX hp];obtain ⟨dst,op,gd⟩:=g;simp only at hd;subst hd;obtain ⟨s,x,v,p,b,old,h1,h2,h3,h4,h5,rfl⟩:=hm;simp only at h1;subst h1;simp only[bd,h2,h3,h4,if_pos h5];exact hw
 |iy hp hm =>
  rw[nX hp,hm.2];exact hw
theorem jL.cO{A A':ae}{op:b9}{v:I}(h:jL P A op v)(hu:eC A A')(ha:en A A' op.c7):jL P A' op v:=by
 cases h with
 |pure h=>exact .pure (Lk hu ha h)
 |flat h1 h2 h3=>exact .flat (by rw[mu ha];exact lK hu h1) h2 h3
 |lead h1 h2=>exact .lead (by rw[mu ha];exact lK hu h1) h2
 |uz h0 h1 h2 h3=>simp only[b9.c7] at ha;exact .uz (by rw[dh ha.l];exact h0) (by rw[mu ha.r];exact lK hu h1) h2 h3
 |uA h0 h1 h2=>simp only[b9.c7] at ha;exact .uA (by rw[dh ha.l];exact h0) (by rw[mu ha.r];exact lK hu h1) h2
theorem jL.ib{A A':ae}{op:b9}{v:I}(h:jL P A op v)(hc:op.gD=0)(ha:en A A' op.c7):jL P A' op v:=by
 cases h with
 |pure h=>exact .pure (by rw[yl hc ha];exact h)
 |_=>simp[b9.gD] at hc
theorem nI{A A':ae}{g:az}(ha:en A A' g.c7)(h:pass A g):pass A' g:=by
 unfold pass at *;cases hg:g.guard with
 |none=>trivial
 |some tb=>simp only[hg] at h ⊢;rw[ha tb.1 (by simp[az.c7,hg])];exact h
theorem pY{A A':ae}{g:az}(ha:en A A' g.c7)(h:gw A g):gw A' g:=by
 unfold gw at *;cases hg:g.guard with
 |none=>simp only[hg] at h
 |some tb=>simp only[hg] at h ⊢;rw[ha tb.1 (by simp[az.c7,hg])];exact h
theorem az.ku{A A':ae}{g:az}(ha:en A A' g.c7):en A A' g.op.c7:=fun k hk=>ha k (List.mem_append_left _ hk)
def lq(P:Program)(g:az)(A:ae)(v:I):Prop:=(gw A g∧v=.undef)∨(pass A g∧jL P A g.op v)
theorem lq.step{A:ae}{g:az}{v:I}(h:lq P g A v):fq P g A (A.aN g.dst v):=by
 rcases h with ⟨h,rfl⟩ | ⟨h,k⟩
 ·exact .skip h
 ·exact .val h k
theorem lq.cO{A A':ae}{g:az}{v:I}(h:lq P g A v)(hu:eC A A')(ha:en A A' g.c7):lq P g A' v:=by
 rcases h with ⟨h,rfl⟩ | ⟨h,k⟩
 ·exact .inl ⟨pY ha h,rfl⟩
 ·exact .inr ⟨nI ha h,k.cO hu (az.ku ha)⟩
theorem lq.ib{A A':ae}{g:az}{v:I}(h:lq P g A v)(hc:g.op.gD=0)(ha:en A A' g.c7):lq P g A' v:=by
 rcases h with ⟨h,rfl⟩ | ⟨h,k⟩
 ·exact .inl ⟨pY ha h,rfl⟩
 ·exact .inr ⟨nI ha h,k.ib hc (az.ku ha)⟩
theorem fq.yZ{A B:ae}{g:az}(h:fq P g A B)(hc:g.op.gD≤2):∃ v,lq P g A v∧B=A.aN g.dst v:=by
 cases h with
 |skip h=>exact ⟨_,.inl ⟨h,rfl⟩,rfl⟩
 |val h k=>exact ⟨_,.inr ⟨h,k⟩,rfl⟩
 |jA h1 h2 h3 h4=>rcases h3 with h3 | ⟨y,h3,_⟩ <;>(rw[h3] at hc;simp[b9.gD] at hc)
 |bl h1 h2 h3=>obtain ⟨s,x,v,p,b,old,h4,_⟩:=h3;rw[h4] at hc;simp[b9.gD] at hc
 |iy h1 h3=>rw[h3.1] at hc;omega
theorem qb{A:ae}{a b:Option Nat}{v u:I}(h:∀ d,a=some d→b≠some d):(A.aN a v).aN b u=(A.aN b u).aN a v:=by
 cases a with
 |none=>rfl
 |some d=>cases b with
  |none=>rfl
  |some e =>
   have hne:d≠e:=fun he=>h d rfl (by rw[he]);simp only[ae.aN,ae.put,ae.mk.injEq,and_true]
   funext k
   by_cases h1:k=e <;>by_cases h2:k=d <;>simp_all
theorem iI{A:ae}{d:Option Nat}{v:I} : (A.aN d v).o=A.o:=by cases d <;>rfl
theorem mM{A:ae}{d:Option Nat}{v:I}{l:List Nat}(h:∀ k,d=some k→k∉l):en A (A.aN d v) l:=by
 cases d with
 |none=>exact fun _ _=>rfl
 |some e =>
  intro k hk;have:k≠e:=fun he=>h e rfl (he▸hk);simp[ae.aN,ae.put,this]
theorem en.symm{A A':ae}{l:List Nat}(h:en A A' l):en A' A l:=fun k hk=>(h k hk).symm
theorem r8.same{A A':ae}{op:b9}{x:I}(h:r8 A op x)(ha:en A A' op.c7):r8 A' op x:=by
 rcases h with h | ⟨y,h1,h2,h3⟩
 ·exact .inl h
 ·subst h1;have:=dh (x:=y) ha;exact .inr ⟨y,rfl,by rw[this];exact h2,by rw[this];exact h3⟩
theorem r9.same{A A':ae}{op:b9}{n:Nat}{z:ai}(h:r9 A op n z)(ho:A'.o=A.o)(ha:en A A' op.c7):r9 A' op n z:=by
 obtain ⟨s,x,v,p,b,old,h1,h2,h3,h4,h5,h6⟩:=h;subst h1;simp only[b9.c7] at ha;have e1:=dh ha.l;have e2:=dh ha.r;exact ⟨s,x,v,p,b,old,rfl,by rw[e1];exact h2,by rw[ho];exact h3,h4,by rw[e2];exact h5,by rw[e2];exact h6⟩
theorem agq{g h:az}(hi:nx g h=true):vm g.op.gD h.op.gD=true∧(∀ d,g.dst=some d→d∉h.c7)∧(∀ d,g.dst=some d→h.dst≠some d)∧(∀ d,h.dst=some d→d∉g.c7):=by
 simp only[nx,zz2] at hi;obtain ⟨⟨h1,h2⟩,h3⟩:=hi;refine ⟨h1,fun d hd =>?_,fun d hd =>?_,fun d hd =>?_⟩
 ·rw[hd] at h2;simp at h2;exact h2.1
 ·rw[hd] at h2;simp at h2;exact h2.2
 ·rw[hd] at h3;simpa using h3
theorem fq.swap{A B C:ae}{g h:az}(hi:nx g h=true)(h1:fq P g A B)(h2:fq P h B C):∃ B',fq P h A B'∧fq P g B' C:=by
 obtain ⟨hc,i1,i2,i3⟩:=agq hi;simp only[vm,Bool.or_eq_true,zz2,decide_eq_true_eq,beq_iff_eq] at hc;have hg2:g.op.gD≤2:=by rcases hc with hc | hc <;>omega
 obtain ⟨v,hv,rfl⟩:=h1.yZ hg2;have ag:en (A.aN g.dst v) A h.c7:=(mM i1).symm;have cO:eC (A.aN g.dst v) A:=fun n x hx=>by rwa [iI] at hx
 cases h2 with
 |skip hn =>
  exact ⟨_,.skip (pY ag hn),by
   rw[qb i2];exact (hv.cO (by intro n x hx;rwa [iI]) (mM i3)).step⟩
 |val hp hu =>
  exact ⟨_,.val (nI ag hp) (hu.cO cO (az.ku ag)),by
   rw[qb i2];exact (hv.cO (by intro n x hx;rwa [iI]) (mM i3)).step⟩
 |jA hp hd hm ho =>
  rename_i d x;rw[iI] at ho;refine ⟨_,.jA (nI ag hp) hd (hm.same (az.ku ag)) ho,?_⟩;have e:((A.aN g.dst v).aL d (.box x)).put d (.ptr d [])=((A.aL d (.box x)).put d (.ptr d [])).aN g.dst v:=by
   cases hgd:g.dst with
   |none=>rfl
   |some e =>
    have hne:e≠d:=fun he=>i2 e hgd (by rw[hd,he]);simp only[ae.aN,ae.put,ae.aL,ae.mk.injEq,and_true]
    funext k
    by_cases h1:k=e <;>by_cases h2:k=d <;>simp_all
  rw[e];refine (hv.cO (fun n y hy =>?_) (fun k hk =>?_)).step
  ·have:n≠d:=fun he=>by rw[he,ho] at hy;cases hy
   simp only[ae.put,ae.aL,this,if_false];exact hy
  ·have:k≠d:=fun he=>i3 d hd (he▸hk);simp only[ae.put,ae.aL,this,if_false]
 |bl hp hd hm =>
  rename_i n z;have hc0:g.op.gD=0:=by
   obtain ⟨s,x,v,p,b,old,h4,_⟩:=hm;rcases hc with hc | hc
   ·rw[h4] at hc;exact absurd hc.2 (by simp[b9.gD])
   ·exact hc.1
  refine ⟨_,.bl (nI ag hp) hd (hm.same iI.symm (az.ku ag)),?_⟩;have e:(A.aN g.dst v).aL n z=(A.aL n z).aN g.dst v:=by cases g.dst <;>rfl
  rw[e];exact (lq.ib (A':=A.aL n z) hv hc0 (fun _ _=>rfl)).step
 |iy hp hm =>
  exfalso
  rw[hm.1] at hc;omega
theorem bj.swap{A:ae}{g h:az}{rest:List az}(hi:nx g h=true)(hw:bj P Y true K (ay (g::h::rest) A)):bj P Y true K (ay (h::g::rest) A):=by
 obtain ⟨B,h1,h2⟩:=fq.xZ hw;obtain ⟨C,h3,h4⟩:=fq.xZ h2;obtain ⟨B',h5,h6⟩:=fq.swap hi h1 h3;exact h5.y7 (h6.y7 h4)
theorem bj.qC{g:az} : ∀ {l:List az} {r:List az} {A:ae},(∀ j∈l,nx j g=true)→bj P Y true K (ay (l++g::r) A)→bj P Y true K (ay (g::(l++r)) A)
 | [],r,A,_,h=>h
 |j::l,r,A,hi,h=>by
  obtain ⟨B,h1,h2⟩:=fq.xZ (g:=j) (rest:=l++g::r) h;have h3:=bj.qC (l:=l) (r:=r) (fun k hk=>hi k (by simp[hk])) h2;exact bj.swap (hi j (by simp)) (h1.y7 h3)
end
def eH(o:Oper):List Nat:=(o.after.toList.filter fun e=>Region.binds .any e).map (·.on)
def oZ(cl:List Nat):List Nat→Nat
 | []=>0
 |k::ks=>(2^k ||| cl.getD k 0) ||| oZ cl ks
def sC(on:List (List Nat))(gs:List az)(cl:List Nat):Bool :=
 (List.range gs.length).all fun i=>(on.getD i []).all (fun k=>decide (k<i))&&Nat.beq (cl.getD i 0) (oZ cl (on.getD i [])) &&
  (List.range i).all fun j=>(cl.getD i 0).testBit j||nx (gs.getD j default) (gs.getD i default)
theorem y8{cl:List Nat}{j:Nat} : ∀ {l:List Nat},(oZ cl l).testBit j=true→j∈l∨∃ k∈l,(cl.getD k 0).testBit j=true
 | [],h=>by simp[oZ] at h
 |k::ks,h=>by
  simp only[oZ,Nat.testBit_or,Bool.or_eq_true,Nat.testBit_two_pow,decide_eq_true_eq] at h;rcases h with (h | h) | h
  ·exact .inl (by simp[h])
  ·exact .inr ⟨k,by simp,h⟩
  ·rcases y8 h with h | ⟨m,h1,h2⟩
   ·exact .inl (by simp[h])
   ·exact .inr ⟨m,by simp[h1],h2⟩
structure uG (l:List Oper) (gs:List az):Prop where
 pk:∀ i o,l[i]?=some o→∀ k∈eH o,k<i
 xg:∀ (S:Nat→Prop),(∀ i o,l[i]?=some o→S i→∀ k∈eH o,S k)→∀ i o g j,l[i]?=some o→gs[i]?=some g→(∀ k∈eH o,S k)→j<i→¬ S j→nx (gs.getD j default) g=true
theorem X1{l:List Oper}{gs:List az}{cl:List Nat}(hlen:gs.length=l.length)(h:sC (l.map eH) gs cl=true):uG l gs:=by
 simp only[sC,zy8,zx5] at h;have bN:∀ i o,l[i]?=some o→∃ g,gs[i]?=some g∧(∀ k∈eH o,k<i)∧(∀ j,(cl.getD i 0).testBit j=true→j∈eH o∨∃ k∈eH o,(cl.getD k 0).testBit j=true)∧∀ j,j<i→(cl.getD i 0).testBit j=true∨nx (gs.getD j default) g=true:=by
  intro i o ho;have hi:i<l.length:=(zy5.1 ho).1;have h1:=h i (by omega);have hon:(l.map eH).getD i []=eH o:=by simp[zz1,ho]
  have hgi:i<gs.length:=by omega
  have hg:gs[i]?=some gs[i]:=zz8 hgi;have hgd:gs.getD i default=gs[i]:=by simp[zz1,hg]
  rw[hon,hgd] at h1;simp only[zz2,zy8,decide_eq_true_eq,Bool.or_eq_true,zx5] at h1;have hb:=Nat.eq_of_beq_eq_true h1.1.2;exact ⟨_,hg,h1.1.1,fun j hj=>y8 (by rw[←hb];exact hj),h1.2⟩
 refine ⟨fun i o ho=>(bN i o ho).choose_spec.2.1,?_⟩;intro S hS i o g j ho hg hon hj hnj;have key:∀ n i o,i≤n→l[i]?=some o→(∀ k∈eH o,S k)→∀ j,(cl.getD i 0).testBit j=true→S j:=by
  intro n
  induction n with
  |zero =>
   intro i o hi ho hon j hj;obtain ⟨g,_,h1,h2,_⟩:=bN i o ho;rcases h2 j hj with h | ⟨k,hk,_⟩
   ·exact hon j h
   ·have:=h1 k hk;omega
  |succ n ih =>
   intro i o hi ho hon j hj;obtain ⟨g,_,h1,h2,_⟩:=bN i o ho;rcases h2 j hj with h | ⟨k,hk,hjk⟩
   ·exact hon j h
   ·have hki:=h1 k hk;have hkl:k<l.length:=Nat.lt_trans hki (zy5.1 ho).1;obtain ⟨ok,hok⟩:∃ ok,l[k]?=some ok:=⟨l[k],zz8 hkl⟩
    exact ih k ok (by omega) hok (hS k ok hok (hon k hk)) j hjk
 obtain ⟨g',hg',_,_,h3⟩:=bN i o ho;rw[hg,u8] at hg';subst hg';rcases h3 j hj with h | h
 ·exact absurd (key i i o (zz7 _) ho hon j h) hnj
 ·exact h
def jg(listed:Array Bool)(n:Nat):List Nat:=(List.range n).filter fun i => !listed.getD i true
def oJ(gs:List az)(listed:Array Bool)(n:Nat):List az:=(jg listed n).map fun i=>gs.getD i default
theorem Na{i n:Nat}(h:i<n):List.range n=List.range i++i::(List.range (n-(i+1))).map (i+1 + ·):=by
 conv=>lhs;rw[show n=(i+1)+(n-(i+1)) by omega,List.range_add]
 rw[List.range_succ];simp
theorem ajn{listed:Array Bool}{i n:Nat}(h:i<n)(hs:listed.size=n)(hu:listed.getD i true=false):∃ l1 l2,jg listed n=l1++i::l2∧jg (listed.setIfInBounds i true) n=l1++l2∧∀ j∈l1,j<i∧listed.getD j true=false:=by
 have same:∀ j,j≠i→(listed.setIfInBounds i true).getD j true=listed.getD j true:=fun j hj=>getD_set_ne true (Ne.symm hj);have hit:(listed.setIfInBounds i true).getD i true=true:=by simp[hs,h]
 refine ⟨(List.range i).filter fun j => !listed.getD j true,((List.range (n-(i+1))).map (i+1 + ·)).filter fun j => !listed.getD j true,?_,?_,?_⟩
 ·simp only[jg];rw[Na h,List.filter_append,zw1];simp only[hu,Bool.not_false,if_true]
 ·simp only[jg];rw[Na h,List.filter_append,zw1];simp only[hit,Bool.not_true,zz6,if_false]
  congr 1
  ·refine List.filter_congr fun j hj =>?_;rw[same j (by have:=zx5.1 hj;omega)]
  ·refine List.filter_congr fun j hj =>?_;obtain ⟨k,_,rfl⟩:=zx4.1 hj;rw[same _ (by omega)]
 ·intro j hj;simp only[zw9,zx5,Bool.not_eq_true'] at hj;exact hj
theorem Nh{n:Nat} : jg (Array.replicate n false) n=List.range n:=by
 simp only[jg];refine List.filter_eq_self.2 fun i hi =>?_;have:=zx5.1 hi;simp[this]
theorem ahb(gs:List az):((List.range gs.length).map fun i=>gs.getD i default)=gs:=by
 apply List.ext_getElem
 ·simp
 ·intro i h1 h2;simp[zz1,h2]
section
variable {c:cS}
theorem na{P:Program}{n:Nat}{bV:Array Oper} : ∀ {l:List Oper} {gs:List az},kI P n bV l=some gs→gs.length=l.length∧∀ (i:Nat) (o:Oper),l[i]?=some o→∃ g,gs[i]?=some g∧pq P n bV o=some g
 | [],gs,h=>by simp only[kI,u8] at h;subst h;exact ⟨rfl,fun i o ho=>by simp at ho⟩
 |o::l,gs,h=>by
  simp only[kI] at h;split at h
  case h_2=>cases h
  rename_i g gs' hg hgs;simp only[u8] at h;subst h;obtain ⟨h1,h2⟩:=na (l:=l) hgs;refine ⟨by simp[h1],fun i o' ho =>?_⟩;cases i with
  |zero=>simp only[List.getElem?_cons_zero,u8] at ho;subst ho;exact ⟨g,rfl,hg⟩
  |succ i=>simpa using h2 i o' (by simpa using ho)
theorem afq{K:ae→Prop}{bV:Array Oper}{Q:Exit→Act→World→Prop}{o:Oper}{g:az}{rest:List az}{A:ae}{a:Act}{w:World}{Kw:Act→World→Prop}(hg:pq c.P c.n bV o=some g)(hwp:bj c.P c.Y true K (ay (g::rest) A))(hs:cw c A a w)
  (hK:∀ B a' w',bj c.P c.Y true K (ay rest B)→cw c B a' w'→Kw a' w'):if Region.wanted o (yielded bV a.tmps) then o.wpIn c.bh 9 c.P a w Kw Q else (∀ f,o.about c.P w a.eval=some f→c.bh.fn f)∧Kw (a.put o.dst undef) w:=by
 obtain ⟨h1,h2,h3,h4⟩:=u7 hg;have step:bj c.P c.Y true K (bd A g.dst g.op rest (ay rest))→o.wpIn c.bh 9 c.P a w Kw Q:=fun h =>
  wS h1 h2.symm (by rw[h2];exact h3) h hs (fun B a' w' hw hs'=>hK B a' w' hw hs')
 simp only[ay] at hwp;rcases h4 with ⟨h5,h6⟩ | ⟨j,b,t,h5,h6,h7⟩
 ·rw[h6] at hwp;have hw:Region.wanted o (yielded bV a.tmps)=true:=by simp[Region.wanted,h5]
  rw[hw,if_pos rfl];exact step hwp
 ·rw[h7] at hwp;simp only at hwp;split at hwp
  ·rename_i b' hb';rw[xa hs h5 h6 hb'];split at hwp
   ·rename_i hbb;subst hbb;simp only[BEq.rfl,if_true];exact step hwp
   ·rename_i hbb;have:(b'==b)=false:=by simpa using hbb
    rw[this];simp only[zz6,if_false];exact ⟨fun f _=>od c f,hK _ _ _ hwp (by rw[h2];exact hs.qa h3)⟩
  ·rename_i hb';rw[xb hs h5 h6 hb'];simp only[zz6,if_false];exact ⟨fun f _=>od c f,hK _ _ _ hwp (by rw[h2];exact hs.qa h3)⟩
  ·cases hwp
theorem Qc{K:ae→Prop}{bV:Array Oper}{gs:List az}{Q:Exit→Act→World→Prop}(hQ:∀ B a w,K B→cw c B a w→Q .normal a w)(hgs:kI c.P c.n bV bV.toList=some gs)(hd:uG bV.toList gs) :
  ∀ (fuel:Nat) (listed:Array Bool) (A:ae) (a:Act) (w:World),listed.size=bV.size→(∀ i o,bV.toList[i]?=some o→listed.getD i false=true→∀ k∈eH o,listed.getD k false=true)→(jg listed bV.size).length≤fuel →
   bj c.P c.Y true K (ay (oJ gs listed bV.size) A)→cw c A a w→wpAnyIn c.bh 9 c.P .any bV Q fuel listed a w:=by
 obtain ⟨hlen,hat⟩:=na hgs;have onOf_mem:∀ (o:Oper) (e:Edge),e∈o.after→Region.binds .any e=true→e.on∈eH o:=fun o e he hb=>by
  simp only[eH,zx4,zw9];exact ⟨e,⟨by simpa using he,hb⟩,rfl⟩
 have of_onOf:∀ (o:Oper) (k:Nat),k∈eH o→∃ e∈o.after,Region.binds .any e=true∧e.on=k:=fun o k hk=>by
  simp only[eH,zx4,zw9] at hk;obtain ⟨e,⟨h1,h2⟩,h3⟩:=hk;exact ⟨e,by simpa using h1,h2,h3⟩
 have last:∀ (listed:Array Bool) (A:ae) (a:Act) (w:World),listed.size=bV.size→Region.ready .any bV listed=[]→bj c.P c.Y true K (ay (oJ gs listed bV.size) A)→cw c A a w→Q .normal a w:=by
  intro listed A a w hsz hr hwp hs;have hnone:jg listed bV.size=[]:=by
   have all:∀ n,∀ i,i<n→i<bV.size→listed.getD i true=true:=by
    intro n
    induction n with
    |zero=>intro i hi;omega
    |succ n ih =>
     intro i hi his;cases hb:listed.getD i true with
     |true=>rfl
     |false =>
      exfalso
      have ho:bV[i]?=some bV[i]:=Array.getElem?_eq_getElem his;have:i∈Region.ready .any bV listed:=mem_ready.2 ⟨hb,bV[i],ho,fun e he hbd=>by
       have hlt:=hd.pk i bV[i] (by simp) e.on (onOf_mem _ e he hbd);have h1:=ih e.on (by omega) (by omega);have h2:e.on<listed.size:=by omega
       simpa[Array.getD_eq_getD_getElem?,h2] using h1⟩
      rw[hr] at this;cases this
   simp only[jg];refine List.filter_eq_nil_iff.2 fun i hi =>?_;have:=all (i+1) i (by omega) (zx5.1 hi);simp only[this,Bool.not_true,zz6,not_false_eq_true]
  simp only[oJ,hnone,zx1,ay] at hwp;cases hwp with
  |done hk=>exact hQ A a w hk hs
 intro fuel
 induction fuel with
 |zero =>
  intro listed A a w hsz hcl hcnt hwp hs;have hnone:jg listed bV.size=[]:=zv2.1 (by omega);have hr:Region.ready .any bV listed=[]:=by
   refine List.eq_nil_iff_forall_not_mem.2 fun i hi =>?_;obtain ⟨h1,o,ho,_⟩:=mem_ready.1 hi;have:i∈jg listed bV.size:=by
    simp only[jg,zw9,zx5,h1,Bool.not_false,and_true];exact (zx9.1 ho).1
   rw[hnone] at this;cases this
  exact ⟨hr,last listed A a w hsz hr hwp hs⟩
 |succ fuel ih =>
  intro listed A a w hsz hcl hcnt hwp hs;refine ⟨fun hr=>last listed A a w hsz hr hwp hs,fun i hi =>?_⟩;obtain ⟨hun,o,ho,hall⟩:=mem_ready.1 hi;have hin:i<bV.size:=(zx9.1 ho).1;obtain ⟨l1,l2,e1,e2,hl1⟩:=ajn hin hsz hun;have hol:bV.toList[i]?=some o:=by simpa using ho
  obtain ⟨g,hgi,hcg⟩:=hat i o hol;have hon:∀ k∈eH o,listed.getD k false=true:=fun k hk=>by
   obtain ⟨e,h1,h2,h3⟩:=of_onOf o k hk;exact h3▸hall e h1 h2
  have hgd:gs.getD i default=g:=by simp[zz1,hgi]
  have hwp':bj c.P c.Y true K (ay (g::oJ gs (listed.setIfInBounds i true) bV.size) A):=by
   simp only[oJ,e1,zx6,zz9,hgd] at hwp;simp only[oJ,e2,zx6];refine bj.qC (fun j hj =>?_) hwp;obtain ⟨k,hk,rfl⟩:=zx4.1 hj;obtain ⟨hk1,hk2⟩:=hl1 k hk;refine hd.xg (fun k=>listed.getD k false=true) hcl i o g k hol hgi hon hk1 ?_;have hks:k<listed.size:=by omega
   simp[Array.getD_eq_getD_getElem?,hks] at hk2 ⊢;exact hk2
  unfold wpOpIn;rw[ho];refine afq hcg hwp' hs fun B a' w' hw hs'=>ih _ B a' w' (by simpa using hsz) ?_ ?_ hw hs'
  ·intro m om hom hm k hk;by_cases hmi:m=i
   ·subst hmi;rw[hol,u8] at hom;subst hom;exact getD_set_true (hon k hk)
   ·rw[getD_set_ne false (Ne.symm hmi)] at hm;exact getD_set_true (hcl m om hom hm k hk)
  ·have:(jg listed bV.size).length=(jg (listed.setIfInBounds i true) bV.size).length+1:=by
    rw[e1,e2];simp;omega
   omega
theorem ajm{K:ae→Prop}{bV:Array Oper}{gs:List az}{Q:Exit→Act→World→Prop}{id:Nat}{A:ae}{a:Act}{w:World}(hm:c.P.follows .mixedOrders=true)(hQ:∀ B a w,K B→cw c B a w→Q .normal a w)(hgs:kI c.P c.n bV bV.toList=some gs)(hd:uG bV.toList gs)
  (hwp:bj c.P c.Y true K (ay gs A)) (hs:cw c A a w):(Code.region id bV true).wpIn c.bh 9 c.P Q a w:=by
 refine wpIn_region_any hm (Qc hQ hgs hd bV.size (Array.replicate bV.size false) A a _ (by simp) ?_ ?_ ?_ ?_)
 ·intro i o _ h
  exfalso
  simp only[Array.getD_eq_getD_getElem?,Array.getElem?_replicate] at h;split at h <;>simp at h
 ·rw[Nh];simp
 ·have hl:=(na hgs).1;simp only[zv1] at hl;simp only[oJ,Nh];rw[←hl,ahb];exact hwp
 ·obtain ⟨D,E,hs⟩:=hs;exact ⟨D,E,hs.grow (w' := { w with drawn:=w.drawn+1 }) ⟨rfl,rfl,rfl,zz7 _,fun _ _=>rfl⟩ (fun _ _ h=>h) (fun _ _ h _=>h) (fun b o h=>hs.dq b o h)⟩
end
inductive aP where
 |cg (on:Option (List (List Nat))) (gs:List az)
 |seq (x y:aP)
 |cond (b:aJ) (x y:aP)
 |block (id:Nat) (x:aP)
 |loop (x:aP)
 |exit (id:Nat)
 |ret
 |skip
 |scope (x:aP)
 |label
 |m8
 |j0 (f:aJ) (ps:List Nat) (x y:aP)
 deriving Inhabited
def fk(P:Program)(n:Nat):Code→Option aP
 | .region _ bV draw=>match kI P n bV bV.toList with
  |some gs=>if (!draw||P.follows .mixedOrders)=true then some (.cg (bif draw then some (bV.toList.map eH) else none) gs) else none
  |none=>some .m8
 | .seq x y=>match fk P n x,fk P n y with
  |some x,some y=>some (.seq x y)
  |_,_=>none
 | .cond b x y=>match bB P 0 b,fk P n x,fk P n y with
  |some b,some x,some y=>some (.cond b x y)
  |_,_,_=>none
 | .block id x=>match fk P n x with
  |some x=>some (.block id x)
  |none=>none
 | .loop x=>match fk P n x with
  |some x=>some (.loop x)
  |none=>none
 | .exit id=>some (.exit id)
 | .ret=>some .ret
 | .skip=>some .skip
 | .scope x=>match fk P n x with
  |some x=>some (.scope x)
  |none=>none
 | .label _=>some .label
 | .rangeFunc f ps x y=>match bB P 0 f,fk P n x,fk P n y with
  |some f,some x,some y=>if (ps.toList.all fun p=>p<n)=true then some (.j0 f ps.toList x y) else none
  |_,_,_=>none
 |_=>none
def JX(c:cS)(Q:Exit→ae→Prop):Exit→Act→World→Prop:=fun e a w=>∃ A,Q e A∧cw c A a w
def J(c:cS)(x:aP)(Q:Exit→ae→Prop)(A:ae):Prop :=
 ∀ code,fk c.P c.n code=some x→∀ a w,cw c A a w→code.wpIn c.bh 9 c.P (JX c Q) a w
def ar(k:ae→Prop)(Q:Exit→ae→Prop):Exit→ae→Prop
 | .normal,A=>k A
 |e,A=>Q e A
def bL(id:Nat)(Q:Exit→ae→Prop):Exit→ae→Prop
 | .exit id',A=>if id'=id then Q .normal A else Q (.exit id') A
 |e,A=>Q e A
section
variable {c:cS} {A:ae} {Q:Exit→ae→Prop}
def XG(d:Option (List (List Nat)))(gs:List az)(cl:List Nat):Bool:=match d with
 |none=>true
 |some on=>sC on gs cl
theorem J.cg{d:Option (List (List Nat))}{gs:List az}{cl:List Nat}(hd:XG d gs cl=true)(h:∀ K:ae→Prop,(∀ B,Q .normal B→K B)→bj c.P c.Y d.isSome K (ay gs A)):J c (.cg d gs) Q A:=by
 intro code hc a w hs;cases code <;>simp only[fk] at hc <;>try (first | (cases hc;done) | ((repeat' split at hc) <;>cases hc;done))
 rename_i id bV draw;split at hc
 ·rename_i gs' hgs;split at hc
  case isFalse=>cases hc
  rename_i hok;simp only[u8,aP.cg.injEq] at hc;obtain ⟨rfl,rfl⟩:=hc;cases draw with
  |false=>exact wpIn_region_list (sY (K:=Q .normal) (fun B a w hk hs=>⟨B,hk,hs⟩) bV.toList gs' A a w hgs (h _ fun _ hb=>hb) hs)
  |true =>
   simp only[Bool.not_true,Bool.false_or] at hok;exact ajm (K:=Q .normal) hok (fun B a w hk hs=>⟨B,hk,hs⟩) hgs (X1 (na hgs).1 hd) (h _ fun _ hb=>hb) hs
 ·cases hc
theorem J.seq{x y:aP}(h:J c x (ar (fun B=>J c y Q B) Q) A):J c (.seq x y) Q A:=by
 intro code hc a w hs;cases code <;>simp only[fk] at hc <;>try (first | (cases hc;done) | ((repeat' split at hc) <;>cases hc;done))
 rename_i cx cy;split at hc
 ·rename_i x' y' hx hy;simp only[u8,aP.seq.injEq] at hc;obtain ⟨rfl,rfl⟩:=hc;refine wpIn_seq (wpIn_mono (h cx hx a w hs) ?_);rintro e a' w' ⟨B,hq,hs'⟩;cases e <;>simp only[ar,Exit.then] at * <;>first | exact hq cy hy a' w' hs' | exact ⟨B,hq,hs'⟩
 ·cases hc
theorem J.cond{b:aJ}{x y:aP}{t:Bool}(hb:af A b=.bool t)(h1:t=true→J c x Q A)(h2:t=false→J c y Q A):J c (.cond b x y) Q A:=by
 intro code hc a w hs;cases code <;>simp only[fk] at hc <;>try (first | (cases hc;done) | ((repeat' split at hc) <;>cases hc;done))
 rename_i cb cx cy;split at hc
 ·rename_i b' x' y' hb' hx hy;simp only[u8,aP.cond.injEq] at hc;obtain ⟨rfl,rfl,rfl⟩:=hc;obtain ⟨D,E,hs'⟩:=hs;have hv:=cj hs' hb';rw[hb] at hv;exact wpIn_cond_split (lZ hv) (fun ht=>h1 ht cx hx a w ⟨D,E,hs'⟩) (fun ht=>h2 ht cy hy a w ⟨D,E,hs'⟩)
 ·cases hc
theorem J.block{id:Nat}{x:aP}(h:J c x (bL id Q) A):J c (.block id x) Q A:=by
 intro code hc a w hs;cases code <;>simp only[fk] at hc <;>try (first | (cases hc;done) | ((repeat' split at hc) <;>cases hc;done))
 rename_i id' cx;split at hc
 ·rename_i x' hx;simp only[u8,aP.block.injEq] at hc;obtain ⟨rfl,rfl⟩:=hc;refine wpIn_block (wpIn_mono (h cx hx a w hs) ?_);rintro e a' w' ⟨B,hq,hs'⟩;cases e <;>simp only[bL,Exit.inBlock] at * <;>first
   |exact ⟨B,hq,hs'⟩
   |(split at hq
     ·rename_i he;rw[if_pos he];exact ⟨B,hq,hs'⟩
     ·rename_i he;rw[if_neg he];exact ⟨B,hq,hs'⟩)
 ·cases hc
theorem J.exit{id:Nat}(h:Q (.exit id) A):J c (.exit id) Q A:=by
 intro code hc a w hs;cases code <;>simp only[fk] at hc <;>try (first | (cases hc;done) | ((repeat' split at hc) <;>cases hc;done))
 simp only[u8,aP.exit.injEq] at hc;subst hc;exact wpIn_exit ⟨A,h,hs⟩
theorem J.ret(h:Q .ret A):J c .ret Q A:=by
 intro code hc a w hs;cases code <;>simp only[fk] at hc <;>try (first | (cases hc;done) | ((repeat' split at hc) <;>cases hc;done))
 exact wpIn_ret ⟨A,h,hs⟩
theorem J.skip(h:Q .normal A):J c .skip Q A:=by
 intro code hc a w hs;cases code <;>simp only[fk] at hc <;>try (first | (cases hc;done) | ((repeat' split at hc) <;>cases hc;done))
 exact wpIn_skip ⟨A,h,hs⟩
theorem C4{p:Nat→Prop}(h:∃ n,p n):∃ n,p n∧∀ m,p m→n≤m:=by
 obtain ⟨n,hn⟩:=h
 induction n using Nat.strongRecOn with
 |_ n ih =>
  by_cases hm:∃ m,m<n∧p m
  ·obtain ⟨m,h1,h2⟩:=hm;exact ih m h1 h2
  ·exact ⟨n,hn,fun m hp=>Nat.le_of_not_lt fun hlt=>hm ⟨m,hlt,hp⟩⟩
open Classical in
noncomputable def least(p:Nat→Prop):Nat:=if h:∃ n,p n then (C4 h).choose else 0
theorem JR{p:Nat→Prop}(h:∃ n,p n):p (least p)∧∀ m,p m→least p≤m:=by
 simp only[least,dif_pos h];exact (C4 h).choose_spec
theorem akH{bh:Fence}{N:Nat}{P:Program}{code:Code}{QQ:Exit→Act→World→Prop}(aj:Nat→Act→World→Prop)(round:∀ n a w,aj n a w→code.wpIn bh N P (Exit.then (fun a' w'=>∃ m,m<n∧aj m a' w') QQ) a w) :
  ∀ n a w,aj n a w→(Code.loop code).wpIn bh N P QQ a w:=by
 intro n a w h;refine wpIn_loop (fun a w=>∃ n,aj n a w) (fun a w=>least fun n=>aj n a w) ⟨n,h⟩ ?_;intro a w hI;have hm:=(JR hI).1;refine wpIn_mono (round _ a w hm) ?_;intro e a' w' hq;cases e <;>simp only[Exit.then] at hq ⊢ <;>try exact hq
 obtain ⟨m,h1,h2⟩:=hq;exact ⟨⟨m,h2⟩,Nat.lt_of_le_of_lt ((JR ⟨m,h2⟩).2 m h2) h1⟩
def aF(A B:ae):Prop:=∀ (c:cS) (a:Act) (w:World),cw c A a w→cw c B a w
theorem aF.refl(A:ae):aF A A:=fun _ _ _ h=>h
theorem aF.trans{A B C:ae}(h:aF A B)(k:aF B C):aF A C:=fun c a w hs=>k c a w (h c a w hs)
theorem J.sub{x:aP}{B:ae}(hsub:aF A B)(h:J c x Q B):J c x Q A:=fun code hc a w hs=>h code hc a w (hsub c a w hs)
theorem J.mono{x:aP}{Q':Exit→ae→Prop}(h:J c x Q A)(hq:∀ e B,Q e B→Q' e B):J c x Q' A :=
 fun code hc a w hs=>wpIn_mono (h code hc a w hs) fun e a' w' ⟨B,h1,h2⟩=>⟨B,hq e B h1,h2⟩
theorem J.loop{σ:Type}(S:σ→ae)(C:σ→Prop)(m:σ→Nat)(s0:σ){x:aP}(h0:C s0)(hsub:aF A (S s0))
  (round:∀ s,C s→J c x (ar (fun B=>∃ s',C s'∧m s'<m s∧aF B (S s')) Q) (S s)):J c (.loop x) Q A:=by
 intro code hc a w hs;cases code <;>simp only[fk] at hc <;>try (first | (cases hc;done) | ((repeat' split at hc) <;>cases hc;done))
 rename_i cx;split at hc
 ·rename_i x' hx;simp only[u8,aP.loop.injEq] at hc;subst hc;refine akH (fun n a w=>∃ s,C s∧m s=n∧cw c (S s) a w) ?_ (m s0) a w ⟨s0,h0,rfl,hsub c a w hs⟩;rintro n a w ⟨s,hC,rfl,hs⟩;refine wpIn_mono (round s hC cx hx a w hs) ?_;rintro e a' w' ⟨B,hq,hs'⟩;cases e <;>simp only[ar,Exit.then] at * <;>first
   |exact ⟨B,hq,hs'⟩
   |(obtain ⟨s',h1,h2,h3⟩:=hq;exact ⟨m s',h2,s',h1,rfl,h3 c a' w' hs'⟩)
 ·cases hc
end
inductive a6 where
 |tmp (t:Nat)
 |cell (a:Nat) (s:Option Nat)
def iT(P:Program):List ResultVar→Option (List a6)
 | []=>some []
 | .tmp t::l=>(iT P l).map (.tmp t :: ·)
 | .cell a t::l=>match fS P t,iT P l with
  |some s,some l=>some (.cell a s::l)
  |_,_=>none
def ue(A:ae):a6→Option I
 | .tmp t=>a7 true A (A.t t)
 | .cell a s=>match cB A (A.t a) with
  |some x=>if bY s x then a7 true A x else none
  |none=>none
def fc(A:ae):List a6→Option (List I)
 | []=>some []
 |r::rs=>match ue A r,fc A rs with
  |some x,some xs=>some (x::xs)
  |_,_=>none
def je:List I→I
 | [x]=>x
 |xs=>.tuple xs
def oY(args:List I):ae:=⟨fun t=>args.getD t .undef,fun _=>none⟩
def jH(rs:List a6)(r:I):Exit→ae→Prop
 | .ret,A=>∃ xs,fc A rs=some xs∧je xs=r
 | .normal,A=>∃ xs,fc A rs=some xs∧je xs=r
 |_,_=>False
def qm(args:List I)(os:List (Nat×ai)):ae:=⟨fun t=>args.getD t .undef,ak os⟩
theorem aki{P:Program}{n:Nat}{w:World}{D:aM}{E:aW}{Y:Value→List I→List (Nat×ai)→cT→Prop}{args:List I}{os:List (Nat×ai)}{vs:List Value}(hD:∀ b o,D b o→b<w.heap.size)(ho:lp (fun _=>True) w D E (ak os))
  (hv:aG w D E args vs) (hn:vs.length≤n) (hos:∀ m,al os m=true→n≤m∧1000000≤m) (hy:pc ⟨P,w,D,n,dz E,E,Y,none⟩) :
  aS ⟨P,w,D,n,dz E,E,Y,none⟩ (qm args os) { tmps:=vs.toArray++Array.replicate (n-vs.toArray.size) undef,defers:=[] } w D E:=by
 refine ⟨by simp;omega,⟨[],rfl,.nil,fun _ h=>by simp at h⟩,fun t =>?_,fO.refl _ _,fun _ _ h _=>h,hD,fun m =>?_,ho.cU,fun m e h=>.inr ⟨e,h,.refl e⟩,fun m hm =>?_,fun _ _ h=>h,hy,.refl _ _⟩
 ·have key:∀ (args:List I) (vs:List Value) (t:Nat),aG w D E args vs→aV w D E (args.getD t .undef) (vs.getD t undef):=by
   intro args
   induction args with
   |nil=>intro vs t h;simp only[aG] at h;subst h;simp[aV]
   |cons x xs ih =>
    intro vs t h;simp only[aG] at h;obtain ⟨v,rest,cs,rfl,h1,h2,h3⟩:=h;cases t with
    |zero=>simpa using mG h1 h2
    |succ t=>simpa using ih rest t h3
  have:=key args vs t hv;have e:(vs.toArray++Array.replicate (n-vs.toArray.size) undef).getD t undef=vs.getD t undef:=by
   simp only[Array.getD_eq_getD_getElem?,zz1];rcases Nat.lt_or_ge t vs.length with h | h
   ·rw[Array.getElem?_append_left (by simpa using h)];simp
   ·rw[Array.getElem?_append_right (by simpa using h),List.getElem?_eq_none h];simp only[Array.getElem?_replicate];split <;>rfl
  simp only[qm];rw[e];exact this
 ·have h:=ho.bT m;simp only[qm];cases hx:ak os m with
  |none=>rw[hx] at h;exact h
  |some x =>
   rw[hx] at h;cases x with
   |box x =>
    obtain ⟨b,cs,T,k1,_,k3⟩:=h;exact ⟨b,cs,T,k1,.inr ⟨m,_,k1,rfl⟩,k3⟩
   |bX T sz es =>
    obtain ⟨aE,k1,k2,k3⟩:=h;refine ⟨aE,k1,k2,?_⟩;cases aE with
    |none=>exact k3
    |some bc =>
     obtain ⟨b,cap⟩:=bc;obtain ⟨cs,pre,rest,_,k4⟩:=k3;exact ⟨cs,pre,rest,.inr ⟨m,_,k1,rfl⟩,k4⟩
   |cV T xs =>
    obtain ⟨aE,k1,k2,k3⟩:=h;refine ⟨aE,k1,k2,?_⟩;cases aE with
    |none=>exact k3
    |some bc =>
     obtain ⟨b,cap⟩:=bc;obtain ⟨cs,rest,_,k4⟩:=k3;exact ⟨cs,rest,.inr ⟨m,_,k1,rfl⟩,k4⟩
   |dQ x =>
    obtain ⟨b,k1,_,k3⟩:=h;exact ⟨b,k1,.inr ⟨m,_,k1,rfl⟩,k3⟩
   |cv ks vs =>
    obtain ⟨b,es,ck,k1,_,k3⟩:=h;exact ⟨b,es,ck,k1,.inr ⟨m,_,k1,rfl⟩,k3⟩
   |it ks vs left cur =>
    obtain ⟨r,b,es,ck,si,se,la,k1,_,k3⟩:=h;exact ⟨r,b,es,ck,si,se,la,k1,.inr ⟨m,_,k1,rfl⟩,k3⟩
 ·have h:=ho.bT m;refine hos m ?_;cases hx:ak os m with
  |none=>rw[hx] at h;exact absurd h hm
  |some x=>simp[al,hx]
def rI(tmps:Array Value):ResultVar→Sem Value
 | .tmp t=>pure (tmps.getD t undef)
 | .cell a t=>do loadVar t (←asAddr (tmps.getD a undef))
theorem ajy(fn:Func)(tmps:Array Value):results fn tmps=(do
  let vs ←fn.results.mapM (rI tmps)
  pure (if h:vs.size=1 then vs[0] else .tuple vs)):=by
 unfold results;rfl
def tU(A:ae):a6→Option I
 | .tmp t=>some (A.t t)
 | .cell a s=>match cB A (A.t a) with
  |some x=>if bY s x then some x else none
  |none=>none
def mQ(A A0:ae)(os:List (Nat×ai)):List a6→List I→Prop
 | [],[]=>True
 |r::rs,y::ys=>(∃ x,tU A r=some x∧((y=x∧x.b8=true∧x.only (al os)=true)∨a7 true A0 x=some y))∧mQ A A0 os rs ys
 |_,_=>False
def ae.kZ(A:ae)(os:List (Nat×ai)):ae:=⟨A.t,fun n=>if al os n then none else A.o n⟩
def kF(rs:List a6)(post:cT)(A:ae):Prop :=
 ∃ (os:List (Nat×ai)) (xs:List I),(∀ n x,ak os n=some x→A.o n=some x∧x.only (al os)=true∧x.eG=true)∧mQ A (A.kZ os) os rs xs∧post (je xs) os
def nK(rs:List a6)(post:cT):Exit→ae→Prop
 | .ret,A=>kF rs post A
 | .normal,A=>kF rs post A
 |_,_=>False
theorem yC{c:cS}{A:ae}{a:Act}{w:World}{D:aM}{E:aW}(hs:aS c A a w D E){A0:ae}(hu:eC A0 A){os:List (Nat×ai)}{D':aM}{E':aW}(hw:ir true A0 D E D')(aw:∀ n,al os n=true→E' n=E n)(hE':∀ n,al os n=false→E' n=none) :
  ∀ (rs:List ResultVar) (ls:List a6) (xs:List I),iT c.P rs=some ls→mQ A A0 os ls xs→∃ vs:List Value,(rs.mapM (rI a.tmps)).run c.P w=.ok vs w∧aG w D' E' xs vs
 | [],ls,xs,hc,hr=>by
  simp only[iT,u8] at hc;subst hc;cases xs with
  |nil=>exact ⟨[],by simp,by simp[aG]⟩
  |cons x xs=>simp[mQ] at hr
 |r::rs,ls,xs,hc,hr=>by
  have hl:dS w D E' w D' E':=⟨hw.da,fun _ _ _ _ h=>h,fun _ _ _ h=>h,fun _ aE l h=>⟨aE,l,h,zz7 _,fun _=>rfl⟩,fun _ _ h=>h,fun _ _ h=>h,fun _ _ _ _ h=>h⟩
  have fin1:∀ {x y:I} {v:Value},aV w D E x v→((y=x∧x.b8=true∧x.only (al os)=true)∨a7 true A0 x=some y)→∃ cs,bD y v cs∧ah w D' E' y cs:=by
   intro x y v hv hf;rcases hf with ⟨rfl,h1,h2⟩ | hf
   ·have h3:=aV.bI hl (aV.dB aw h2 hv);cases y <;>simp only[aV] at h3 <;>first | (simp[I.b8] at h1;done) | exact h3
   ·have h1:aG w D E [x] [v]:=mT [x] [v] (.cons hv .nil) (by
     intro z hz;simp only[zw5] at hz;subst hz;cases z <;>simp_all[a7,I.b8])
    have h2:=mA (E':=E') hs hu hw [x] [y] [v] h1 (by simp[bZ,hf]);simp only[aG] at h2;obtain ⟨v',rest,cs,e,k1,k2,_⟩:=h2;simp only[List.cons.injEq] at e;obtain ⟨rfl,_⟩:=e;exact ⟨cs,k1,k2⟩
  cases r with
  |tmp t =>
   simp only[iT,zz0] at hc;obtain ⟨ls',hl',rfl⟩:=hc;cases xs with
   |nil=>simp[mQ] at hr
   |cons y ys =>
    simp only[mQ] at hr;obtain ⟨⟨x,h1,h2⟩,h3⟩:=hr;simp only[tU,u8] at h1;subst h1;obtain ⟨vs,k1,k2⟩:=yC hs hu hw aw hE' rs ls' ys hl' h3;obtain ⟨cs,k3,k4⟩:=fin1 (hs.eB t) h2;refine ⟨a.tmps.getD t undef::vs,?_,?_⟩
    ·simp only[List.mapM_cons,Sem.run_bind,rI,Sem.run_pure,Result.andThen_ok,k1]
    ·simp only[aG];exact ⟨_,vs,cs,rfl,k3,k4,k2⟩
  |cell ad t =>
   simp only[iT] at hc;split at hc
   ·rename_i s ls' hk hl';simp only[u8] at hc;subst hc;cases xs with
    |nil=>simp[mQ] at hr
    |cons y ys =>
     simp only[mQ] at hr;obtain ⟨⟨x,h1,h2⟩,h3⟩:=hr;obtain ⟨vs,k1,k2⟩:=yC hs hu hw aw hE' rs ls' ys hl' h3;simp only[tU] at h1;split at h1
     ·rename_i z hz;split at h1
      ·rename_i hok;simp only[u8] at h1;subst h1;obtain ⟨b,off,cs,q1,q2,q3⟩:=hs.Af (hs.eB ad) hz;obtain ⟨v,q4,q5⟩:=NC hk hok q2 q3;obtain ⟨cs',k3,k4⟩:=fin1 q5 h2;refine ⟨v::vs,?_,?_⟩
       ·have e:(rI a.tmps (.cell ad t)).run c.P w=.ok v w:=by
         simp only[rI,Sem.run_bind,q1,asAddr,Sem.run_pure,Result.andThen_ok,q4]
        simp only[List.mapM_cons,Sem.run_bind,Sem.run_pure,Result.andThen_ok,k1,e]
       ·simp only[aG];exact ⟨_,vs,cs',rfl,k3,k4,k2⟩
      ·cases h1
     ·cases h1
   ·cases hc
theorem aS.UL{c:cS}{A:ae}{a:Act}{w:World}{D:aM}{E:aW}(h:aS c A a w D E){B:Nat}{ds:List Deferred}(hd:a.defers = { target:=.collected B,args := #[] } :: ds) :
  w.heap[B]?=some (.deferred (some []))∧aS c A { a with defers:=ds } (w.putObj B (.deferred none)) D E:=by
 obtain ⟨Bs,h1,h2,h3⟩:=h.eU;rw[hd] at h1;cases Bs with
 |nil=>cases h1
 |cons B' Bs =>
  simp only[zz9,List.cons.injEq,Deferred.mk.injEq,Target.collected.injEq,and_true] at h1;obtain ⟨rfl,rfl⟩:=h1;have hB:=h3 B (by simp);have hlt:B<w.heap.size:=(zx9.1 hB.2).1;have hl:dS w D E (w.putObj B (.deferred none)) D E :=
   ⟨fun _ _ h=>h,fun b o v _ hv=>vi hB.2 rfl hv,fun _ _ _ h=>h,fun _ aE l h=>⟨aE,l,h,zz7 _,fun _=>rfl⟩,fun _ _ h=>h,fun _ _ h=>h,fun b es ck _ hm=>(World.putObj_heap_other (fun e=>by rw[e,hB.2] at hm;cases hm)).trans hm⟩
  have hne:∀ {b:Nat} {cs:Array Value} {T:TypeId},w.heap[b]?=some (.cells cs T (0,0))→(w.putObj B (.deferred none)).heap[b]?=w.heap[b]?:=fun {b cs T} hb =>
   World.putObj_heap_other (fun e=>by rw[e,hB.2] at hb;cases hb)
  refine ⟨hB.2,h.sz,⟨Bs,rfl,(List.nodup_cons.1 h2).2,fun B2 hB2=>⟨(h3 B2 (by simp[hB2])).1,?_⟩⟩,fun t=>aV.bI hl (h.eB t),h.dZ.trans ⟨rfl,rfl,rfl,by simp,fun k hk =>?_⟩,h.da,fun b o hd=>by have:=h.dq b o hd;simpa using this,fun n =>?_,h.cU,h.ed,h.fb,h.cO,h.fg,h.lg hl⟩
  ·rw[World.putObj_heap_other (fun e=>(List.nodup_cons.1 h2).1 (by rw[←e];exact hB2))];exact (h3 B2 (by simp[hB2])).2
  ·exact World.putObj_heap_other (fun e=>hk (e▸.inl hB.1))
  ·refine (h.bT n).bI hl rfl fun e b he hb=>⟨?_,fun _ h=>h⟩
   have hob:=h.bT n;unfold dg at hob;split at hob
   ·rw[hob] at he;cases he
   ·obtain ⟨b',cs,T,k1,_,k3,_⟩:=hob;rw[k1,u8] at he;subst he;simp only[bR.aE,u8] at hb;subst hb;exact hne k3
   ·obtain ⟨aE,k1,_,k3⟩:=hob;rw[k1,u8] at he;subst he;split at k3
    ·simp[bR.aE] at hb
    ·obtain ⟨cs,pre,rest,_,k5,_⟩:=k3;simp only[bR.aE,u8] at hb;subst hb;exact hne k5
   ·obtain ⟨b',k1,_,k3,k4,_⟩:=hob;rw[k1,u8] at he;subst he;simp only[bR.aE,u8] at hb;subst hb;exact World.putObj_heap_other (fun e=>by rw[e,hB.2] at k3;cases k3;cases k4)
   ·obtain ⟨b',es,ck,k1,_,k3,_⟩:=hob;rw[k1,u8] at he;subst he;cases hb;exact World.putObj_heap_other (fun e=>by rw[e,hB.2] at k3;cases k3)
   ·obtain ⟨r,b',es,ck,si,se,la,k1,_,k3,_⟩:=hob;rw[k1,u8] at he;subst he;cases hb;exact World.putObj_heap_other (fun e=>by rw[e,hB.2] at k3;cases k3)
   ·obtain ⟨aE,k1,_,k3⟩:=hob;rw[k1,u8] at he;subst he;split at k3
    ·simp[bR.aE] at hb
    ·obtain ⟨cs,m,_,k5,_⟩:=k3;simp only[bR.aE,u8] at hb;subst hb;exact hne k5
def uQ(w:World)(D:aM)(E:aW)(post:cT)(v:Value)(w':World):Prop :=
 ∃ D' E' r os',post r os'∧aV w' D' E' r v∧lp (fun b=>w.heap.size≤b∨dz E b) w' D' E' (ak os') ∧
  fO (fun b=>w.heap.size≤b∨dz E b) w w'∧(∀ b o,D b o→D' b o)∧(∀ b o,D' b o→b<w'.heap.size)∧(∀ b o,D' b o→b<w.heap.size→¬ dz E b→D b o) ∧
  (∀ n e,E n=some e→al os' n=true→∃ e',E' n=some e'∧e.le e')∧iq w D w'
theorem aS.JS{P:Program}{n:Nat}{w:World}{D:aM}{E:aW}{Y:Value→List I→List (Nat×ai)→cT→Prop}{mR:Option Nat}{A:ae}{a:Act}{w':World}{D':aM}{E':aW}
  (hs:aS ⟨P,w,D,n,dz E,E,Y,mR⟩ A a w' D' E') {os:List (Nat×ai)} (h1:∀ n x,ak os n=some x→A.o n=some x∧x.only (al os)=true∧x.eG=true) :
  ∃ D2 E2,ir true (A.kZ os) D' E' D2∧(∀ n,al os n=true→E2 n=E' n)∧(∀ n,al os n=false→E2 n=none)∧lp (fun b=>w.heap.size≤b∨dz E b) w' D2 E2 (ak os) ∧
   fO (fun b=>w.heap.size≤b∨dz E b) w w'∧(∀ b o,D b o→D2 b o)∧(∀ b o,D2 b o→b<w'.heap.size)∧(∀ b o,D2 b o→b<w.heap.size→¬ dz E b→D b o) ∧
   (∀ n e,E n=some e→al os n=true→∃ e',E2 n=some e'∧e.le e')∧iq w D w':=by
 obtain ⟨c,hc⟩:∃ c:cS,c=⟨P,w,D,n,dz E,E,Y,mR⟩:=⟨_,rfl⟩
 rw[←hc] at hs;have hM:c.fj=fun b=>w.heap.size≤b∨dz E b:=by rw[hc];rfl
 obtain ⟨E2,hE2⟩:∃ E2:aW,E2=fun n=>if al os n then E' n else none:=⟨_,rfl⟩
 obtain ⟨D2,hD2⟩:∃ D2:aM,D2=fun b o=>b<w'.heap.size∧(D' b o∨(¬ dz E2 b∧c.fj b)):=⟨_,rfl⟩
 have e2:∀ n,al os n=true→E2 n=E' n:=fun n hn=>by rw[hE2];simp only[hn,if_true]
 have cut:∀ n e,E2 n=some e→al os n=true∧E' n=some e:=fun n e he=>by
  rw[hE2] at he;simp only at he;split at he
  ·exact ⟨by assumption,he⟩
  ·cases he
 have up2:∀ b o,D' b o→D2 b o:=fun b o hd=>by
  rw[hD2];exact ⟨hs.dq b o hd,.inl hd⟩
 have down:∀ b o,D2 b o→dz E2 b→D' b o:=fun b o hd hb=>by
  rw[hD2] at hd;rcases hd.2 with h | h
  ·exact h
  ·exact absurd hb h.1
 have hu:eC (A.kZ os) A:=fun n x hx=>by
  simp only[ae.kZ] at hx;split at hx
  ·cases hx
  ·exact hx
 have notOwn:∀ n e b,(A.kZ os).o n≠none→E' n=some e→e.aE=some b→¬ dz E2 b:=fun n e b hn he hb ho=>by
  obtain ⟨m,e',k1,k3⟩:=ho;obtain ⟨k1,k2⟩:=cut m e' k1;have:=hs.cU n m e _ b he k2 hb k3;subst this;simp[ae.kZ,k1] at hn
 have hw:ir true (A.kZ os) D' E' D2:=by
  refine ⟨up2,fun n T sz es b cap hn aw o _ =>?_,fun _ n x b aO hn aw o _ =>?_,fun _ n ks vs b hn aw =>?_⟩
  ·rw[hD2];refine ⟨hs.fV aw rfl,.inr ⟨notOwn n _ b (by rw[hn];simp) aw rfl,?_⟩⟩;obtain ⟨aE,k1,k2,k3⟩:=hs.bX (hu n _ hn);rw[aw] at k1;simp only[u8,bR.rw.injEq,and_true] at k1;subst k1;obtain ⟨_,_,_,k4,_⟩:=k3;exact k4
  ·rw[hD2];refine ⟨hs.fV aw rfl,.inr ⟨notOwn n _ b (by rw[hn];simp) aw rfl,?_⟩⟩;obtain ⟨b',cs,T,k1,k2,_⟩:=hs.box (hu n _ hn);rw[k1] at aw;simp only[u8,bR.aA.injEq] at aw;obtain ⟨rfl,_⟩:=aw;exact k2
  ·rw[hD2];refine ⟨hs.fV aw rfl,.inr ⟨notOwn n _ b (by rw[hn];simp) aw rfl,?_⟩⟩;obtain ⟨b',es,ck,k1,k2,_⟩:=hs.map (hu n _ hn);rw[k1] at aw;cases aw;exact k2
 have hst:iq w D w':=by
  have:=hs.fJ;rw[hc] at this;exact this
 refine ⟨D2,E2,hw,e2,fun n hn=>by rw[hE2];simp[hn],⟨fun m =>?_,fun m m' e e' b g1 g2 g3 g4 =>?_⟩,?_,fun b o hd=>up2 b o (hs.cO b o (by rw[hc];exact hd)),fun b o hd=>by rw[hD2] at hd;exact hd.1,fun b o hd hlt hno =>?_,fun m e hm hin =>?_,hst⟩
 ·cases hx:ak os m with
  |none=>simp only[dg];rw[hE2];simp[al,hx]
  |some x =>
   have hm:al os m=true:=by simp[al,hx]
   obtain ⟨k1,k2,k3⟩:=h1 m x hx;have ho:=hs.bT m;rw[k1] at ho;have hl2:dS w' D' E2 w' D2 E2:=⟨up2,fun _ _ _ _ h=>h,fun _ _ _ h=>h,fun _ aE l h=>⟨aE,l,h,zz7 _,fun _=>rfl⟩,fun _ _ h=>h,fun _ _ h=>h,fun _ _ _ _ h=>h⟩
   have nD:∀ e b,E' m=some e→e.aE=some b→∀ o,D2 b o→D' b o:=fun e b he hb o hd=>down b o hd ⟨m,e,(e2 m hm).trans he,hb⟩;cases x with
   |bX T sz es =>
    obtain ⟨aE,q1,q2,q3⟩:=ho;refine ⟨aE,(e2 m hm).trans q1,q2,?_⟩;cases aE with
    |none=>exact q3
    |some bc =>
     obtain ⟨b,cap⟩:=bc;obtain ⟨cs,pre,rest,g1,g2,g3,g4,g5,g6,g7,g8⟩:=q3;exact ⟨cs,pre,rest,by rw[←hM];exact g1,g2,g3,aI.bI hl2 _ _ (aI.dB e2 _ _ (by simpa[ai.only] using k2) g4),g5,g6,g7,fun o hd=>g8 o (nD _ b q1 rfl o hd)⟩
   |box y =>
    obtain ⟨b',cs,T,q1,q2,q3,q4,q5⟩:=ho;exact ⟨b',cs,T,(e2 m hm).trans q1,by rw[←hM];exact q2,q3,ah.bI hl2 _ _ (ah.dB e2 _ _ (by simpa[ai.only] using k2) q4),fun o hd=>q5 o (nD _ b' q1 rfl o hd)⟩
   |dQ o =>
    obtain ⟨b',q1,q2,q3,q4,q5⟩:=ho;exact ⟨b',(e2 m hm).trans q1,by rw[←hM];exact q2,q3,q4,fun o hd=>q5 o (nD _ b' q1 rfl o hd)⟩
   |cv ks vs =>
    obtain ⟨b',es,ck,q1,q2,q3,q4,q5,q6,q7⟩:=ho;simp only[ai.only,zz2] at k2;exact ⟨b',es,ck,(e2 m hm).trans q1,by rw[←hM];exact q2,q3,q4,aG.bI hl2 _ _ (aG.dB e2 _ _ k2.1 q5),aG.bI hl2 _ _ (aG.dB e2 _ _ k2.2 q6),fun o hd=>q7 o (nD _ b' q1 rfl o hd)⟩
   |it ks vs left cur=>cases k3
   |cV T xs =>
    obtain ⟨aE,q1,q2,q3⟩:=ho;refine ⟨aE,(e2 m hm).trans q1,q2,?_⟩;cases aE with
    |none=>exact q3
    |some bc =>
     obtain ⟨b,cap⟩:=bc;obtain ⟨cs,r,g1,g2,g3,g4,g5,g6,g7⟩:=q3;exact ⟨cs,r,by rw[←hM];exact g1,g2,g3,g4,g5,g6,fun o hd=>g7 o (nD _ b q1 rfl o hd)⟩
 ·exact hs.cU m m' e e' b (cut m e g1).2 (cut m' e' g2).2 g3 g4
 ·rw[←hM];have:=hs.dZ;rw[hc] at this ⊢;exact this
 ·rw[hD2] at hd;have hnm:¬ c.fj b:=by
    rw[hM];rintro (h | h);· omega
    ·exact hno h
  rcases hd.2 with h | h
  ·have:=hs.da b o h hnm;rw[hc] at this;exact this
  ·exact absurd h.2 hnm
 ·rw[e2 m hin];have ho:A.o m≠none:=by
   cases hx:ak os m with
   |none=>simp[al,hx] at hin
   |some x=>rw[(h1 m x hx).1];simp
  rcases hs.ed m e (by rw[hc];exact hm) with h | h
  ·have hob:=hs.bT m;cases hx:A.o m with
   |none=>exact absurd hx ho
   |some x=>rw[hx] at hob;exact absurd h (tD hob)
  ·exact h
theorem aS.agT{P:Program}{n:Nat}{w:World}{D:aM}{E:aW}{Y:Value→List I→List (Nat×ai)→cT→Prop}{rs:List a6}{post:cT}{fn:Func}{A:ae}{a:Act}{w':World}{D':aM}{E':aW}
  (hs:aS ⟨P,w,D,n,dz E,E,Y,none⟩ A a w' D' E') (hrs:iT P fn.results.toList=some rs) (h:kF rs post A):∃ v,(results fn a.tmps).run P w'=.ok v w'∧uQ w D E post v w':=by
 obtain ⟨os,xs,h1,h2,h3⟩:=h;obtain ⟨D2,E2,hw,e2,e2n,q1,q2,q3,q4,q5,q6⟩:=hs.JS h1;have hu:eC (A.kZ os) A:=fun n x hx=>by
  simp only[ae.kZ] at hx;split at hx
  ·cases hx
  ·exact hx
 obtain ⟨vs,k1,k2⟩:=yC hs hu (os:=os) (E':=E2) hw e2 e2n fn.results.toList rs xs hrs h2;have hres:(results fn a.tmps).run P w'=.ok (if h:vs.toArray.size=1 then vs.toArray[0] else .tuple vs.toArray) w':=by
  rw[ajy,Sem.run_bind,Array.mapM_eq_mapM_toList,Sem.run_map,k1];rfl
 refine ⟨_,hres,D2,E2,je xs,os,h3,?_,q1,q2,q3,q4,q5,q6⟩
 match xs,vs,k2 with
 | [x],vs,k2 =>
  simp only[aG] at k2;obtain ⟨v,rest,cs,rfl,q1,q2,rfl⟩:=k2;simpa[je] using mG q1 q2
 | [],vs,k2 =>
  simp only[aG] at k2;subst k2;simp[je,aV,aG]
 |x::y::xs,vs,k2 =>
  have hl:vs.length≠1:=by
   simp only[aG] at k2;obtain ⟨v,rest,cs,rfl,_,_,v2,rest2,cs2,rfl,_⟩:=k2;simp
  simp only[je,aV];exact ⟨vs,by simp[hl],k2⟩
theorem JT{P:Program}{n:Nat}{w:World}{D:aM}{E:aW}{Y:Value→List I→List (Nat×ai)→cT→Prop}{rs:List a6}{post:cT}{fn:Func}{A:ae}{D':aM}{E':aW}(hrs:iT P fn.results.toList=some rs)(h:kF rs post A) :
  ∀ (ds:List Deferred) (a:Act) (w':World),a.defers=ds→aS ⟨P,w,D,n,dz E,E,Y,none⟩ A a w' D' E'→LeavesInM Fence.wide 9 P fn a.tmps (fun e w'=>∃ v,e=.returned v∧uQ w D E post v w') ds .returning w'
 | [],a,w',_,hs=>by
  obtain ⟨v,h1,h2⟩:=hs.agT hrs h;exact ⟨v,h1,v,rfl,h2⟩
 |d::ds,a,w',hd,hs=>by
  obtain ⟨Bs,h1,_⟩:=hs.eU;rw[hd] at h1;cases Bs with
  |nil=>cases h1
  |cons B Bs =>
   simp only[zz9,List.cons.injEq] at h1;obtain ⟨rfl,rfl⟩:=h1;obtain ⟨k1,k2⟩:=hs.UL hd;exact ⟨by simp,.inl ⟨B,_,rfl,run_takeDeferred k1,JT hrs h _ { a with defers:=Bs.map _ } _ rfl k2⟩⟩
theorem yN{w:World}{D:aM}{E:aW} : ∀ {args:List I} {vs:List Value},aG w D E args vs→vs.length=args.length
 | [],vs,h=>by simp only[aG] at h;subst h;rfl
 |x::xs,vs,h=>by
  simp only[aG] at h;obtain ⟨v,rest,cs,rfl,_,_,h3⟩:=h;simp[yN h3]
def kE(P:Program)(f:FuncId)(Y:Value→List I→List (Nat×ai)→cT→Prop)(args:List I)(os:List (Nat×ai))(post:cT):Prop :=
 gR P f=true∧∀ (w:World) (D:aM) (E:aW) (vs:List Value),(∀ n,pc ⟨P,w,D,n,dz E,E,Y,none⟩)→(∀ b o,D b o→b<w.heap.size)→lp (fun _=>True) w D E (ak os)→aG w D E args vs →
  Calls P f vs.toArray w fun e w'=>∃ v,e=.returned v∧uQ w D E post v w'
theorem kE.tE{P:Program}{f:FuncId}{fn:Func}{body:Code}{x:aP}{rs:List a6}{Y:Value→List I→List (Nat×ai)→cT→Prop}{args:List I}{os:List (Nat×ai)}{post:cT}(hf:P.funcs[f]?=some fn)(hb:fn.body=some body)(hcall:gR P f=true)(hc:fk P fn.ntmps body=some x)
  (hrs:iT P fn.results.toList=some rs) (hn:args.length≤fn.ntmps) (hos:∀ m,al os m=true→fn.ntmps≤m∧1000000≤m) (h:∀ (w:World) (D:aM) (E:aW),J ⟨P,w,D,fn.ntmps,dz E,E,Y,none⟩ x (nK rs post) (qm args os)):kE P f Y args os post:=by
 refine ⟨hcall,fun w D E vs hy hD ho hv =>?_⟩;have hlen:=yN hv;have hsim:=aki (P:=P) (n:=fn.ntmps) (Y:=Y) hD ho hv (by omega) hos (hy fn.ntmps);refine (callsIn_wide (n:=9)).1 (callsIn_of_wp_marks hf hb trivial ?_);refine wpIn_mono (h w D E body hc _ w ⟨D,E,hsim⟩) ?_;rintro e a w' ⟨A,hq,D',E',hs⟩;cases e <;>simp only[nK] at hq <;>first
  |exact JT hrs hq a.defers a w' rfl hs
  |cases hq
theorem akN{P:Program}{w:World}{D:aM}{E:aW}{n:Nat} : pc ⟨P,w,D,n,dz E,E,iE,none⟩:=fun _ _ _ _ h=>h.elim
theorem cD.Kz{P:Program}{f:FuncId}{args:List I}{os:List (Nat×ai)}{post:cT}(h:kE P f iE args os post):cD P f args os post :=
 ⟨h.1,fun w D E vs _ hD ho hv=>(h.2 w D E vs (fun _=>akN) hD ho hv).mono fun e w' ⟨v,he,D',E',r,os',k⟩=>⟨v,D',E',r,os',he,k⟩⟩
theorem aD.aim{P:Program}{f:FuncId}{args:List I}{r:I}(h:cD P f args [] (fun r' os'=>r'=r∧os'=[])):aD P f args r:=by
 refine ⟨h.1,fun w D vs hD hv =>?_⟩;have hh:lp (fun _=>True) w D dM (ak []):=⟨fun n=>rfl,fun n m e e' b h=>by simp[dM] at h⟩
 refine (h.2 w D dM vs trivial hD hh hv).mono fun e w' hq =>?_;obtain ⟨v,D',E',r',os',he,⟨h1,h2⟩,k1,k2,k3,k4,k5,k6,_⟩:=hq;subst h1 h2;refine ⟨v,D',he,?_,?_,k5,fun b o hd hlt=>k6 b o hd hlt fun ⟨n,e,h,_⟩=>by simp[dM] at h⟩
 ·have:E'=dM:=by funext n;exact k2.bT n
  rw[←this];exact k1
 ·exact k3.Qx fun k hk hm=>by
   rcases hm with hm | ⟨n,e,h,_⟩
   ·omega
   ·simp[dM] at h
theorem ajL(A:ae):A.kZ []=A:=rfl
theorem Nq{A:ae} : ∀ {rs:List a6} {xs:List I},fc A rs=some xs→mQ A (A.kZ []) [] rs xs
 | [],xs,h=>by simp only[fc,u8] at h;subst h;trivial
 |r::rs,xs,h=>by
  simp only[fc] at h;split at h
  ·rename_i x xs' h1 h2;simp only[u8] at h;subst h;refine ⟨?_,Nq h2⟩;rw[ajL];cases r with
   |tmp t=>exact ⟨_,rfl,.inr h1⟩
   |cell a s =>
    simp only[ue,tU] at h1 ⊢;split at h1
    ·rename_i y hy;split at h1
     ·rename_i hok;exact ⟨y,by simp[hok],.inr h1⟩
     ·cases h1
    ·cases h1
  ·cases h
theorem ajz{rs:List a6}{r:I}{e:Exit}{A:ae}(h:jH rs r e A):nK rs (fun r' os'=>r'=r∧os'=[]) e A:=by
 cases e <;>simp only[jH] at h <;>first
  |exact h.elim
  |(obtain ⟨xs,h1,h2⟩:=h
    exact ⟨[],xs,fun n x hx=>by simp[ak] at hx,Nq h1,h2,rfl⟩)
theorem aD.tE{P:Program}{f:FuncId}{fn:Func}{body:Code}{x:aP}{rs:List a6}{args:List I}{r:I}(hf:P.funcs[f]?=some fn)(hb:fn.body=some body)(hcall:gR P f=true)(hc:fk P fn.ntmps body=some x)
  (hrs:iT P fn.results.toList=some rs) (hn:args.length≤fn.ntmps) (h:∀ (w:World) (D:aM) (E:aW),J ⟨P,w,D,fn.ntmps,dz E,E,iE,none⟩ x (jH rs r) (oY args)):aD P f args r:=by
 refine aD.aim (cD.Kz (kE.tE hf hb hcall hc hrs hn (fun m hm=>by simp[al,ak] at hm) fun w D E =>?_));exact (h w D E).mono fun e B hq=>ajz hq
end Go.Abs
namespace Go.Abs
open Go Go.RowKit
def aX(ts:List (Nat×I)):List (Nat×I)→Prop
 | []=>True
 |(k,v)::r=>cn ts k=v∧aX ts r
def bK(os:List (Nat×ai)):List (Nat×ai)→Prop
 | []=>True
 |(k,v)::r=>ak os k=some v∧bK os r
def bJ(p:Nat→Bool):List (Nat×I)→Prop
 | []=>True
 |(_,v)::r=>v.only p=true∧bJ p r
theorem yX{ts:List (Nat×I)} : ∀ {ts':List (Nat×I)},aX ts ts'→∀ k,cn ts' k=.dp∨cn ts' k=cn ts k
 | [],_,k=>.inl rfl
 |(j,v)::r,h,k=>by
  simp only[aX] at h;simp only[cn];split
  ·rename_i hk;subst hk;exact .inr h.1.symm
  ·exact yX h.2 k
theorem Oa{os:List (Nat×ai)} : ∀ {os':List (Nat×ai)},bK os os'→∀ k,ak os' k=none∨ak os' k=ak os k
 | [],_,k=>.inl rfl
 |(j,v)::r,h,k=>by
  simp only[bK] at h;simp only[ak];split
  ·rename_i hk;subst hk;exact .inr h.1.symm
  ·exact Oa h.2 k
theorem KY{p:Nat→Bool} : ∀ {ts:List (Nat×I)},bJ p ts→∀ k,(cn ts k).only p=true
 | [],_,k=>by simp[cn,I.only]
 |(j,v)::r,h,k=>by
  simp only[bJ] at h;simp only[cn];split
  ·exact h.1
  ·exact KY h.2 k
theorem KX{p:Nat→Bool} : ∀ {os:List (Nat×ai)},a8 p os→∀ k x,ak os k=some x→x.only p=true
 | [],_,k,x,hx=>by simp[ak] at hx
 |(j,v)::r,h,k,x,hx=>by
  simp only[a8] at h;simp only[ak] at hx;split at hx
  ·simp only[u8] at hx;subst hx;exact h.1
  ·exact KX h.2 k x hx
theorem aF.bM{ts ts':List (Nat×I)}{os os':List (Nat×ai)}(h1:aX ts ts')(h2:bK os os')(h3:bJ (al os') ts')(h4:a8 (al os') os'):aF (au ts os) (au ts' os'):=by
 rintro c a w ⟨D,E,hs⟩;have hp:∀ n,al os' n=true→(if al os' n then E n else none)=E n:=fun n hn=>by simp[hn]
 refine ⟨D,fun n=>if al os' n then E n else none,hs.sz,hs.eU,fun t =>?_,hs.dZ,hs.da,hs.dq,fun n =>?_,fun n m e e' b h1 h2 h3 h4 =>?_,fun n e hn =>?_,hs.fb,hs.cO,hs.fg,hs.fJ⟩
 ·have:=yX h1 t;rcases this with h | h
  ·simp only[au];rw[h];simp[aV]
  ·refine aV.dB (p:=al os') hp (KY h3 t) ?_;have:=hs.eB t;simp only[au] at *;rw[h];exact this
 ·have ho:=hs.bT n;simp only[au] at *;rcases Oa h2 n with h | h
  ·rw[h];simp[dg,al,h]
  ·rw[h];by_cases hin:ak os n=none
   ·rw[hin];simp[dg,al,h,hin]
   ·have aw:(if al os' n then E n else none)=E n:=hp n (by simp[al,h];cases hh:ak os n <;>simp_all);cases hx:ak os n with
    |none=>exact absurd hx hin
    |some x =>
     have hon:=KX h4 n x (h.trans hx);rw[hx] at ho;cases x with
     |box x =>
      obtain ⟨b,cs,T,k1,k2,k3,k4,k5⟩:=ho;exact ⟨b,cs,T,aw.trans k1,k2,k3,ah.dB hp _ _ (by simpa[ai.only] using hon) k4,k5⟩
     |bX T sz es =>
      obtain ⟨aE,k1,k2,k3⟩:=ho;refine ⟨aE,aw.trans k1,k2,?_⟩;cases aE with
      |none=>exact k3
      |some bc =>
       obtain ⟨b,cap⟩:=bc;obtain ⟨cs,pre,rest,q1,q2,q3,q4,q5⟩:=k3;exact ⟨cs,pre,rest,q1,q2,q3,aI.dB hp _ _ (by simpa[ai.only] using hon) q4,q5⟩
     |cV T xs =>
      obtain ⟨aE,k1,k2,k3⟩:=ho;exact ⟨aE,aw.trans k1,k2,k3⟩
     |dQ x =>
      obtain ⟨b,k1,k2⟩:=ho;exact ⟨b,aw.trans k1,k2⟩
     |cv ks vs =>
      obtain ⟨b,es,ck,k1,k2,k3,k4,k5,k6,k7⟩:=ho;simp only[ai.only,zz2] at hon;exact ⟨b,es,ck,aw.trans k1,k2,k3,k4,aG.dB hp _ _ hon.1 k5,aG.dB hp _ _ hon.2 k6,k7⟩
     |it ks vs left cur =>
      obtain ⟨r,b,es,ck,si,se,la,k1,k2,k3,k4,k5,k6,k7⟩:=ho;simp only[ai.only,zz2] at hon;exact ⟨r,b,es,ck,si,se,la,aw.trans k1,k2,k3,k4,aG.dB hp _ _ hon.1 k5,aG.dB hp _ _ hon.2 k6,k7⟩
 ·refine hs.cU n m e e' b ?_ ?_ h3 h4
  ·split at h1
   ·exact h1
   ·cases h1
  ·split at h2
   ·exact h2
   ·cases h2
 ·by_cases hi:al os' n=true
  ·simp only[hi,if_true];exact hs.ed n e hn
  ·simp only[hi];exact .inl rfl
def bp:Nat→List I→List (Nat×I)
 |_,[]=>[]
 |k,a::as=>(k,a)::bp (k+1) as
theorem J4:∀ (as:List I) (k t:Nat),cn (bp k as) t=if t<k then .dp else (as[t-k]?).getD .dp
 | [],k,t=>by simp[bp,cn]
 |a::as,k,t=>by
  simp only[bp,cn,J4 as (k+1) t];by_cases h:t=k
  ·subst h;simp
  ·rw[if_neg h];by_cases h2:t<k
   ·rw[if_pos (by omega),if_pos h2]
   ·rw[if_neg (by omega),if_neg h2,show t-k=(t-(k+1))+1 from by omega];simp
theorem N9(args:List I)(os:List (Nat×ai)):aF (qm args os) (au (bp 0 args) os):=by
 rintro c a w ⟨D,E,hs⟩;refine ⟨D,E,hs.sz,hs.eU,fun t =>?_,hs.dZ,hs.da,hs.dq,hs.bT,hs.cU,hs.ed,hs.fb,hs.cO,hs.fg,hs.fJ⟩;have:=hs.eB t;simp only[au,J4,qm,Nat.not_lt_zero,if_false,Nat.sub_zero] at *;cases h:args[t]? with
 |none=>simp[aV]
 |some x=>simpa[zz1,h] using this
theorem akh(args:List I):aF (oY args) (au (bp 0 args) []):=N9 args []
theorem tp(ts:List (Nat×I))(os:List (Nat×ai))(d:Nat)(v:I):(au ts os).put d v=au ((d,v)::ts) os:=rfl
theorem ahm(ts:List (Nat×I))(os:List (Nat×ai))(d:Nat)(v:I):(au ts os).aN (some d) v=au ((d,v)::ts) os:=rfl
theorem ahl(A:ae)(v:I):A.aN none v=A:=rfl
theorem oD(ts:List (Nat×I))(os:List (Nat×ai))(d:Nat)(x:ai):(au ts os).aL d x=au ts ((d,x)::os):=rfl
theorem ahn(ts:List (Nat×I))(os:List (Nat×ai))(k:Nat):(au ts os).t k=cn ts k:=rfl
theorem ahk(ts:List (Nat×I))(os:List (Nat×ai))(k:Nat):(au ts os).o k=ak os k:=rfl
theorem aY(j:Nat)(v:I)(r:List (Nat×I))(k:Nat):cn ((j,v)::r) k=if k=j then v else cn r k:=rfl
theorem cu(j:Nat)(v:ai)(r:List (Nat×ai))(k:Nat):ak ((j,v)::r) k=if k=j then some v else ak r k:=rfl
theorem oy(k:Nat):ak [] k=none:=rfl
theorem Yk(A:ae)(k:Nat):af A (.t k)=A.t k:=rfl
theorem Yj(A:ae)(x:I):af A (.c x)=x:=rfl
noncomputable def di(d:Option Nat)(rest:List az)(A:ae)(v:I):cK:=ay rest (A.aN d v)
theorem agG(d:Option Nat)(rest:List az)(A:ae)(v:I):di d rest A v=ay rest (A.aN d v):=rfl
theorem QS(v:I)(k:I→cK):cR (some v) k=k v:=rfl
theorem Qe(A:ae):ay [] A=.done A:=rfl
noncomputable def bO(A:ae)(d:Option Nat)(op:b9)(rest:List az):cK:=bd A d op rest (ay rest)
noncomputable def gV(x:I)(b:Bool)(d:Option Nat)(op:b9)(rest:List az)(A:ae):cK :=
 match x with
 | .bool b'=>if b'=b then bO A d op rest else ay rest (A.aN d .undef)
 | .undef=>ay rest (A.aN d .undef)
 |_=>.fail
theorem bj.guard{P:Program}{Y:Value→List I→List (Nat×ai)→cT→Prop}{dr:Bool}{K:ae→Prop}{x b:Bool}{d:Option Nat}{op:b9}{rest:List az}{A:ae}(h1:x=b→bj P Y dr K (bO A d op rest))(h2:x = !b→bj P Y dr K (ay rest (A.aN d .undef))):bj P Y dr K (gV (.bool x) b d op rest A):=by
 unfold gV;by_cases h:x=b
 ·simp only[if_pos h];exact h1 h
 ·simp only[if_neg h];exact h2 (by cases x <;>cases b <;>simp_all)
def I.dA:I→Option (List I)
 | .agg fs=>some fs
 |_=>none
def pj(p:List Nat):Option I→Option I
 |some f=>f.at p
 |none=>none
def ga(i:Nat)(p:List Nat):Option (List I)→Option I
 |some fs=>pj p fs[i]?
 |none=>none
theorem hT(c:I):c.at []=some c:=by cases c <;>rfl
theorem Qu(c:I)(i:Nat)(p:List Nat):c.at (i::p)=ga i p c.dA:=by
 cases c <;>first | rfl | (rename_i fs;simp only[I.at,ga,I.dA,pj])
def uo(fs:List I)(i:Nat)(p:List Nat)(v:I):Option I→I
 |some f=>.agg (fs.set i (f.dI p v))
 |none=>.agg fs
def rL(c:I)(i:Nat)(p:List Nat)(v:I):Option (List I)→I
 |some fs=>uo fs i p v fs[i]?
 |none=>c
theorem fv(c v:I):c.dI [] v=v:=by cases c <;>rfl
theorem NK(c:I)(i:Nat)(p:List Nat)(v:I):c.dI (i::p) v=rL c i p v c.dA:=by
 cases c <;>first | rfl | (rename_i fs;simp only[I.dI,rL,I.dA];cases fs[i]? <;>rfl)
def fr(p:List Nat):Option ai→Option I
 |some (.box c)=>c.at p
 |_=>none
def gS(A:ae):I→Option I
 | .ref x=>some x
 | .ptr n p=>fr p (A.o n)
 |_=>none
theorem mn(A:ae)(x:I):cB A x=gS A x:=by
 cases x <;>first | rfl | (rename_i n p;simp only[cB,gS];cases A.o n with | none=>rfl | some y=>cases y <;>rfl)
def dU(s:Option Nat)(x:I):Option I:=if bY s x=true then some x else none
def gJ(s:Option Nat):Option I→Option I
 |some x=>dU s x
 |none=>none
open Classical in
noncomputable def ef(fs:List I)(f off:Nat)(y:I):Option I:=if f<fs.length∧I.sizes (fs.take f)=off then some y else none
noncomputable def qN(n:Nat)(p:List Nat)(f off:Nat):Option (List I)→Option I
 |some fs=>ef fs f off (.ptr n (p++[f]))
 |none=>none
noncomputable def pD(fs:List I)(f off:Nat):Option I→Option I
 |some v=>ef fs f off (.ref v)
 |none=>none
noncomputable def qO(f off:Nat):Option (List I)→Option I
 |some fs=>pD fs f off fs[f]?
 |none=>none
def fE:Option I→Option (List I)
 |some x=>x.dA
 |none=>none
noncomputable def lJ(A:ae)(f off:Nat):I→Option I
 | .ref c=>qO f off c.dA
 | .ptr n p=>qN n p f off (fE (fr p (A.o n)))
 |_=>none
theorem ai7(A:ae)(f off:Nat)(x:aJ):br A (.fa f off x)=lJ A f off (af A x):=by
 simp only[br];generalize af A x=y;cases y with
 |ref c =>
  cases c <;>simp only[lJ,I.dA,qO]
  rename_i fs;cases h:fs[f]? with
  |none=>simp[pD]
  |some v =>
   have hl:f<fs.length:=(zy5.1 h).1;simp only[pD,ef,hl,true_and]

 |ptr n p =>
  simp only[lJ,mn,gS];cases fr p (A.o n) with
  |none=>simp[fE,qN]
  |some c =>
   cases c <;>simp only[fE,I.dA,qN]
   simp only[ef]

 |_=>simp only[lJ]
noncomputable def sN(f off:Nat)(s:Option Nat):Option (List I)→Option I
 |some fs=>match fs[f]? with
  |some v=>(ef fs f off v).bind (dU s)
  |none=>none
 |none=>none
theorem ai8(A:ae)(f off:Nat)(s:Option Nat)(x:aJ):br A (.fl f off s x)=sN f off s (af A x).dA:=by
 simp only[br];generalize af A x=y;cases y <;>simp only[sN,I.dA]
 rename_i fs;cases h:fs[f]? with
 |none=>rfl
 |some v =>
  have hl:f<fs.length:=(zy5.1 h).1;simp only[ef,hl,true_and];by_cases h1:I.sizes (fs.take f)=off <;>by_cases h2:bY s v=true <;>simp[h1,h2,dU]
open Classical in
noncomputable def fG(k:Int)(n:Nat)(y:Option I):Option I:=if 0≤k∧k<n then y else none
noncomputable def fF(n esz:Nat)(fs:List I)(y:Option I):Option I:=if iz n esz fs=true then y else none
noncomputable def qW(n esz:Nat)(k:Int):Option (List I)→Option I
 |some fs=>fF n esz fs ((fs[k.toNat]?).map .ref)
 |none=>none
noncomputable def qV(n esz m:Nat)(p:List Nat)(k:Int):Option (List I)→Option I
 |some fs=>fF n esz fs (some (.ptr m (p++[k.toNat])))
 |none=>none
noncomputable def oq(A:ae)(n esz:Nat)(k:Int):I→Option I
 | .ref c=>fG k n (qW n esz k c.dA)
 | .ptr m p=>fG k n (qV n esz m p k (fE (fr p (A.o m))))
 |_=>none
noncomputable def qU(A:ae)(n esz:Nat)(x:I):I→Option I
 | .int _ k=>oq A n esz k x
 |_=>none
theorem ai9(A:ae)(n esz:Nat)(x i:aJ):br A (.ia n esz x i)=qU A n esz (af A x) (af A i):=by
 simp only[br];generalize af A x=y;generalize af A i=z;cases z <;>simp only[qU]
 rename_i kk k;cases y with
 |ref c =>
  simp only[oq,fG];split
  ·cases c <;>simp only[I.dA,qW,fF]
  ·rfl
 |ptr m p =>
  simp only[oq,fG,mn,gS];split
  ·cases fr p (A.o m) with
   |none=>simp[fE,qV]
   |some c=>cases c <;>simp only[fE,I.dA,qV,fF]
  ·rfl
 |_=>simp only[oq];split <;>rfl
open Classical in
noncomputable def mC(m:Nat)(p:List Nat)(sz lo l esz:Nat)(k:Int):Option (List I)→Option I
 |some _=>if sz=esz∧0≤k∧k<l then some (.ptr m (p++[lo+k.toNat])) else none
 |none=>none
open Classical in
noncomputable def iB(A:ae)(esz:Nat)(k:Int):I→Option I
 | .slice sz es=>if sz=esz∧0≤k∧k<es.length then (es[k.toNat]?).map .ref else none
 | .own m l=>match A.o m with
  |some (.bX _ sz es)=>if l=es.length∧sz=esz∧0≤k∧k<es.length then (es[k.toNat]?).map .ref else none
  |_=>none
 | .view m p sz lo l=>mC m p sz lo l esz k (fE (fr p (A.o m)))
 |_=>none
noncomputable def lN(A:ae)(esz:Nat)(x:I):I→Option I
 | .int _ k=>iB A esz k x
 |_=>none
theorem aja(A:ae)(esz:Nat)(x i:aJ):br A (.is esz x i)=lN A esz (af A x) (af A i):=by
 simp only[br];generalize af A x=y;generalize af A i=z;cases z <;>simp only[lN]
 cases y <;>simp only[iB]
 ·split <;>simp_all
 ·rename_i m p sz lo l;simp only[mn,gS];cases fr p (A.o m) with
  |none=>rfl
  |some c=>cases c <;>simp only[fE,I.dA,mC]
noncomputable def re(n esz:Nat)(s:Option Nat)(k:Int):Option (List I)→Option I
 |some fs=>fG k n (fF n esz fs (gJ s fs[k.toNat]?))
 |none=>none
noncomputable def rf(n esz:Nat)(s:Option Nat)(x:I):I→Option I
 | .int _ k=>re n esz s k x.dA
 |_=>none
theorem ajb(A:ae)(n esz:Nat)(s:Option Nat)(x i:aJ):br A (.ix n esz s x i)=rf n esz s (af A x) (af A i):=by
 simp only[br];generalize af A x=y;generalize af A i=z;cases z <;>simp only[rf]
 rename_i kk k;cases y <;>simp only[I.dA,re]
 case agg fs =>
  simp only[fG,fF];split
  ·split
   ·cases fs[k.toNat]? <;>rfl
   ·rfl
  ·rfl
 all_goals (split <;>rfl)
def jT(A:ae):I→Option I
 | .slice _ es=>some (.int .i64 es.length)
 | .nils _=>some (.int .i64 0)
 | .c0 _=>some (.int .i64 0)
 | .own m l=>match A.o m with | some (.bX _ _ es)=>if l=es.length then some (.int .i64 es.length) else none | _=>none
 | .view _ _ _ _ k=>some (.int .i64 k)
 |_=>none
theorem ajd(A:ae)(x:aJ):br A (.len x)=jT A (af A x):=by
 simp only[br];generalize af A x=y;cases y <;>rfl
open Classical in
noncomputable def o6(n esz:Nat)(fs:List I)(y:I):Option I:=if iz n esz fs=true∧n≤maxLen∧n≠0 then some y else none
noncomputable def rT(n esz m:Nat)(p:List Nat):Option (List I)→Option I
 |some fs=>o6 n esz fs (.view m p esz 0 n)
 |none=>none
noncomputable def Ot(n esz:Nat):Option (List I)→Option I
 |some fs=>o6 n esz fs (.slice esz fs)
 |none=>none
noncomputable def o5(A:ae)(n esz:Nat):I→Option I
 | .ptr m p=>rT n esz m p (fE (fr p (A.o m)))
 | .ref c=>Ot n esz c.dA
 |_=>none
theorem ajf(A:ae)(n esz:Nat)(x:aJ):br A (.va n esz x)=o5 A n esz (af A x):=by
 simp only[br];generalize af A x=y;cases y with
 |ptr m p =>
  simp only[o5,mn,gS];cases fr p (A.o m) with
  |none=>simp[fE,rT]
  |some c=>cases c <;>simp only[fE,I.dA,rT,o6] <;>(split <;>simp_all)
 |ref c=>cases c <;>simp only[o5,I.dA,Ot,o6] <;>(split <;>simp_all)
 |_=>simp only[o5]
theorem ajc(A:ae)(s:Option Nat)(x:aJ):br A (.ld s x)=gJ s (gS A (af A x)):=by
 simp only[br,mn];cases gS A (af A x) <;>simp only[gJ,dU]
noncomputable def rz(A:ae)(d:Option Nat)(a b:aJ)(rest:List az):I→cK
 | .bool t=>ay rest (A.aN d (if t then af A a else af A b))
 |_=>.fail
noncomputable def rS(op:UnOp)(x:I):Option I:=match op,x with
  | .not,.bool b=>some (.bool !b)
  | .neg,.int k n=>some (.int k (k.wrap (0-n)))
  | .xor,.int k n=>some (.int k (px k n))
  |_,_=>none
def vG(i:Nat):I→Option I
 | .tuple fs=>fs[i]?
 |_=>none
def vp(k:IntKind):I→Option I
 | .int _ n=>some (.int k (k.wrap n))
 |_=>none
noncomputable def uU(A:ae)(d:Nat)(z:I)(rest:List az):Option ai→cK
 |none=>ay rest ((A.aL d (.box z)).put d (.ptr d []))
 |some _=>.fail
noncomputable def sq(A:ae)(d:Nat)(z:I)(rest:List az)(v:Bool):cK:=if v=true then ay rest ((A.aL d (.box z)).put d (.ptr d [])) else .fail
noncomputable def sn(A:ae)(d:Nat)(z:I)(rest:List az):Option ai→cK
 |none=>sq A d z rest z.b8
 |some _=>.fail
open Classical in
noncomputable def dC(A:ae)(s:Option Nat)(n:Nat)(p:List Nat)(b v:I)(rest:List az):Option I→cK
 |some old=>if yb s v old then ay rest (A.aL n (.box (b.dI p v))) else .fail
 |none=>.fail
noncomputable def uw(A:ae)(s:Option Nat)(n:Nat)(p:List Nat)(v:I)(rest:List az):Option ai→cK
 |some (.box b)=>dC A s n p b v rest (b.at p)
 |_=>.fail
noncomputable def uv(A:ae)(s:Option Nat)(v:I)(rest:List az):I→cK
 | .ptr n p=>uw A s n p v rest (A.o n)
 |_=>.fail
noncomputable def sw(A:ae)(d:Option Nat)(args:List I)(rest:List az):I→cK
 | .func f caps=>.call f (args++caps) (bZ true A (args++caps)) (bZ false A (args++caps)) d rest A
 | .raw v=>.pt v args d rest A
 |_=>.fail
section
variable (d:Option Nat) (rest:List az) (A:ae)
theorem P3(op:b9):ay (⟨d,op,none⟩::rest) A=bO A d op rest:=rfl
theorem P4(op:b9)(t:Nat)(b:Bool):ay (⟨d,op,some (t,b)⟩::rest) A=gV (A.t t) b d op rest A:=rfl
theorem afL(op:b9):gV (.bool true) true d op rest A=bO A d op rest:=by simp[gV]
theorem afI(op:b9):gV (.bool false) false d op rest A=bO A d op rest:=by simp[gV]
theorem afK(op:b9):gV (.bool true) false d op rest A=ay rest (A.aN d .undef):=by simp[gV]
theorem afJ(op:b9):gV (.bool false) true d op rest A=ay rest (A.aN d .undef):=by simp[gV]
theorem afM(op:b9)(b:Bool):gV .undef b d op rest A=ay rest (A.aN d .undef):=rfl
theorem ah8(x:aJ):bO A d (.mv x) rest=ay rest (A.aN d (af A x)):=rfl
theorem aic(c a b:aJ):bO A d (.pick c a b) rest=rz A d a b rest (af A c):=by
 simp only[bO,bd,br];cases af A c <;>simp only[cR,rz]
theorem ahK(op:BinOp)(x y:aJ):bO A d (.bin op x y) rest=cR (cH op (af A x) (af A y)) (di d rest A):=rfl
theorem ahT(ty:cP)(neg:Bool)(x y:aJ):bO A d (.eqv ty neg x y) rest=cR ((cq ty (af A x) (af A y)).map fun b=>.bool (if neg then !b else b)) (di d rest A):=rfl
theorem aii(op:UnOp)(x:aJ):bO A d (.un op x) rest=cR (rS op (af A x)) (di d rest A):=rfl
theorem ahR(k:IntKind)(x:aJ):bO A d (.conv k x) rest=cR (vp k (af A x)) (di d rest A):=by
 simp only[bO,bd,br];cases af A x <;>rfl
theorem ah0(s:Option Nat)(x:aJ):bO A d (.ld s x) rest=cR (gJ s (gS A (af A x))) (di d rest A):=by rw[←ajc];rfl
theorem ahV(f off:Nat)(x:aJ):bO A d (.fa f off x) rest=cR (lJ A f off (af A x)) (di d rest A):=by rw[←ai7];rfl
theorem ahW(f off:Nat)(s:Option Nat)(x:aJ):bO A d (.fl f off s x) rest=cR (sN f off s (af A x).dA) (di d rest A):=by rw[←ai8];rfl
theorem ahX(n esz:Nat)(x i:aJ):bO A d (.ia n esz x i) rest=cR (qU A n esz (af A x) (af A i)) (di d rest A):=by rw[←ai9];rfl
theorem ahY(esz:Nat)(x i:aJ):bO A d (.is esz x i) rest=cR (lN A esz (af A x) (af A i)) (di d rest A):=by rw[←aja];rfl
theorem ahZ(n esz:Nat)(s:Option Nat)(x i:aJ):bO A d (.ix n esz s x i) rest=cR (rf n esz s (af A x) (af A i)) (di d rest A):=by rw[←ajb];rfl
theorem ah1(x:aJ):bO A d (.len x) rest=cR (jT A (af A x)) (di d rest A):=by rw[←ajd];rfl
theorem aij(n esz:Nat)(x:aJ):bO A d (.va n esz x) rest=cR (o5 A n esz (af A x)) (di d rest A):=by rw[←ajf];rfl
theorem ahL(zs:List I)(ps:List (Nat×aJ)):bO A d (.bld zs ps) rest=cR ((dX zs (ps.map fun p=>(p.1,af A p.2))).map .agg) (di d rest A):=rfl
theorem ahU(x:aJ)(i:Nat):bO A d (.ext x i) rest=cR (vG i (af A x)) (di d rest A):=by
 simp only[bO,bd,br];cases af A x <;>rfl
theorem ah4(f:FuncId)(caps:List aJ):bO A d (.mk f caps) rest=cR (if ((caps.map (af A)).all fun y=>y.b8)=true then some (.func f (caps.map (af A))) else none) (di d rest A):=rfl
theorem ahI(d:Nat)(z:I):bO A (some d) (.alloc z) rest=uU A d z rest (A.o d):=by
 simp only[bO,bd];cases A.o d <;>rfl
theorem ahM(d:Nat)(x:aJ):bO A (some d) (.box x) rest=sn A d (af A x) rest (A.o d):=by
 simp only[bO,bd];cases A.o d <;>simp only[sn,sq]
theorem aih(s:Option Nat)(x v:aJ):bO A none (.bl s x v) rest=uv A s (af A v) rest (af A x):=by
 simp only[bO,bd];cases af A x <;>simp only[uv]
 rename_i n p;cases A.o n with
 |none=>rfl
 |some y =>
  cases y <;>simp only[uw]
  rename_i b;cases b.at p <;>simp only[dC]
theorem ahO(f:FuncId)(args:List aJ):bO A d (.call f args) rest=.call f (args.map (af A)) (bZ true A (args.map (af A))) (bZ false A (args.map (af A))) d rest A:=rfl
theorem ahP(x:aJ)(args:List aJ):bO A d (.eF x args) rest=sw A d (args.map (af A)) rest (af A x):=by
 simp only[bO,bd];cases af A x <;>rfl
end
end Go.Abs
namespace Go.Abs
open Go Go.RowKit
mutual
/-- Closed,and as a result is told: no nil slice but as the empty one. -/
def I.done:I→Bool
 | .agg fs=>I.eV fs
 | .slice _ es=>I.bW es
 | .ref x=>x.bn
 | .func _ caps=>I.eV caps
 | .iface _ v=>v.bn
 | .cI ks vs=>I.bW ks&&I.bW vs
 | .bool _ | .int _ _ | .cY _ | .nilp | .df | .dY | .raw _=>true
 |_=>false
def I.eV:List I→Bool
 | []=>true
 |x::xs=>x.done&&I.eV xs
end
mutual
theorem vw:∀ x:I,x.done=true→x.bn=true
 | .agg fs,h=>by simp only[I.done,I.bn] at *;exact kM fs h
 | .slice _ es,h=>by simpa only[I.done,I.bn] using h
 | .ref x,h=>by simpa only[I.done,I.bn] using h
 | .func _ caps,h=>by simp only[I.done,I.bn] at *;exact kM caps h
 | .iface _ v,h=>by simpa only[I.done,I.bn] using h
 | .bool _,_ | .int _ _,_ | .cY _,_ | .nilp,_ | .df,_ | .dY,_ | .raw _,_=>by simp[I.bn]
 | .cI _ _,h=>by simpa only[I.done,I.bn] using h
 | .nils _,h | .c0 _,h | .ptr _ _,h | .own _ _,h | .view _ _ _ _ _,h | .mref _,h | .dv _,h | .undef,h | .dp,h | .tuple _,h=>by simp[I.done] at h
theorem kM:∀ xs:List I,I.eV xs=true→I.bW xs=true
 | [],_=>rfl
 |x::xs,h=>by
  simp only[I.eV,I.bW,zz2] at *;exact ⟨vw x h.1,kM xs h.2⟩
end
mutual
theorem Dd(aA:Bool)(A:ae):∀ x:I,x.done=true→a7 aA A x=some x
 | .agg fs,h=>by simp only[I.done,a7] at *;rw[kQ aA A fs h];rfl
 | .slice _ es,h=>by simp only[I.done] at h;simp[a7,h]
 | .ref x,h=>by simp only[I.done] at h;simp[a7,h]
 | .func _ caps,h=>by simp only[I.done,a7] at *;rw[kQ aA A caps h];rfl
 | .iface _ v,h=>by simp only[I.done] at h;simp[a7,h]
 | .bool _,_ | .int _ _,_ | .cY _,_ | .nilp,_ | .df,_ | .dY,_ | .raw _,_=>by simp[a7]
 | .cI _ _,h=>by simp only[I.done] at h;simp[a7,h]
 | .nils _,h | .c0 _,h | .ptr _ _,h | .own _ _,h | .view _ _ _ _ _,h | .mref _,h | .dv _,h | .undef,h | .dp,h | .tuple _,h=>by simp[I.done] at h
theorem kQ(aA:Bool)(A:ae):∀ xs:List I,I.eV xs=true→bZ aA A xs=some xs
 | [],_=>by simp[bZ]
 |x::xs,h=>by
  simp only[I.eV,zz2] at h;simp only[bZ,Dd aA A x h.1,kQ aA A xs h.2]
end
theorem XZ{x:I}(h:x.done=true):x.b8=true:=by cases x <;>simp_all[I.done,I.b8]
class Enc (α:Type) where
 enc:α→I
 sz:Nat
 aO:cQ
 gf:Bool
 done:∀ x,(enc x).done=true
 size:∀ x,(enc x).size=sz
 kz:∀ x,(enc x).aO=aO
 agg:∀ x,(enc x).isAgg=gf
open Enc (enc)
instance:Enc Int where
 enc n:=.int .i64 n
 sz:=1
 aO:=.one
 gf:=false
 done _:=rfl
 size _:=by simp[I.size]
 kz _:=by simp[I.aO]
 agg _:=rfl
instance:Enc Bool where
 enc b:=.bool b
 sz:=1
 aO:=.one
 gf:=false
 done _:=rfl
 size _:=by simp[I.size]
 kz _:=by simp[I.aO]
 agg _:=rfl
theorem jP{α:Type}[Enc α](l:List α):I.bW (l.map enc)=true:=by
 induction l with
 |nil=>rfl
 |cons x l ih=>simp only[zz9,I.bW,vw _ (Enc.done x),ih,zw3]
theorem X0{α:Type}[Enc α](l:List α):I.eV (l.map enc)=true:=by
 induction l with
 |nil=>rfl
 |cons x l ih=>simp only[zz9,I.eV,Enc.done x,ih,zw3]
theorem ajU{α:Type}[Enc α](l:List α):I.sizes (l.map enc)=l.length*Enc.sz α:=by
 rw[I.iK (sz:=Enc.sz α) _ (by simp only[zx4];rintro x ⟨y,_,rfl⟩;exact Enc.size y)];simp
theorem rN{α:Type}[Enc α](l:List α):I.cX (l.map enc)=List.replicate l.length (Enc.aO α):=by
 induction l with
 |nil=>rfl
 |cons x l ih=>simp only[zz9,I.cX,Enc.kz x,ih,List.length_cons,List.replicate_succ]
instance {α:Type} [Enc α]:Enc (List α) where
 enc l:=.slice (Enc.sz α) (l.map enc)
 sz:=1
 aO:=.one
 gf:=false
 done l:=by simp only[I.done];exact jP l
 size _:=by simp[I.size]
 kz _:=by simp[I.aO]
 agg _:=rfl
structure aR (n:Nat) (α:Type) where
 l:List α
 h:l.length=n
instance {n:Nat} {α:Type} [Enc α]:Enc (aR n α) where
 enc x:=.agg (x.l.map enc)
 sz:=n*Enc.sz α
 aO:=.ew (List.replicate n (Enc.aO α))
 gf:=true
 done x:=by simp only[I.done];exact X0 x.l
 size x:=by simp only[I.size,ajU,x.h]
 kz x:=by simp only[I.aO,rN,x.h]
 agg _:=rfl
section
variable {α:Type} [Enc α]
theorem cZ(aA:Bool)(A:ae)(x:α):a7 aA A (enc x)=some (enc x):=Dd aA A _ (Enc.done x)
theorem eb(x:α):(enc x).bn=true:=vw _ (Enc.done x)
theorem bt(p:Nat→Bool)(x:α):(enc x).only p=true:=mJ p _ (eb x)
theorem dO(x:α):(enc x).b8=true:=XZ (Enc.done x)
theorem mq(x:α):bY none (enc x) = !(Enc.gf α):=by simp[bY,Enc.agg]
theorem fQ(n:Nat)(x:α):bY (some n) (enc x)=(Enc.gf α&&Enc.sz α==n):=by simp[bY,Enc.agg,Enc.size]
theorem gp(x:α):(enc x).size=Enc.sz α:=Enc.size x
theorem eO(x:α):(enc x).aO=Enc.aO α:=Enc.kz x
theorem gT(n:Int):(enc n:I)=.int .i64 n:=rfl
theorem CR(n:Bool):(enc n:I)=.bool n:=rfl
theorem gn(l:List α):(enc l:I)=.slice (Enc.sz α) (l.map enc):=rfl
theorem kO:Enc.sz Int=1:=rfl
theorem kN(n:Nat):Enc.sz (aR n α)=n*Enc.sz α:=rfl
theorem vC:Enc.sz (List α)=1:=rfl
theorem vB(n:Nat):Enc.gf (aR n α)=true:=rfl
theorem nh:Enc.gf (List α)=false:=rfl
theorem sG:Enc.aO Int=.one:=rfl
theorem CU:Enc.aO (List α)=.one:=rfl
theorem sF(n:Nat):Enc.aO (aR n α)=.ew (List.replicate n (Enc.aO α)):=rfl
theorem vF(n esz:Nat)(l:List α)(h:l.length=n)(h2:Enc.sz α=esz):iz n esz (l.map enc)=true:=by
 simp only[iz,zy2,h,BEq.rfl,Bool.true_and,zy8,zx4];rintro x ⟨y,_,rfl⟩;simp[Enc.size,h2]
theorem Qb(l:List α):∀ x∈l.map (enc (α:=α)),x.size=Enc.sz α:=by
 simp only[zx4];rintro x ⟨y,_,rfl⟩;exact Enc.size y
end
theorem cE(n:Int)(h1:-9223372036854775808≤n)(h2:n≤9223372036854775807):IntKind.i64.wrap n=n:=IntWalk.i64_in n ⟨h1,h2⟩
theorem aD.mk{P:Program}{f:FuncId}{fn:Func}{x:aP}{rs:List a6}{args:List I}{r:I}(hf:P.funcs[f]?=some fn)(hcall:gR P f=true)(hc:(fn.body.bind (fk P fn.ntmps))=some x)
  (hrs:iT P fn.results.toList=some rs) (hn:args.length≤fn.ntmps) (h:∀ (w:World) (D:aM) (E:aW),J ⟨P,w,D,fn.ntmps,dz E,E,iE,none⟩ x (jH rs r) (au (bp 0 args) [])):aD P f args r:=by
 obtain ⟨body,hb,hc'⟩:=Option.bind_eq_some_iff.1 hc;exact aD.tE hf hb hcall hc' hrs hn (fun w D E=>(h w D E).sub (akh args))
end Go.Abs
namespace Go.Abs
open Go Go.RowKit
open Enc (enc)
def aq(x:I)(p q:Prop):Prop:=match x with
 | .bool t=>(t=true→p)∧(t=false→q)
 |_=>False
theorem J.bH{c:cS}{A:ae}{Q:Exit→ae→Prop}{b:aJ}{x y:aP}(h:aq (af A b) (J c x Q A) (J c y Q A)):J c (.cond b x y) Q A:=by
 generalize hb:af A b=v at h;unfold aq at h;split at h
 ·exact J.cond hb h.1 h.2
 ·exact h.elim
def nL(r:I):Option (List I)→Prop
 |some xs=>je xs=r
 |none=>False
theorem ajB(rs:List a6)(r:I)(A:ae):jH rs r .ret A=nL r (fc A rs):=by
 simp only[jH,nL];cases fc A rs <;>simp
theorem ajA(rs:List a6)(r:I)(A:ae):jH rs r .normal A=nL r (fc A rs):=by
 simp only[jH,nL];cases fc A rs <;>simp
def rH(s:Option Nat)(A:ae):Option I→Option I
 |some x=>if bY s x=true then a7 true A x else none
 |none=>none
def lA:Option I→Option (List I)→Option (List I)
 |some x,some xs=>some (x::xs)
 |_,_=>none
theorem aju(A:ae):fc A []=some []:=rfl
theorem ajv(A:ae)(t:Nat)(rs:List a6):fc A (.tmp t::rs)=lA (a7 true A (A.t t)) (fc A rs):=by
 simp only[fc,ue];cases a7 true A (A.t t) <;>cases fc A rs <;>rfl
theorem ajt(A:ae)(a:Nat)(s:Option Nat)(rs:List a6):fc A (.cell a s::rs)=lA (rH s A (gS A (A.t a))) (fc A rs):=by
 simp only[fc,ue,mn];cases gS A (A.t a) with
 |none=>cases fc A rs <;>rfl
 |some x =>
  by_cases h:bY s x=true
  ·simp only[rH,if_pos h];cases a7 true A x <;>cases fc A rs <;>rfl
  ·simp only[rH,if_neg h];cases fc A rs <;>rfl
def sJ(aA:Bool)(A:ae):Option I→Option I
 |some x=>if x.bn=true then some (.ref x) else (dK A 9 x).map .ref
 |none=>none
theorem YH(A:ae)(n:Nat)(p:List Nat):a7 true A (.ptr n p)=sJ true A (fr p (A.o n)):=by
 simp only[a7,mn,gS,if_true,sJ];cases fr p (A.o n) <;>rfl
open Classical in
noncomputable def mz(sz lo k:Nat):Option (List I)→Option I
 |some fs=>if I.bW ((fs.drop lo).take k)=true then some (.slice sz ((fs.drop lo).take k)) else none
 |none=>none
theorem YM(A:ae)(n:Nat)(p:List Nat)(sz lo k:Nat):a7 true A (.view n p sz lo k)=mz sz lo k (fE (fr p (A.o n))):=by
 simp only[a7,mn,gS,if_true];cases fr p (A.o n) with
 |none=>rfl
 |some c=>cases c <;>simp only[fE,I.dA,mz] <;>(split <;>simp_all)
open Classical in
noncomputable def oa(k:Nat):Option ai→Option I
 |some (.bX _ sz es)=>if k=es.length∧I.bW es=true then some (.slice sz es) else none
 |_=>none
theorem YG(aA:Bool)(A:ae)(n k:Nat):a7 aA A (.own n k)=oa k (A.o n):=by
 simp only[a7];cases A.o n with
 |none=>rfl
 |some y=>cases y <;>simp only[oa] <;>(split <;>simp_all)
theorem YA(aA:Bool)(A:ae)(fs:List I):a7 aA A (.agg fs)=(bZ aA A fs).map .agg:=by simp only[a7]
theorem YC(aA:Bool)(A:ae)(f:FuncId)(fs:List I):a7 aA A (.func f fs)=(bZ aA A fs).map (.func f):=by simp only[a7]
theorem YD(aA:Bool)(A:ae)(k:IntKind)(n:Int):a7 aA A (.int k n)=some (.int k n):=by simp only[a7]
theorem YB(aA:Bool)(A:ae)(n:Bool):a7 aA A (.bool n)=some (.bool n):=by simp only[a7]
theorem YL(aA:Bool)(A:ae)(n:ByteArray):a7 aA A (.cY n)=some (.cY n):=by simp only[a7]
theorem YF(aA:Bool)(A:ae)(n:Nat):a7 aA A (.nils n)=some (.slice n []):=by simp only[a7]
theorem YK(aA:Bool)(A:ae)(n:Nat)(es:List I):a7 aA A (.slice n es)=if I.bW es=true then some (.slice n es) else none:=by simp only[a7]
theorem YI(aA:Bool)(A:ae)(x:I):a7 aA A (.ref x)=if x.bn=true then some (.ref x) else none:=by simp only[a7]
theorem YP(aA:Bool)(A:ae):bZ aA A []=some []:=by simp only[bZ]
theorem YO(aA:Bool)(A:ae)(x:I)(xs:List I):bZ aA A (x::xs)=lA (a7 aA A x) (bZ aA A xs):=by
 simp only[bZ];cases a7 aA A x <;>cases bZ aA A xs <;>rfl
theorem UM(fs:List I):(I.agg fs).bn=I.bW fs:=by simp only[I.bn]
theorem US(n:Nat)(fs:List I):(I.slice n fs).bn=I.bW fs:=by simp only[I.bn]
theorem UR(x:I):(I.ref x).bn=x.bn:=by simp only[I.bn]
theorem UQ(k:IntKind)(n:Int):(I.int k n).bn=true:=by simp only[I.bn]
theorem UN(n:Bool):(I.bool n).bn=true:=by simp only[I.bn]
theorem UT(n:ByteArray):(I.cY n).bn=true:=by simp only[I.bn]
theorem UO(f:FuncId)(fs:List I):(I.func f fs).bn=I.bW fs:=by simp only[I.bn]
theorem UX:I.bW []=true:=by simp only[I.bW]
theorem UU(x:I)(xs:List I):I.bW (x::xs)=(x.bn&&I.bW xs):=by simp only[I.bW]
theorem Qz(k:IntKind)(a b:Int):cH .add (.int k a) (.int k b)=some (.int k (k.wrap (a+b))):=by simp[cH]
theorem QP(k:IntKind)(a b:Int):cH .sub (.int k a) (.int k b)=some (.int k (k.wrap (a-b))):=by simp[cH]
theorem QH(k:IntKind)(a b:Int):cH .mul (.int k a) (.int k b)=some (.int k (k.wrap (a*b))):=by simp[cH]
theorem QL(k:IntKind)(a b:Int):cH .quo (.int k a) (.int k b)=if b=0 then none else some (.int k (k.wrap (a.tdiv b))):=by simp[cH]
theorem QM(k:IntKind)(a b:Int):cH .rem (.int k a) (.int k b)=if b=0 then none else some (.int k (a.tmod b)):=by simp[cH]
theorem QA(k:IntKind)(a b:Int):cH .and (.int k a) (.int k b)=some (.int k (k.wrap ((BitVec.ofInt k.bits a &&& BitVec.ofInt k.bits b).toNat:Int))):=by simp[cH]
theorem QK(k:IntKind)(a b:Int):cH .or (.int k a) (.int k b)=some (.int k (k.wrap ((BitVec.ofInt k.bits a ||| BitVec.ofInt k.bits b).toNat:Int))):=by simp[cH]
theorem QR(k:IntKind)(a b:Int):cH .xor (.int k a) (.int k b)=some (.int k (k.wrap ((BitVec.ofInt k.bits a ^^^ BitVec.ofInt k.bits b).toNat:Int))):=by simp[cH]
theorem QB(k:IntKind)(a b:Int):cH .andNot (.int k a) (.int k b)=some (.int k (k.wrap ((BitVec.ofInt k.bits a &&& ~~~ BitVec.ofInt k.bits b).toNat:Int))):=by simp[cH]
theorem QN(k k':IntKind)(a b:Int):cH .shl (.int k a) (.int k' b)=if 0≤b then some (.int k (k.wrap (a*2^(min b.toNat k.bits)))) else none:=by simp[cH]
theorem QO(k k':IntKind)(a b:Int):cH .shr (.int k a) (.int k' b)=if 0≤b then some (.int k (a.fdiv (2^(min b.toNat k.bits)))) else none:=by simp[cH]
theorem QC(k:IntKind)(a b:Int):cH .eql (.int k a) (.int k b)=some (.bool (a==b)):=by simp[cH]
theorem QI(k:IntKind)(a b:Int):cH .neq (.int k a) (.int k b)=some (.bool (a != b)):=by simp[cH]
theorem QG(k:IntKind)(a b:Int):cH .lss (.int k a) (.int k b)=some (.bool (decide (a<b))):=by simp[cH]
theorem QF(k:IntKind)(a b:Int):cH .leq (.int k a) (.int k b)=some (.bool (decide (a≤b))):=by simp[cH]
theorem QE(k:IntKind)(a b:Int):cH .gtr (.int k a) (.int k b)=some (.bool (decide (b<a))):=by simp[cH]
theorem QD(k:IntKind)(a b:Int):cH .geq (.int k a) (.int k b)=some (.bool (decide (b≤a))):=by simp[cH]
theorem pd :
  (∀ ts os d v,(au ts os).put d v=au ((d,v)::ts) os)∧(∀ ts os d v,(au ts os).aN (some d) v=au ((d,v)::ts) os)∧(∀ (A:ae) v,A.aN none v=A) ∧
  (∀ ts os d x,(au ts os).aL d x=au ts ((d,x)::os))∧(∀ ts os k,(au ts os).t k=cn ts k)∧(∀ ts os k,(au ts os).o k=ak os k) ∧
  (∀ j v r k,cn ((j,v)::r) k=if k=j then v else cn r k)∧(∀ j v r k,ak ((j,v)::r) k=if k=j then some v else ak r k)∧(∀ k,ak [] k=none) ∧
  (∀ A k,af A (.t k)=A.t k)∧(∀ A x,af A (.c x)=x)∧(∀ d rest A v,di d rest A v=ay rest (A.aN d v))∧(∀ v k,cR (some v) k=k v)∧(∀ A,ay [] A=.done A) :=
 ⟨tp,ahm,ahl,oD,ahn,ahk,aY,cu,oy,Yk,Yj,agG,QS,Qe⟩
theorem K4 :
  (∀ d rest A op,ay (⟨d,op,none⟩::rest) A=bO A d op rest)∧(∀ d rest A op t b,ay (⟨d,op,some (t,b)⟩::rest) A=gV (A.t t) b d op rest A) ∧
  (∀ d rest A op,gV (.bool true) true d op rest A=bO A d op rest)∧(∀ d rest A op,gV (.bool false) false d op rest A=bO A d op rest) ∧
  (∀ d rest A op,gV (.bool true) false d op rest A=ay rest (A.aN d .undef))∧(∀ d rest A op,gV (.bool false) true d op rest A=ay rest (A.aN d .undef))∧(∀ d rest A op b,gV .undef b d op rest A=ay rest (A.aN d .undef)) ∧
  (∀ d rest A x,bO A d (.mv x) rest=ay rest (A.aN d (af A x)))∧(∀ d rest A c a b,bO A d (.pick c a b) rest=rz A d a b rest (af A c)) ∧
  (∀ A d a b rest,rz A d a b rest (.bool true)=ay rest (A.aN d (af A a)))∧(∀ A d a b rest,rz A d a b rest (.bool false)=ay rest (A.aN d (af A b))) ∧
  (∀ d rest A op x y,bO A d (.bin op x y) rest=cR (cH op (af A x) (af A y)) (di d rest A)) ∧
  (∀ d rest A ty neg x y,bO A d (.eqv ty neg x y) rest=cR ((cq ty (af A x) (af A y)).map fun b=>.bool (if neg then !b else b)) (di d rest A)) ∧
  (∀ d rest A op x,bO A d (.un op x) rest=cR (rS op (af A x)) (di d rest A))∧(∀ b,rS .not (.bool b)=some (.bool !b))∧(∀ k n,rS .neg (.int k n)=some (.int k (k.wrap (0-n))))∧(∀ k n,rS .xor (.int k n)=some (.int k (px k n))) ∧
  (∀ d rest A k x,bO A d (.conv k x) rest=cR (vp k (af A x)) (di d rest A))∧(∀ k k' n,vp k (.int k' n)=some (.int k (k.wrap n))) ∧
  (∀ d rest A s x,bO A d (.ld s x) rest=cR (gJ s (gS A (af A x))) (di d rest A))∧(∀ d rest A f off x,bO A d (.fa f off x) rest=cR (lJ A f off (af A x)) (di d rest A)) ∧
  (∀ d rest A f off s x,bO A d (.fl f off s x) rest=cR (sN f off s (af A x).dA) (di d rest A))∧(∀ d rest A n esz x i,bO A d (.ia n esz x i) rest=cR (qU A n esz (af A x) (af A i)) (di d rest A)) ∧
  (∀ d rest A esz x i,bO A d (.is esz x i) rest=cR (lN A esz (af A x) (af A i)) (di d rest A))∧(∀ d rest A n esz s x i,bO A d (.ix n esz s x i) rest=cR (rf n esz s (af A x) (af A i)) (di d rest A)) ∧
  (∀ d rest A x,bO A d (.len x) rest=cR (jT A (af A x)) (di d rest A))∧(∀ d rest A n esz x,bO A d (.va n esz x) rest=cR (o5 A n esz (af A x)) (di d rest A)) ∧
  (∀ d rest A zs ps,bO A d (.bld zs ps) rest=cR ((dX zs (ps.map fun p=>(p.1,af A p.2))).map .agg) (di d rest A))∧(∀ d rest A x i,bO A d (.ext x i) rest=cR (vG i (af A x)) (di d rest A))∧(∀ i fs,vG i (.tuple fs)=fs[i]?) ∧
  (∀ d rest A f caps,bO A d (.mk f caps) rest=cR (if ((caps.map (af A)).all fun y=>y.b8)=true then some (.func f (caps.map (af A))) else none) (di d rest A)) ∧
  (∀ rest A d z,bO A (some d) (.alloc z) rest=uU A d z rest (A.o d))∧(∀ A d z rest,uU A d z rest none=ay rest ((A.aL d (.box z)).put d (.ptr d []))) ∧
  (∀ rest A d x,bO A (some d) (.box x) rest=sn A d (af A x) rest (A.o d))∧(∀ A d z rest,sn A d z rest none=sq A d z rest z.b8)∧(∀ A d z rest,sq A d z rest true=ay rest ((A.aL d (.box z)).put d (.ptr d []))) ∧
  (∀ rest A s x v,bO A none (.bl s x v) rest=uv A s (af A v) rest (af A x))∧(∀ A s v rest n p,uv A s v rest (.ptr n p)=uw A s n p v rest (A.o n))∧(∀ A s n p v rest b,uw A s n p v rest (some (.box b))=dC A s n p b v rest (b.at p)) ∧
  (∀ d rest A f args,bO A d (.call f args) rest=.call f (args.map (af A)) (bZ true A (args.map (af A))) (bZ false A (args.map (af A))) d rest A) ∧
  (∀ d rest A x args,bO A d (.eF x args) rest=sw A d (args.map (af A)) rest (af A x))∧(∀ A d args rest f caps,sw A d args rest (.func f caps)=.call f (args++caps) (bZ true A (args++caps)) (bZ false A (args++caps)) d rest A) :=
 ⟨P3,P4,afL,afI,afK,afJ,afM,ah8,aic,fun _ _ _ _ _=>rfl,fun _ _ _ _ _=>rfl,ahK,ahT,aii,fun _=>rfl,fun _ _=>rfl,fun _ _=>rfl,ahR,fun _ _ _=>rfl,ah0,ahV,ahW,ahX,ahY,ahZ,ah1,aij,ahL,ahU,fun _ _=>rfl,ah4,
  ahI,fun _ _ _ _=>rfl,ahM,fun _ _ _ _=>rfl,fun _ _ _ _=>rfl,aih,fun _ _ _ _ _ _=>rfl,fun _ _ _ _ _ _ _=>rfl,ahO,ahP,fun _ _ _ _ _ _=>rfl⟩
theorem eg{A:ae}{s:Option Nat}{n:Nat}{p:List Nat}{b v old:I}{rest:List az}(h1:v.b8=true)(h2:bY s v=true)(h3:v.aO=old.aO):dC A s n p b v rest (some old)=ay rest (A.aL n (.box (b.dI p v))):=by
 simp only[dC];rw[if_pos ⟨h1,h2,h3⟩]
theorem Ou :
  (∀ A x,gS A (.ref x)=some x)∧(∀ A n p,gS A (.ptr n p)=fr p (A.o n))∧(∀ p c,fr p (some (.box c))=c.at p)∧(∀ c:I,c.at []=some c)∧(∀ (c:I) i p,c.at (i::p)=ga i p c.dA) ∧
  (∀ i p fs,ga i p (some fs)=pj p fs[i]?)∧(∀ p f,pj p (some f)=f.at p)∧(∀ c v:I,c.dI [] v=v)∧(∀ (c:I) i p v,c.dI (i::p) v=rL c i p v c.dA)∧(∀ c i p v fs,rL c i p v (some fs)=uo fs i p v fs[i]?) ∧
  (∀ fs i p v f,uo fs i p v (some f)=.agg (fs.set i (f.dI p v)))∧(∀ fs,(I.agg fs).dA=some fs)∧(∀ x:I,fE (some x)=x.dA) ∧
  (∀ s x,gJ s (some x)=if bY s x=true then some x else none) ∧
  (∀ A f off c,lJ A f off (.ref c)=qO f off c.dA)∧(∀ A f off n p,lJ A f off (.ptr n p)=qN n p f off (fE (fr p (A.o n))))∧(∀ f off fs,qO f off (some fs)=pD fs f off fs[f]?)∧(∀ fs f off v,pD fs f off (some v)=ef fs f off (.ref v)) ∧
  (∀ n p f off fs,qN n p f off (some fs)=ef fs f off (.ptr n (p++[f])))∧(∀ A n esz x kk k,qU A n esz x (.int kk k)=oq A n esz k x)∧(∀ A n esz k c,oq A n esz k (.ref c)=fG k n (qW n esz k c.dA)) ∧
  (∀ A n esz k m p,oq A n esz k (.ptr m p)=fG k n (qV n esz m p k (fE (fr p (A.o m)))))∧(∀ n esz k fs,qW n esz k (some fs)=fF n esz fs ((fs[k.toNat]?).map .ref))∧(∀ n esz m p k fs,qV n esz m p k (some fs)=fF n esz fs (some (.ptr m (p++[k.toNat])))) ∧
  (∀ A esz x kk k,lN A esz x (.int kk k)=iB A esz k x)∧(∀ n esz s x kk k,rf n esz s x (.int kk k)=re n esz s k x.dA)∧(∀ n esz s k fs,re n esz s k (some fs)=fG k n (fF n esz fs (gJ s fs[k.toNat]?))) ∧
  (∀ A n esz m p,o5 A n esz (.ptr m p)=rT n esz m p (fE (fr p (A.o m))))∧(∀ n esz m p fs,rT n esz m p (some fs)=o6 n esz fs (.view m p esz 0 n)) ∧
  (∀ A sz es,jT A (.slice sz es)=some (.int .i64 es.length))∧(∀ A n,jT A (.nils n)=some (.int .i64 0))∧(∀ A n,jT A (.c0 n)=some (.int .i64 0)) :=
 ⟨fun _ _=>rfl,fun _ _ _=>rfl,fun _ _=>rfl,hT,Qu,fun _ _ _=>rfl,fun _ _=>rfl,fv,NK,fun _ _ _ _ _=>rfl,fun _ _ _ _ _=>rfl,fun _=>rfl,fun _=>rfl,fun _ _=>rfl,fun _ _ _ _=>rfl,fun _ _ _ _ _=>rfl,fun _ _ _=>rfl,fun _ _ _ _=>rfl,
  fun _ _ _ _ _=>rfl,fun _ _ _ _ _ _=>rfl,fun _ _ _ _ _=>rfl,fun _ _ _ _ _ _=>rfl,fun _ _ _ _=>rfl,fun _ _ _ _ _ _=>rfl,fun _ _ _ _ _=>rfl,fun _ _ _ _ _ _=>rfl,fun _ _ _ _ _=>rfl,fun _ _ _ _ _=>rfl,fun _ _ _ _ _=>rfl,fun _ _ _=>rfl,fun _ _=>rfl,fun _ _=>rfl⟩
theorem Da :
  (∀ A n p,a7 true A (.ptr n p)=sJ true A (fr p (A.o n)))∧(∀ A x,sJ true A (some x)=if x.bn=true then some (.ref x) else (dK A 9 x).map .ref)∧(∀ A n p sz lo k,a7 true A (.view n p sz lo k)=mz sz lo k (fE (fr p (A.o n)))) ∧
  (∀ A n p,a7 false A (.ptr n p)=none)∧(∀ A n p sz lo k,a7 false A (.view n p sz lo k)=none)∧(∀ x,lA none x=none)∧(∀ x,lA x none=none) ∧
  (∀ aA A n k,a7 aA A (.own n k)=oa k (A.o n))∧(∀ aA A fs,a7 aA A (.agg fs)=(bZ aA A fs).map .agg)∧(∀ aA A f fs,a7 aA A (.func f fs)=(bZ aA A fs).map (.func f))∧(∀ aA A k n,a7 aA A (.int k n)=some (.int k n))∧(∀ aA A b,a7 aA A (.bool b)=some (.bool b)) ∧
  (∀ aA A s,a7 aA A (.cY s)=some (.cY s))∧(∀ aA A n,a7 aA A (.nils n)=some (.slice n []))∧(∀ aA A n es,a7 aA A (.slice n es)=if I.bW es=true then some (.slice n es) else none)∧(∀ aA A x,a7 aA A (.ref x)=if x.bn=true then some (.ref x) else none) ∧
  (∀ aA A,bZ aA A []=some [])∧(∀ aA A x xs,bZ aA A (x::xs)=lA (a7 aA A x) (bZ aA A xs))∧(∀ x xs,lA (some x) (some xs)=some (x::xs)) ∧
  (∀ fs,(I.agg fs).bn=I.bW fs)∧(∀ n fs,(I.slice n fs).bn=I.bW fs)∧(∀ x,(I.ref x).bn=x.bn)∧(∀ k n,(I.int k n).bn=true)∧(∀ n,(I.bool n).bn=true)∧(∀ n,(I.cY n).bn=true)∧(∀ f fs,(I.func f fs).bn=I.bW fs) ∧
  I.bW []=true∧(∀ x xs,I.bW (x::xs)=(x.bn&&I.bW xs)) ∧
  (∀ rs r A,jH rs r .ret A=nL r (fc A rs))∧(∀ rs r A,jH rs r .normal A=nL r (fc A rs))∧(∀ r xs,nL r (some xs)=(je xs=r))∧(∀ A,fc A []=some [])∧(∀ A t rs,fc A (.tmp t::rs)=lA (a7 true A (A.t t)) (fc A rs)) ∧
  (∀ A a s rs,fc A (.cell a s::rs)=lA (rH s A (gS A (A.t a))) (fc A rs))∧(∀ s A x,rH s A (some x)=if bY s x=true then a7 true A x else none)∧(∀ x,je [x]=x)∧(∀ x y xs,je (x::y::xs)=.tuple (x::y::xs)) :=
 ⟨YH,fun _ _=>rfl,YM,fun _ _ _=>rfl,fun _ _ _ _ _ _=>rfl,fun _=>rfl,fun x=>by cases x <;>rfl,YG,YA,YC,YD,YB,YL,YF,YK,YI,YP,YO,fun _ _=>rfl,UM,US,UR,UQ,UN,UT,UO,UX,UU,
  ajB,ajA,fun _ _=>rfl,aju,ajv,ajt,fun _ _ _=>rfl,fun _=>rfl,fun _ _ _=>rfl⟩
theorem Ag :
  (∀ k a b,cH .add (.int k a) (.int k b)=some (.int k (k.wrap (a+b))))∧(∀ k a b,cH .sub (.int k a) (.int k b)=some (.int k (k.wrap (a-b))))∧(∀ k a b,cH .mul (.int k a) (.int k b)=some (.int k (k.wrap (a*b)))) ∧
  (∀ k a b,cH .quo (.int k a) (.int k b)=if b=0 then none else some (.int k (k.wrap (a.tdiv b))))∧(∀ k a b,cH .rem (.int k a) (.int k b)=if b=0 then none else some (.int k (a.tmod b))) ∧
  (∀ k a b,cH .and (.int k a) (.int k b)=some (.int k (k.wrap ((BitVec.ofInt k.bits a &&& BitVec.ofInt k.bits b).toNat:Int))))∧(∀ k a b,cH .or (.int k a) (.int k b)=some (.int k (k.wrap ((BitVec.ofInt k.bits a ||| BitVec.ofInt k.bits b).toNat:Int)))) ∧
  (∀ k a b,cH .xor (.int k a) (.int k b)=some (.int k (k.wrap ((BitVec.ofInt k.bits a ^^^ BitVec.ofInt k.bits b).toNat:Int))))∧(∀ k a b,cH .andNot (.int k a) (.int k b)=some (.int k (k.wrap ((BitVec.ofInt k.bits a &&& ~~~ BitVec.ofInt k.bits b).toNat:Int)))) ∧
  (∀ k k' a b,cH .shl (.int k a) (.int k' b)=if 0≤b then some (.int k (k.wrap (a*2^(min b.toNat k.bits)))) else none)∧(∀ k k' a b,cH .shr (.int k a) (.int k' b)=if 0≤b then some (.int k (a.fdiv (2^(min b.toNat k.bits)))) else none) ∧
  (∀ k a b,cH .eql (.int k a) (.int k b)=some (.bool (a==b)))∧(∀ k a b,cH .neq (.int k a) (.int k b)=some (.bool (a != b)))∧(∀ k a b,cH .lss (.int k a) (.int k b)=some (.bool (decide (a<b))))∧(∀ k a b,cH .leq (.int k a) (.int k b)=some (.bool (decide (a≤b)))) ∧
  (∀ k a b,cH .gtr (.int k a) (.int k b)=some (.bool (decide (b<a))))∧(∀ k a b,cH .geq (.int k a) (.int k b)=some (.bool (decide (b≤a)))) :=
 ⟨Qz,QP,QH,QL,QM,QA,QK,QR,QB,QN,QO,QC,QI,QG,QF,QE,QD⟩
end Go.Abs
namespace Go.Abs
open Go Go.RowKit
open Enc (enc)
section
variable {α:Type} [Enc α]
theorem agW(A:ae)(l:List α):jT A (enc l)=some (.int .i64 l.length):=by simp[gn,jT]
theorem JG{A:ae}(esz:Nat){k:Int}{l:List α}(h:0≤k∧k.toNat<l.length)(hs:Enc.sz α=esz):iB A esz k (enc l)=some (.ref (enc l[k.toNat])):=by
 simp only[gn,iB,hs,zy2,true_and];rw[if_pos ⟨h.1,by omega⟩];simp[h.2]
theorem fH{A:ae}(esz:Nat){k:Nat}{l:List α}(h:k<l.length)(hs:Enc.sz α=esz):iB A esz k (enc l)=some (.ref (enc l[k])):=by
 have:=JG (A:=A) esz (k:=(k:Int)) (l:=l) ⟨by omega,by simpa using h⟩ hs;simpa using this
theorem aR.lt{α:Type}{n:Nat}(x:aR n α){k:Nat}(h:k<n):k<x.l.length:=by rw[x.h];exact h
theorem jv{n:Nat}(esz:Nat){k:Nat}(x:aR n α){y:Option I}(h:k<n)(hs:Enc.sz α=esz):fG (k:Int) n (fF n esz (x.l.map enc) y)=y:=by
 simp only[fG,fF,vF n esz x.l x.h hs,if_true];rw[if_pos ⟨by omega,by omega⟩]
theorem gb{n:Nat}(esz:Nat){k:Int}(x:aR n α){y:Option I}(h:0≤k∧k<n)(hs:Enc.sz α=esz):fG k n (fF n esz (x.l.map enc) y)=y:=by
 simp only[fG,fF,vF n esz x.l x.h hs,if_true];rw[if_pos h]
theorem afO{n k:Nat}(x:aR n α)(h:k<n):(x.l.map enc)[k]?=some (enc (x.l[k]'(x.lt h))):=by
 simp[x.lt h]
theorem Qt{n k:Nat}{p:List Nat}{x:aR n α}(h:k<n):ga k p (some (x.l.map enc))=(enc (x.l[k]'(x.lt h))).at p:=by
 have hl:=x.lt h;simp[ga,pj,hl]
theorem aiv(k:IntKind)(n:Int):gJ none (some (.int k n))=some (.int k n):=by simp[gJ,dU,bY,I.isAgg]
theorem ait(b:Bool):gJ none (some (.bool b))=some (.bool b):=by simp[gJ,dU,bY,I.isAgg]
theorem aiw(z:Nat)(es:List I):gJ none (some (.slice z es))=some (.slice z es):=by simp[gJ,dU,bY,I.isAgg]
theorem aiu(f:FuncId)(es:List I):gJ none (some (.func f es))=some (.func f es):=by simp[gJ,dU,bY,I.isAgg]
end
mutual
/-- What every value in memory keeps to: whole numbers within their kind,slices no longer than a slice can be. -/
def I.wf:I→Prop
 | .agg fs=>I.hP fs
 | .int k n=>k.min≤n∧n≤k.max
 | .cY s=>s.size≤maxLen
 | .slice _ es=>es.length≤maxLen∧I.hP es
 | .ref c=>c.wf
 | .func _ caps=>I.hP caps
 | .iface _ v=>v.wf
 |_=>True
def I.hP:List I→Prop
 | []=>True
 |x::xs=>x.wf∧I.hP xs
end
mutual
theorem tW{w:World}{D:aM}{E:aW} : ∀ (x:I) (cs:List Value),ah w D E x cs→x.wf
 | .agg fs,cs,h=>by simp only[ah,I.wf] at *;exact yw fs cs h
 | .int k n,cs,h=>by simp only[ah,I.wf] at *;exact h.2
 | .cY s,cs,h=>by simp only[ah,I.wf] at *;exact h.2
 | .slice sz es,cs,h=>by
  simp only[ah,I.wf] at *;obtain ⟨a,cap,_,h1,h2,h3,_⟩:=h;refine ⟨by omega,?_⟩;rcases h3 with rfl | ⟨b,off,cs',_,_,h4⟩
  ·simp[I.hP]
  ·exact yw es cs' h4
 | .ref c,cs,h=>by simp only[ah,I.wf] at *;obtain ⟨b,off,cs',_,_,h⟩:=h;exact tW c cs' h
 | .func f caps,cs,h=>by simp only[ah,I.wf] at *;obtain ⟨vs,_,h⟩:=h;exact uk caps vs h
 | .iface t v,cs,h=>by simp only[ah,I.wf] at *;obtain ⟨u,cs',_,_,h⟩:=h;exact tW v cs' h
 | .bool _,_,_ | .nilp,_,_ | .df,_,_ | .dY,_,_ | .raw _,_,_ | .nils _,_,_ | .c0 _,_,_ | .ptr _ _,_,_ | .own _ _,_,_ | .view _ _ _ _ _,_,_ | .mref _,_,_ | .dv _,_,_ | .cI _ _,_,_ | .undef,_,_ | .dp,_,_ | .tuple _,_,_=>by simp[I.wf]
theorem yw{w:World}{D:aM}{E:aW} : ∀ (xs:List I) (cs:List Value),aI w D E xs cs→I.hP xs
 | [],_,_=>by simp[I.hP]
 |x::xs,cs,h=>by
  simp only[aI,I.hP] at *;obtain ⟨c1,c2,_,h1,h2⟩:=h;exact ⟨tW x c1 h1,yw xs c2 h2⟩
theorem uk{w:World}{D:aM}{E:aW} : ∀ (xs:List I) (vs:List Value),aG w D E xs vs→I.hP xs
 | [],_,_=>by simp[I.hP]
 |x::xs,vs,h=>by
  simp only[aG,I.hP] at *;obtain ⟨v,rest,cs,_,_,h1,h2⟩:=h;exact ⟨tW x cs h1,uk xs rest h2⟩
end
theorem akE{α:Type}[Enc α](l:List α):I.hP (l.map enc)↔∀ x∈l,(enc x:I).wf:=by
 induction l with
 |nil=>simp[I.hP]
 |cons x l ih=>simp[I.hP,ih]
theorem lj{α:Type}[Enc α](l:List α):(enc l:I).wf↔l.length≤maxLen∧∀ x∈l,(enc x:I).wf:=by
 simp only[gn,I.wf,zy2,akE]
theorem akD(n:Int):(enc n:I).wf↔-9223372036854775808≤n∧n≤9223372036854775807:=by
 change IntKind.i64.min≤n∧n≤IntKind.i64.max↔_
 simp[IntKind.min,IntKind.max,IntKind.bits,IntKind.signed]
theorem aD.wf{P:Program}{f:FuncId}{args:List I}{r:I}(hc:gR P f=true)(h:I.hP args→aD P f args r):aD P f args r :=
 ⟨hc,fun w D vs h1 h2=>(h (uk _ _ h2)).2 w D vs h1 h2⟩
theorem aD.bA{P:Program}{f:FuncId}{fn:Func}{x:aP}{rs:List a6}{args:List I}{r:I}(hf:P.funcs[f]?=some fn)(hcall:gR P f=true)(hc:(fn.body.bind (fk P fn.ntmps))=some x)
  (hrs:iT P fn.results.toList=some rs) (hn:args.length≤fn.ntmps) (h:I.hP args→∀ (w:World) (D:aM) (E:aW),J ⟨P,w,D,fn.ntmps,dz E,E,iE,none⟩ x (jH rs r) (au (bp 0 args) [])):aD P f args r :=
 aD.wf hcall fun hw=>aD.mk hf hcall hc hrs hn (h hw)
theorem bG{α:Type}[Enc α] :
  (∀ A (l:List α),jT A (enc l)=some (.int .i64 l.length))∧(∀ n (x:aR n α),(enc x).dA=some (x.l.map enc)) :=
 ⟨agW,fun _ _=>rfl⟩
theorem jY:(∀ k n,gJ none (some (.int k n))=some (.int k n))∧(∀ b,gJ none (some (.bool b))=some (.bool b))∧(∀ z es,gJ none (some (.slice z es))=some (.slice z es))∧(∀ f es,gJ none (some (.func f es))=some (.func f es)) :=
 ⟨aiv,ait,aiw,aiu⟩
end Go.Abs
namespace Go.Abs
open Go Go.RowKit
open Enc (enc)
def pW(neg:Bool):I→Option I
 | .nils _=>some (.bool (!neg))
 | .slice _ es=>if es.isEmpty then none else some (.bool neg)
 | .view _ _ _ _ _=>some (.bool neg)
 |_=>none
def JV:I→Option I
 | .cY s=>some (.int .i64 s.size)
 |_=>none
open Classical in
noncomputable def oV(n:Nat)(p:List Nat)(sz l0 k esz:Nat)(lo hi mx:Option I):Option (List I)→Option I
 |some fs=>if sz=esz then hJ n p sz l0 k fs.length lo hi mx else none
 |none=>none
noncomputable def oU(A:ae)(esz:Nat)(lo hi mx:Option I):I→Option I
 | .slice sz es=>if sz=esz then j5 sz es lo hi mx else none
 | .nils sz=>if sz=esz then j5 sz [] lo hi mx else none
 | .c0 sz=>if sz=esz then j5 sz [] lo hi mx else none
 | .view n p sz l0 k=>oV n p sz l0 k esz lo hi mx (fE (fr p (A.o n)))
 |_=>none
open Classical in
noncomputable def iw(esz:Nat):Option (List I)→Option I
 |some es=>if (es.all fun e=>e.size==esz)=true∧I.bW es=true then some (.slice esz es) else none
 |none=>none
open Classical in
noncomputable def qx(A:ae)(d:Option Nat)(e esz bytes n l T sz':Nat)(es:List I)(rest:List az):I→cK
 | .slice sz ys=>if x4 e esz bytes l sz ys T sz' es then ay rest ((A.aL n (.bX e esz (es++ys))).aN d (.own n (es.length+ys.length))) else .fail
 |_=>.fail
open Classical in
noncomputable def pf(A:ae)(d:Option Nat)(e esz bytes:Nat)(z:I)(n l T:Nat)(xs:List Int)(rest:List az):I→cK
 | .slice _ ys=>if x5 e esz bytes l ys T xs z then ay rest ((A.aL n (.cV e (xs++qX ys))).aN d (.own n (xs.length+ys.length))) else .fail
 |_=>.fail
noncomputable def qw(A:ae)(d:Option Nat)(e esz bytes:Nat)(z:I)(n l:Nat)(x:I)(rest:List az):Option ai→cK
 |some (.bX T sz' es)=>qx A d e esz bytes n l T sz' es rest x
 |some (.cV T xs)=>pf A d e esz bytes z n l T xs rest x
 |_=>.fail
noncomputable def kc(A:ae)(d:Option Nat)(e esz bytes:Nat)(z x:I)(rest:List az):I→cK
 | .own n l=>qw A d e esz bytes z n l x rest (A.o n)
 |s=>fD A d esz bytes z s (eI A esz s) (eI A esz x) (ay rest)
section
variable (d:Option Nat) (rest:List az) (A:ae)
noncomputable def pX(neg:Bool)(x:I):Bool→cK
 |true=>.any (fun m=>m<2) (fun m=>ay rest (A.aN d (.bool (m==0))))
 |false=>cR (pW neg x) (di d rest A)
theorem aia(neg:Bool)(x:aJ):bO A d (.nilS neg x) rest=pX d rest A neg (af A x) (j9 (af A x)):=by
 simp only[bO,bd,br];cases j9 (af A x)
 ·simp only[zz6,if_false,pX,pW];cases af A x <;>rfl
 ·rfl
theorem ah2(x:aJ):bO A d (.lenT x) rest=cR (JV (af A x)) (di d rest A):=by
 simp only[bO,bd,br];cases af A x <;>rfl
theorem aif(esz:Nat)(x:aJ)(lo hi mx:Option aJ):bO A d (.sl esz x lo hi mx) rest=cR (oU A esz (lo.map (af A)) (hi.map (af A)) (mx.map (af A)) (af A x)) (di d rest A):=by
 simp only[bO,bd,br];cases af A x <;>try rfl
 rename_i n p sz l0 k;simp only[oU,mn,gS];cases fr p (A.o n) with
 |none=>rfl
 |some c=>cases c <;>simp only[fE,I.dA,oV] <;>(first | rfl | (split <;>rfl))
theorem ahN(T esz:Nat)(ps:List aJ):bO A d (.bs T esz ps) rest=cR (iw esz (bZ false A (ps.map (af A)))) (di d rest A):=by
 simp only[bO,bd,br];cases bZ false A (ps.map (af A)) <;>simp only[iw] <;>rfl
theorem ahJ(e esz bytes:Nat)(z:I)(s x:aJ):bO A d (.dN e esz bytes z s x) rest=kc A d e esz bytes z (af A x) rest (af A s):=by
 simp only[bO,bd];generalize af A s=s';generalize af A x=x';cases s' <;>simp only[kc]
 rename_i n l;cases x' <;>simp only <;>generalize A.o n=z <;>(cases z with
  |none=>rfl
  |some y=>cases y <;>simp only[qw,qx,pf])
end
theorem K5 :
  (∀ d rest A neg x,bO A d (.nilS neg x) rest=pX d rest A neg (af A x) (j9 (af A x)))∧(∀ d rest A neg x,pX d rest A neg x false=cR (pW neg x) (di d rest A))∧(∀ z,j9 (.nils z)=false)∧(∀ n p sz lo k,j9 (.view n p sz lo k)=false)∧(∀ d rest A x,bO A d (.lenT x) rest=cR (JV (af A x)) (di d rest A)) ∧
  (∀ d rest A esz x lo hi mx,bO A d (.sl esz x lo hi mx) rest=cR (oU A esz (lo.map (af A)) (hi.map (af A)) (mx.map (af A)) (af A x)) (di d rest A)) ∧
  (∀ d rest A T esz ps,bO A d (.bs T esz ps) rest=cR (iw esz (bZ false A (ps.map (af A)))) (di d rest A))∧(∀ d rest A e esz bytes z s x,bO A d (.dN e esz bytes z s x) rest=kc A d e esz bytes z (af A x) rest (af A s)) ∧
  (∀ A d e esz bytes z x rest n l,kc A d e esz bytes z x rest (.own n l)=qw A d e esz bytes z n l x rest (A.o n))∧(∀ A d e esz bytes z n l x rest T sz es,qw A d e esz bytes z n l x rest (some (.bX T sz es))=qx A d e esz bytes n l T sz es rest x)∧(∀ A d e esz bytes z n l x rest T xs,qw A d e esz bytes z n l x rest (some (.cV T xs))=pf A d e esz bytes z n l T xs rest x) ∧
  (∀ neg z,pW neg (.nils z)=some (.bool (!neg))) :=
 ⟨aia,fun _ _ _ _ _=>rfl,fun _=>rfl,fun _ _ _ _ _=>rfl,ah2,aif,ahN,ahJ,fun _ _ _ _ _ _ _ _ _ _=>rfl,fun _ _ _ _ _ _ _ _ _ _ _ _ _=>rfl,fun _ _ _ _ _ _ _ _ _ _ _ _=>rfl,fun _ _=>rfl⟩
theorem gz(p:Nat→Bool)(xs ys:List I):I.bU p (xs++ys)=(I.bU p xs&&I.bU p ys):=by
 induction xs with
 |nil=>simp[I.bU]
 |cons x xs ih=>simp[I.bU,ih,Bool.and_assoc]
section
variable {α:Type} [Enc α]
theorem m7{A:ae}{d:Option Nat}(e:Nat)(esz bytes n:Nat){l:Nat}{es ys:List α}{rest:List az}(hl:l=es.length)(hs:Enc.sz α=esz)(hy:ys≠[])(h1:es.length+ys.length≤maxLen)(h2:(es.length+ys.length)*bytes≤140737488355328) :
  qx A d e esz bytes n l e esz (es.map enc) rest (enc ys)=ay rest ((A.aL n (.bX e esz ((es++ys).map enc))).aN d (.own n (es++ys).length)):=by
 simp only[gn,qx];rw[if_pos ⟨by simpa using hl,hs,rfl,rfl,by simpa using hy,by simpa using h1,by simpa using h2⟩];simp
theorem m9(esz:Nat){ys:List α}(hs:Enc.sz α=esz):iw esz (some (ys.map enc))=some (enc ys):=by
 have h1:((ys.map enc).all fun e:I=>e.size==esz)=true:=by
  simp only[zy8,zx4];rintro x ⟨y,_,rfl⟩;simp[Enc.size,hs]
 simp only[iw,gn];rw[if_pos ⟨h1,jP ys⟩,hs]
theorem qD(esz:Nat)(y:α)(hs:Enc.sz α=esz):iw esz (some [enc y])=some (enc [y]):=m9 (ys:=[y]) esz hs
theorem my(sz:Nat){T k:Nat}{es:List α}(hk:k=es.length)(hs:Enc.sz α=sz):oa k (some (.bX T sz (es.map enc)))=some (enc es):=by
 simp only[oa,zy2];rw[if_pos ⟨hk,jP es⟩,gn,hs]
theorem ej(p:Nat→Bool)(l:List α):I.bU p (l.map enc)=true:=by
 induction l with
 |nil=>rfl
 |cons x l ih=>simp only[zz9,I.bU,bt,ih,zw3]
theorem agX(A:ae)(n k T sz:Nat)(es:List α)(ho:A.o n=some (.bX T sz (es.map enc)))(hk:k=es.length):jT A (.own n k)=some (.int .i64 es.length):=by
 simp only[jT,ho,zy2,hk,if_true]
end
theorem JD :
  (∀ n:Int,iw 1 (some [.int .i64 n])=some (enc [n]))∧(∀ (T:Nat) (es:List Int),oa es.length (some (.bX T 1 (es.map enc)))=some (enc es)) :=
 ⟨fun n=>qD 1 n rfl,fun _ _=>my 1 rfl rfl⟩
theorem aF.P6{A:ae}{d n T sz z:Nat}(hd:A.t d=.nils z)(hn:A.o n=none)(hlt:n<1000000):aF A ((A.aL n (.bX T sz [])).put d (.own n 0)):=by
 rintro c a w ⟨D,E,h⟩;have aw:E n=none:=by have:=h.bT n;rw[hn] at this;exact this
 have hl:dS w D E w D (fun m=>if m=n then some (.rw none 0) else E m):=by
  have eE:∀ {m:Nat} {e:bR},E m=some e→(if m=n then some (.rw none 0) else E m)=some e:=fun {m e} he=>by
   have:m≠n:=fun e=>by rw[e,aw] at he;cases he
   rw[if_neg this];exact he
  refine ⟨fun _ _ h=>h,fun _ _ _ _ h=>h,fun m b aO he=>eE he,fun m aE l he =>?_,fun m b he=>eE he,fun m b he=>eE he,fun _ _ _ _ h=>h⟩
  ·have:m≠n:=fun e=>by rw[e,aw] at he;cases he
   exact ⟨aE,l,by simp only[if_neg this];exact he,zz7 _,fun _=>rfl⟩
 refine ⟨D,fun m=>if m=n then some (.rw none 0) else E m,h.sz,h.eU,fun t =>?_,h.dZ,h.da,h.dq,fun m =>?_,fun m m' e e' b h1 h2 h3 h4 =>?_,fun m e hm =>?_,h.fb,h.cO,h.fg,h.fJ⟩
 ·simp only[ae.put,ae.aL];by_cases ht:t=d
  ·subst ht;simp only[if_true];have hv:=h.eB t;rw[hd] at hv;obtain ⟨cs,q1,q2⟩:=hv;simp only[ah] at q2;subst q2;refine ⟨[.slice none 0 0],by simpa[bD,I.isAgg] using q1,?_⟩;simp only[ah,if_true];exact ⟨none,0,rfl,zz7 _,⟨_,_,_,rfl⟩,fun _=>trivial⟩
  ·simp only[if_neg ht];exact aV.bI hl (h.eB t)
 ·simp only[ae.put,ae.aL];by_cases hm:m=n
  ·subst hm;simp only[if_true,dg];exact ⟨none,by simp,by simp,trivial⟩
  ·simp only[if_neg hm];exact (h.bT m).bI hl (by simp only[if_neg hm]) fun _ _ _ _=>⟨rfl,fun _ ho=>ho⟩
 ·by_cases hm:m=n <;>by_cases hm':m'=n
  ·rw[hm,hm']
  ·simp only[if_pos hm,u8] at h1;subst h1;simp[bR.aE] at h3
  ·simp only[if_pos hm',u8] at h2;subst h2;simp[bR.aE] at h4
  ·simp only[if_neg hm] at h1;simp only[if_neg hm'] at h2;exact h.cU m m' e e' b h1 h2 h3 h4
 ·have hmn:m≠n:=fun e=>by rw[e,h.kh (.inr hlt)] at hm;cases hm
  simp only[if_neg hmn];exact h.ed m e hm
theorem aF.qu{ts:List (Nat×I)}{os:List (Nat×ai)}(d n T sz z:Nat)(hd:cn ts d=.nils z)(hn:ak os n=none){B:ae}(h:aF (au ((d,.own n 0)::ts) ((n,.bX T sz [])::os)) B)(hlt:n<1000000:=by decide):aF (au ts os) B :=
 ((aF.P6 (A:=au ts os) (T:=T) (sz:=sz) hd hn hlt).trans (by rw[oD,tp];exact aF.refl _)).trans h
def aR.g{n:Nat}(x:aR n Int)(k:Nat):Int:=x.l.getD k 0
theorem aR.sW{n k:Nat}(x:aR n Int)(h:k<n):x.l[k]'(x.lt h)=x.g k:=by simp[aR.g,x.lt h]
theorem eS{n k:Nat}{p:List Nat}(x:aR n Int)(h:k<n):ga k p (some (x.l.map enc))=(I.int .i64 (x.g k)).at p:=by
 rw[Qt h,x.sW h];rfl
theorem qS{n k:Nat}(x:aR n Int)(h:k<n):(x.l.map (enc (α:=Int)))[k]?=some (I.int .i64 (x.g k)):=by
 rw[afO x h,x.sW h];rfl
theorem KV:(∀ k n,bY none (.int k n)=true)∧(∀ b,bY none (.bool b)=true)∧(∀ z es,bY none (.slice z es)=true)∧(∀ f es,bY none (.func f es)=true)∧(∀ z,bY none (.nils z)=true)∧(∀ n k,bY none (.own n k)=true) :=
 ⟨fun _ _=>rfl,fun _=>rfl,fun _ _=>rfl,fun _ _=>rfl,fun _=>rfl,fun _ _=>rfl⟩
theorem qv{p:Nat→Bool}{n:Nat}(h:∀ k,k<n→p k=true):(List.range n).all p=true:=by
 simp only[zy8,zx5];exact h
theorem nW{p:Nat→Bool}{n:Nat}(i:Nat)(hi:i<n)(h:p i=false):(List.range n).all p=false:=by
 simp only[List.all_eq_false,zx5];exact ⟨i,hi,by simp[h]⟩
theorem ab:(type_of% @pd)∧(type_of% @K4)∧(type_of% @K5)∧(type_of% @JD)∧(type_of% @KV)∧(type_of% @Ou)∧(type_of% @Da)∧(type_of% @Ag)∧(∀ n:Int,(enc n:I)=.int .i64 n)∧(∀ n:Bool,(enc n:I)=.bool n) ∧
  (∀ {α β:Type} (f:α→β) (x:α) (xs:List α),List.map f (x::xs)=f x::List.map f xs)∧(∀ {α β:Type} (f:α→β),List.map f []=[])∧(∀ {α:Type} (xs:List α),[]++xs=xs)∧(∀ n:Nat,(n:Int).toNat=n)∧(∀ {α β:Type} (f:α→β) (x:α),Option.map f (some x)=some (f x)) ∧
  (∀ n:Nat,0≤(n:Int))∧((!true)=false)∧((!false)=true)∧((false=true)=False)∧((true=false)=False) :=
 ⟨@pd,@K4,@K5,@JD,@KV,@Ou,@Da,@Ag,gT,CR,fun _ _ _=>rfl,fun _=>rfl,fun _=>rfl,fun _=>rfl,fun _ _=>rfl,fun n=>Int.natCast_nonneg n,rfl,rfl,by simp,by simp⟩
end Go.Abs
namespace Go.Abs
open Go Go.RowKit
open Enc (enc)
theorem kE.bA{P:Program}{f:FuncId}{fn:Func}{x:aP}{rs:List a6}{Y:Value→List I→List (Nat×ai)→cT→Prop}{args:List I}{os:List (Nat×ai)}{post:cT}(hf:P.funcs[f]?=some fn)(hcall:gR P f=true)(hc:(fn.body.bind (fk P fn.ntmps))=some x)
  (hrs:iT P fn.results.toList=some rs) (hn:args.length≤fn.ntmps) (hn2:fn.ntmps≤1000000) (hos:∀ m,al os m=true→1000000≤m) (h:I.hP args→∀ (w:World) (D:aM) (E:aW),J ⟨P,w,D,fn.ntmps,dz E,E,Y,none⟩ x (nK rs post) (au (bp 0 args) os)):kE P f Y args os post:=by
 obtain ⟨body,hb,hc'⟩:=Option.bind_eq_some_iff.1 hc;refine ⟨hcall,fun w D E vs hy hD ho hv =>?_⟩;exact (kE.tE hf hb hcall hc' hrs hn (fun m hm=>⟨zv8 hn2 (hos m hm),hos m hm⟩) (fun w D E=>(h (uk _ _ hv) w D E).sub (N9 args os))).2 w D E vs hy hD ho hv
theorem cD.bA{P:Program}{f:FuncId}{fn:Func}{x:aP}{rs:List a6}{args:List I}{os:List (Nat×ai)}{post:cT}(hf:P.funcs[f]?=some fn)(hcall:gR P f=true)(hc:(fn.body.bind (fk P fn.ntmps))=some x)
  (hrs:iT P fn.results.toList=some rs) (hn:args.length≤fn.ntmps) (hn2:fn.ntmps≤1000000) (hos:∀ m,al os m=true→1000000≤m) (h:I.hP args→∀ (w:World) (D:aM) (E:aW),J ⟨P,w,D,fn.ntmps,dz E,E,iE,none⟩ x (nK rs post) (au (bp 0 args) os)):cD P f args os post :=
 cD.Kz (kE.bA hf hcall hc hrs hn hn2 hos h)
theorem pI{A:ae} : ∀ n x,ak [] n=some x→A.o n=some x∧x.only (al [])=true∧x.eG=true:=fun n x h=>by simp[ak] at h
theorem nk{A:ae}{k:Nat}{c:I}(h1:A.o k=some (.box c))(h2:∀ p,c.only p=true):∀ n x,ak [(k,.box c)] n=some x→A.o n=some x∧x.only (al [(k,.box c)])=true∧x.eG=true:=fun n x h=>by
 simp only[ak] at h;split at h
 ·rename_i hn;subst hn;simp only[u8] at h;subst h;exact ⟨h1,h2 _,rfl⟩
 ·cases h
theorem eK.nil{aA:Bool}{ρ:List (Nat×Nat)}{os0:List (Nat×ai)}{r:I}(h1:∀ p,r.only p=true)(h2:aA=true→r.c5=true):eK aA ρ [] os0 r [] :=
 ⟨fun m x h=>by simp[ak] at h,fun m m' h=>by simp[al,ak] at h,fun m h=>by simp[al,ak] at h,fun m h=>by simp[al,ak] at h,h1 _,h2⟩
theorem dy{k:Nat}{x:ai}{m:Nat} : al [(k,x)] m=true↔m=k:=by
 simp only[al,ak];split <;>simp_all
theorem eK.tx{aA:Bool}{k d:Nat}{os0:List (Nat×ai)}{r c:I}(h1:∀ p,c.only p=true)(h2:aA=true→c.c5=true)(h3:r.only (al [(k,.box c)])=true)(h4:aA=true→r.c5=true)(h5:ak os0 d=none)(h6:d<1000000):eK aA [(k,d)] [] os0 r [(k,.box c)]:=by
 refine ⟨fun m x h =>?_,fun m m' h h' _ =>?_,fun m h=>by simp[al,ak] at h,fun m h _ =>?_,h3,h4⟩
 ·simp only[ak] at h;split at h
  ·simp only[u8] at h;subst h;exact ⟨h1 _,rfl,h2⟩
  ·cases h
 ·rw[dy.1 h,dy.1 h']
 ·rw[dy.1 h];simp[bx,h5,h6]
theorem eK.one{aA:Bool}{k d:Nat}{x:ai}{os0:List (Nat×ai)}{r c:I}(h1:∀ p,c.only p=true)(h2:aA=true→c.c5=true)(h3:r.only (al [(k,.box c)])=true)(h4:aA=true→r.c5=true):eK aA [(k,d)] [(k,x)] os0 r [(k,.box c)]:=by
 refine ⟨fun m x h =>?_,fun m m' h h' _ =>?_,fun m h =>?_,fun m h h' =>?_,h3,h4⟩
 ·simp only[ak] at h;split at h
  ·simp only[u8] at h;subst h;exact ⟨h1 _,rfl,h2⟩
  ·cases h
 ·rw[dy.1 h,dy.1 h']
 ·rw[dy.1 h];exact dy.2 rfl
 ·rw[dy.1 h] at h';have:al [(k,x)] k=true:=dy.2 rfl;rw[this] at h';cases h'
theorem fZ.nil{ρ:List (Nat×Nat)}{os0:List (Nat×ai)} : fZ ρ [] os0:=⟨fun m x h=>by simp[ak] at h,fun m m' h=>by simp[al,ak] at h⟩
mutual
theorem mO(ρ:Nat→Nat):∀ x:I,x.bn=true→x.aK ρ=x
 | .agg fs,h=>by simp only[I.aK,I.bn] at *;rw[oL ρ fs h]
 | .slice _ es,h=>by simp only[I.aK,I.bn] at *;rw[oL ρ es h]
 | .ref x,h=>by simp only[I.aK,I.bn] at *;rw[mO ρ x h]
 | .func _ caps,h=>by simp only[I.aK,I.bn] at *;rw[oL ρ caps h]
 | .iface _ v,h=>by simp only[I.aK,I.bn] at *;rw[mO ρ v h]
 | .bool _,_ | .int _ _,_ | .cY _,_ | .nilp,_ | .df,_ | .dY,_ | .raw _,_ | .nils _,_ | .c0 _,_=>by simp only[I.aK]
 | .cI ks vs,h=>by simp only[I.aK,I.bn,zz2] at *;rw[oL ρ ks h.1,oL ρ vs h.2]
 | .ptr _ _,h | .own _ _,h | .view _ _ _ _ _,h | .mref _,h | .dv _,h | .undef,h | .dp,h | .tuple _,h=>by simp[I.bn] at h
theorem oL(ρ:Nat→Nat):∀ xs:List I,I.bW xs=true→I.cJ ρ xs=xs
 | [],_=>rfl
 |x::xs,h=>by
  simp only[I.bW,zz2] at h;simp only[I.cJ,mO ρ x h.1,oL ρ xs h.2]
end
theorem jF :
  (∀ (k:IntKind) n (ρ:Nat→Nat),(I.int k n).aK ρ=.int k n)∧(∀ (b:Bool) (ρ:Nat→Nat),(I.bool b).aK ρ=.bool b)∧(∀ n p (ρ:Nat→Nat),(I.ptr n p).aK ρ=.ptr (ρ n) p) ∧
  (∀ n p sz lo k (ρ:Nat→Nat),(I.view n p sz lo k).aK ρ=.view (ρ n) p sz lo k)∧(∀ fs (ρ:Nat→Nat),(I.agg fs).aK ρ=.agg (I.cJ ρ fs))∧(∀ fs (ρ:Nat→Nat),(I.tuple fs).aK ρ=.tuple (I.cJ ρ fs))∧(∀ f fs (ρ:Nat→Nat),(I.func f fs).aK ρ=.func f (I.cJ ρ fs)) ∧
  (∀ ρ:Nat→Nat,I.cJ ρ []=[])∧(∀ (ρ:Nat→Nat) x xs,I.cJ ρ (x::xs)=x.aK ρ::I.cJ ρ xs)∧(∀ (ρ:Nat→Nat) (x:I),(ai.box x).aK ρ=.box (x.aK ρ)) ∧
  (∀ (z:Nat) (ρ:Nat→Nat),(I.nils z).aK ρ=.nils z)∧(∀ (z:Nat) (ρ:Nat→Nat),(I.c0 z).aK ρ=.c0 z) ∧
  (∀ n,bx [] n=n)∧(∀ a b r n,bx ((a,b)::r) n=if n=a then b else bx r n)∧(∀ ρ,dH ρ []=[])∧(∀ ρ k x os,dH ρ ((k,x)::os)=(bx ρ k,x.aK (bx ρ))::dH ρ os) :=
 ⟨fun _ _ _=>by simp only[I.aK],fun _ _=>by simp only[I.aK],fun _ _ _=>by simp only[I.aK],fun _ _ _ _ _ _=>by simp only[I.aK],fun _ _=>by simp only[I.aK],fun _ _=>by simp only[I.aK],fun _ _ _=>by simp only[I.aK],
  fun _=>rfl,fun _ _ _=>by simp only[I.cJ],fun _ _=>rfl,fun _ _=>by simp only[I.aK],fun _ _=>by simp only[I.aK],fun _=>rfl,fun _ _ _ _=>rfl,fun _=>rfl,fun _ _ _ _=>rfl⟩
section
variable {α:Type} [Enc α]
theorem kg(ρ:Nat→Nat)(x:α):(enc x).aK ρ=enc x:=mO ρ _ (eb x)
theorem gM(ρ:Nat→Nat)(l:List α):I.cJ ρ (l.map enc)=l.map enc:=oL ρ _ (jP l)
class nU (α:Type) [Enc α]:Prop where
 c5:∀ x:α,(enc x).c5=true
theorem CS[nU α](x:α):(enc x).c5=true:=nU.c5 x
theorem xw[nU α](l:List α):I.jb (l.map enc)=true:=by
 induction l with
 |nil=>rfl
 |cons x l ih=>simp only[zz9,I.jb,CS,ih,zw3]
instance:nU Int:=⟨fun _=>rfl⟩
instance {n:Nat} [nU α]:nU (aR n α):=⟨fun x=>by simp only[enc,I.c5];exact xw x.l⟩
theorem NU(A:ae)(esz:Nat)(l:List α)(hs:Enc.sz α=esz):eI A esz (enc l)=some (l.map enc):=by
 simp only[gn,eI,hs,if_true]
theorem uy(l:List α):j9 (enc l)=l.isEmpty:=by
 simp only[gn,j9];cases l <;>rfl
theorem Kp(neg:Bool)(l:List α)(h:l≠[]):pW neg (enc l)=some (.bool neg):=by
 simp only[gn,pW];cases l with
 |nil=>exact absurd rfl h
 |cons=>rfl
section
variable {P:Program} {Y:Value→List I→List (Nat×ai)→cT→Prop} {K:ae→Prop} {A:ae} {rest:List az} {d:Nat} {e esz bytes:Nat} {q:Nat}
theorem bj.zZ(z:α){l:List α}(hs:Enc.sz α=esz)(hl:l≠[])(hf:A.o d=none)(hb:l.length*bytes≤140737488355328)(hml:l.length≤maxLen)
  (h:∀ m,bj P Y false K (ay rest ((A.aL d (.box (.agg ((l++List.replicate m z).map enc)))).aN (some d) (.view d [] esz 0 l.length)))):bj P Y false K (kc A (some d) e esz bytes (enc z) (enc l) rest (.c0 q)):=by
 have hne:l.map (enc (α:=α))≠[]:=by simpa using hl
 have h1:eI A esz (.c0 q)=some []:=rfl;simp only[kc,h1,NU A esz l hs,fD,if_neg hne,gO,hf,List.length_nil,zz4,zy2,if_pos (v6 hb hml),zy6];refine .any rfl fun m _ =>?_;have:=h m;simp only[zx6,List.map_replicate] at this;exact this
theorem akU(z:I)(hs:Enc.sz α=esz):kc A (some d) e esz bytes z (enc ([]:List α)) rest (.c0 q)=ay rest (A.aN (some d) (.c0 q)):=by
 have h1:eI A esz (.c0 q)=some []:=rfl;simp only[kc,h1,NU A esz ([]:List α) hs,fD,zx1,if_true]
theorem ahQ(esz:Nat)(z:I)(x:aJ)(rest:List az)(A:ae):bO A none (.js esz z x) rest=nc A esz z (ay rest) (af A x):=rfl
theorem ajS(z:α)(k:Nat):I.cX (List.replicate k (enc z))=List.replicate k (Enc.aO α):=by
 have:List.replicate k (enc z)=(List.replicate k z).map (enc (α:=α)):=by simp
 rw[this,rN];simp
theorem vl(z:α){n lo k:Nat}{xs:List α}(ho:A.o n=some (.box (.agg (xs.map enc))))(hk:lo+k≤xs.length) :
  nc A esz (enc z) (ay rest) (.view n [] esz lo k)=ay rest (A.aL n (.box (.agg ((xs.take lo++(List.replicate k z++xs.drop (lo+k))).map enc)))):=by
 have h1:I.cX (List.replicate k (enc z))=I.cX (((xs.map (enc (α:=α))).drop lo).take k):=by
  rw[ajS,←List.map_drop,←List.map_take,rN,zx3,zx0]
  congr 1;omega
 have h2:(I.agg (xs.map (enc (α:=α)))).at []=some (.agg (xs.map enc)):=rfl;simp only[nc,ho,h2];rw[if_pos ⟨rfl,h1⟩];simp only[jj,fv,zx6,List.map_take,List.map_drop,List.map_replicate,List.length_replicate]
theorem yR{n:Nat}{p:List Nat}{sz k total i:Nat}(h:i≤total)(h0:0<total):hJ n p sz 0 k total none (some (.int .i64 i)) none=some (.view n p sz 0 i):=by
 simp only[hJ,iv];rw[if_pos ⟨by omega,by omega,by omega⟩,if_neg (by omega)];simp
theorem yS{n:Nat}{p:List Nat}{sz k total i:Nat}(h:i≤k)(hk:k≤total)(h0:i<total):hJ n p sz 0 k total (some (.int .i64 i)) none none=some (.view n p sz i (k-i)):=by
 simp only[hJ,iv];rw[if_pos ⟨by omega,by omega,by omega⟩,if_neg (by omega)];simp
theorem xq{m:Nat}{p:List Nat}{sz lo l j:Nat}{fs:List I}(h:j<l):mC m p sz lo l sz (j:Int) (some fs)=some (.ptr m (p++[lo+j])):=by
 simp only[mC,true_and];rw[if_pos ⟨by omega,by omega⟩];simp
theorem sK{sz k:Nat}{xs:List α}(hs:Enc.sz α=sz):mz sz 0 k (some (xs.map enc))=some (enc (xs.take k)):=by
 have h:((xs.map (enc (α:=α))).drop 0).take k=(xs.take k).map enc:=by rw[List.drop_zero,List.map_take]
 simp only[mz,h];rw[if_pos (jP _),gn,hs]
end
end
theorem agy(A:ae)(esz m:Nat)(p:List Nat)(sz lo l:Nat)(k:Int):iB A esz k (.view m p sz lo l)=mC m p sz lo l esz k (fE (fr p (A.o m))):=rfl
theorem agY(A:ae)(m:Nat)(p:List Nat)(sz lo l:Nat):jT A (.view m p sz lo l)=some (.int .i64 l):=rfl
theorem ajV(A:ae)(esz:Nat)(lo hi mx:Option I)(n:Nat)(p:List Nat)(l0 k:Nat):oU A esz lo hi mx (.view n p esz l0 k)=oV n p esz l0 k esz lo hi mx (fE (fr p (A.o n))):=rfl
theorem ajW(n:Nat)(p:List Nat)(sz l0 k:Nat)(lo hi mx:Option I)(fs:List I):oV n p sz l0 k sz lo hi mx (some fs)=hJ n p sz l0 k fs.length lo hi mx:=by simp[oV]
theorem eQ :
  (∀ A esz m p sz lo l k,iB A esz k (.view m p sz lo l)=mC m p sz lo l esz k (fE (fr p (A.o m))))∧(∀ A m p sz lo l,jT A (.view m p sz lo l)=some (.int .i64 l)) ∧
  (∀ A esz lo hi mx n p l0 k,oU A esz lo hi mx (.view n p esz l0 k)=oV n p esz l0 k esz lo hi mx (fE (fr p (A.o n))))∧(∀ n p sz l0 k lo hi mx fs,oV n p sz l0 k sz lo hi mx (some fs)=hJ n p sz l0 k fs.length lo hi mx) ∧
  (∀ esz z x rest A,bO A none (.js esz z x) rest=nc A esz z (ay rest) (af A x))∧(∀ rest A d esz,bO A d (.bs0 esz) rest=ay rest (A.aN d (.c0 esz))) :=
 ⟨agy,agY,ajV,ajW,ahQ,fun _ _ _ _=>rfl⟩
theorem fI(rs:List a6)(post:cT)(A:ae):nK rs post .ret A=kF rs post A:=rfl
theorem kW(rs:List a6)(post:cT)(A:ae):nK rs post .normal A=kF rs post A:=rfl
theorem aF.ib{ts:List (Nat×I)}{os0:List (Nat×ai)}(ns:List Nat)(d:Nat){x y:I}(hd:cn ts d=x)(h:a7 true (au ts (iC ns os0)) x=some y)(ho:a8 (fun n => !ns.contains n) (db ns os0)) :
  aF (au ts os0) (au ((d,y)::gF ns ts) (db ns os0)):=by
 rintro c a w ⟨D,E,hs⟩;obtain ⟨D1,E1,hs1,hw⟩:=hs.Dr ns ho;have hu:eC (au ts (iC ns os0)) (au ts os0):=fun n z hz=>by
  simp only[au,ox] at hz ⊢;split at hz
  ·exact hz
  ·cases hz
 have hx:x.b8=true:=by cases x <;>first | rfl | simp[a7] at h
 have hv:=hs.eB d;simp only[au] at hv;rw[hd] at hv;have h1:aG w D E [x] [a.tmps.getD d undef]:=mT [x] _ (.cons hv .nil) (by intro z hz;simp only[zw5] at hz;subst hz;exact hx);have h2:=mA (E':=E1) hs hu hw [x] [y] _ h1 (by simp only[bZ,h]);have h3:aV w D1 E1 y (a.tmps.getD d undef):=by
  simp only[aG] at h2;obtain ⟨v',rest,cs,e,k1,k2,_⟩:=h2;simp only[List.cons.injEq] at e;obtain ⟨e1,_⟩:=e;rw[e1];exact mG k1 k2
 refine ⟨D1,E1,hs1.sz,hs1.eU,fun t =>?_,hs1.dZ,hs1.da,hs1.dq,hs1.bT,hs1.cU,hs1.ed,hs1.fb,hs1.cO,hs1.fg,hs1.fJ⟩;simp only[au,cn];split
 ·rename_i ht;subst ht;exact h3
 ·exact hs1.eB t
theorem aF.qR{ts ts':List (Nat×I)}{os0 os':List (Nat×ai)}(ns:List Nat)(d:Nat){x y:I}(hd:cn ts d=x)(h:a7 true (au ts (iC ns os0)) x=some y)(ho:a8 (fun n => !ns.contains n) (db ns os0))
  (h1:aX ((d,y)::gF ns ts) ts') (h2:bK (db ns os0) os') (h3:bJ (al os') ts') (h4:a8 (al os') os'):aF (au ts os0) (au ts' os') :=
 (aF.ib ns d hd h ho).trans (aF.bM h1 h2 h3 h4)
theorem J.y9{c:cS}{Q:Exit→ae→Prop}{A:ae}{x:aP}(T:ae)(h1:J c x (ar (fun B=>aF B T) fun _ _=>False) A)(h2:∀ B,aF B T→Q .normal B):J c x Q A :=
 h1.mono fun e B hq=>by
  cases e <;>simp only[ar] at hq <;>first
   |exact h2 B hq
   |exact hq.elim
theorem Nb{w:World}{D:aM}{E:aW}{p:List Nat}{c x y:I}{cs:List Value}(hr:ah w D E c cs)(h:c.at p=some x)(hxy:∀ ds,ah w D E x ds→ah w D E y ds)(hs:y.aO=x.aO):ah w D E (c.dI p y) cs∧(c.dI p y).aO=c.aO:=by
 obtain ⟨off,c1,c2,c3,h1,rfl,h2,h3⟩:=yu p c x cs hr h;obtain ⟨off',k1,k2,k3,k4⟩:=tV p c x y _ c2 hr h (hxy c2 h3) hs;rw[h1,u8] at k1;subst k1;refine ⟨?_,k4⟩;have e:(c1++c2++c3).take off++c2++(c1++c2++c3).drop (off+c2.length)=c1++c2++c3:=by
  rw[zz3 c1 c2 c3,←h2,List.take_left,List.drop_length_add_append,List.drop_left,zz3]
 rw[←e];exact k3
theorem aF.P7{A:ae}{m n T sz z:Nat}{p:List Nat}{b:I}(hm:A.o m=some (.box b))(hp:b.at p=some (.nils z))(hn:A.o n=none)(hlt:n<1000000):aF A ((A.aL n (.bX T sz [])).aL m (.box (b.dI p (.own n 0)))):=by
 rintro c a w ⟨D,E,h⟩;have aw:E n=none:=by have:=h.bT n;rw[hn] at this;exact this
 have hmn:m≠n:=fun e=>by rw[e,hn] at hm;cases hm
 have hl:dS w D E w D (fun m=>if m=n then some (.rw none 0) else E m):=by
  have eE:∀ {m:Nat} {e:bR},E m=some e→(if m=n then some (.rw none 0) else E m)=some e:=fun {m e} he=>by
   have:m≠n:=fun e=>by rw[e,aw] at he;cases he
   rw[if_neg this];exact he
  refine ⟨fun _ _ h=>h,fun _ _ _ _ h=>h,fun m b aO he=>eE he,fun m aE l he =>?_,fun m b he=>eE he,fun m b he=>eE he,fun _ _ _ _ h=>h⟩
  ·have:m≠n:=fun e=>by rw[e,aw] at he;cases he
   exact ⟨aE,l,by simp only[if_neg this];exact he,zz7 _,fun _=>rfl⟩
 refine ⟨D,fun m=>if m=n then some (.rw none 0) else E m,h.sz,h.eU,fun t=>aV.bI hl (h.eB t),h.dZ,h.da,h.dq,fun k =>?_,fun m m' e e' b h1 h2 h3 h4 =>?_,fun m e hm =>?_,h.fb,h.cO,h.fg,h.fJ⟩
 ·simp only[ae.aL];by_cases hk:k=m
  ·subst hk;have ho:=h.bT k;rw[hm] at ho;obtain ⟨b',cs,T',h1,h2,h3,h4,h5⟩:=ho;obtain ⟨q1,q2⟩:=Nb (y:=.own n 0) (ah.bI hl _ _ h4) hp (fun ds hd=>by
    simp only[ah] at hd;subst hd;simp only[ah,if_true];exact ⟨none,0,rfl,zz7 _,⟨_,_,_,rfl⟩,fun _=>trivial⟩) rfl
   simp only[if_true,dg];exact ⟨b',cs,T',by rw[q2];simp only[if_neg hmn];exact h1,h2,h3,q1,h5⟩
  ·simp only[if_neg hk];by_cases hkn:k=n
   ·subst hkn;simp only[if_true,dg];exact ⟨none,by simp,by simp,trivial⟩
   ·simp only[if_neg hkn];exact (h.bT k).bI hl (by simp only[if_neg hkn]) fun _ _ _ _=>⟨rfl,fun _ ho=>ho⟩
 ·by_cases hm:m=n <;>by_cases hm':m'=n
  ·rw[hm,hm']
  ·simp only[if_pos hm,u8] at h1;subst h1;simp[bR.aE] at h3
  ·simp only[if_pos hm',u8] at h2;subst h2;simp[bR.aE] at h4
  ·simp only[if_neg hm] at h1;simp only[if_neg hm'] at h2;exact h.cU m m' e e' b h1 h2 h3 h4
 ·have hmn:m≠n:=fun e=>by rw[e,h.kh (.inr hlt)] at hm;cases hm
  simp only[if_neg hmn];exact h.ed m e hm
theorem aF.uT{ts:List (Nat×I)}{os:List (Nat×ai)}(m n T sz z:Nat)(p:List Nat)(b:I)(hm:ak os m=some (.box b))(hp:b.at p=some (.nils z))(hn:ak os n=none){B:ae}(h:aF (au ts ((m,.box (b.dI p (.own n 0)))::(n,.bX T sz [])::os)) B)(hlt:n<1000000:=by decide):aF (au ts os) B :=
 ((aF.P7 (A:=au ts os) (T:=T) (sz:=sz) hm hp hn hlt).trans (by rw[oD,oD];exact aF.refl _)).trans h
end Go.Abs
