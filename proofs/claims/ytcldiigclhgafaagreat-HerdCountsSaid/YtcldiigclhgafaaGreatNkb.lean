/-
  A part of the proof that the law HerdCounts returns true for every input; conditions: none beyond the statement's own. (part 2 of 7)
-/
import Derived.Maps.RangeRun
import Derived.Laws.MakeOwn
import Derived.Orders
import Derived.OrdersIn
import Derived.Test.YtcldiigclhgafaaGreatNka
set_option linter.unusedSimpArgs false
set_option linter.unusedVariables false
set_option maxHeartbeats 16000000
set_option maxRecDepth 100000
namespace Go.Abs
open Go Go.RowKit
theorem Ds{w:World}{D:aT}{E:aW} : ∀ (l:List cS) (xs ys:List I) (cs bC:List Value),l.all x0=true→jb l xs ys=some true→aL w D E xs cs→aL w D E ys bC→xs=ys∧cs=bC∧∀ v∈cs,∃ k n,v=.int k n
 | [],xs,ys,cs,bC,_,h,hx,hy=>by
  simp only[jb] at h;split at h
  ·simp only[aL] at hx hy;subst hx hy;exact ⟨rfl,rfl,fun v hv=>by simp at hv⟩
  ·cases h
 |t::ts,xs,ys,cs,bC,ha,h,hx,hy=>by
  simp only[List.all_cons,zz3] at ha;simp only[jb] at h;split at h
  case h_2=>cases h
  rename_i f fs g gs;unfold iA at h;split at h
  case h_2=>cases h
  rename_i a b h1 h2;simp only[t7,zz3] at h;obtain ⟨rfl,rfl⟩:=h;simp only[aL] at hx hy;obtain ⟨c1,c2,rfl,p1,p2⟩:=hx;obtain ⟨d1,d2,rfl,q1,q2⟩:=hy;obtain ⟨rfl,rfl,k3⟩:=Ds ts fs gs c2 d2 ha.2 h2 p2 q2;cases t with
  |i k =>
   simp only[cv] at h1;split at h1
   case h_2=>cases h1
   rename_i k1 a k2 b;split at h1
   case isFalse=>cases h1
   rename_i hk;simp only[t7,beq_iff_eq] at h1;subst h1;obtain ⟨rfl,rfl⟩:=hk;simp only[ai] at p1 q1;obtain ⟨rfl,_⟩:=p1;obtain ⟨rfl,_⟩:=q1;refine ⟨rfl,rfl,fun v hv =>?_⟩;rcases zy6.1 hv with hv | hv
   ·simp at hv;exact ⟨_,_,hv⟩
   ·exact k3 v hv
  |b | s | br _ | kr _ _=>simp[x0] at ha
theorem ML:∀ (cs:List Value) (n:Nat),(∀ v∈cs,∃ k m,v=.int k m)→((cs.zip cs).all fun (x,y)=>Instr.sameBits n x y)=true
 | [],_,_=>rfl
 |v::cs,n,h=>by
  obtain ⟨k,m,rfl⟩:=h v (by simp);simp only[List.zip_cons_cons,List.all_cons,zz3];exact ⟨by cases n <;>simp[Instr.sameBits],ML cs n fun v hv=>h v (by simp[hv])⟩
theorem ah7{P:Program}{t:TypeId}{ty:cS}{w:World}{D:aT}{E:aW}{x y:I}{u v:Value}(hk:l8 P t=some ty)(h:cv ty x y=some true)(hx:aV w D E x u)(hy:aV w D E y v):x=y∧u=v∧Instr.sameBits 10000 u v=true:=by
 unfold l8 at hk;split at hk
 ·rename_i k hu;simp only[t7] at hk;subst hk;simp only[cv] at h;split at h
  case h_2=>cases h
  split at h
  case isFalse=>cases h
  rename_i hk;simp only[t7,beq_iff_eq] at h;subst h;obtain ⟨rfl,rfl⟩:=hk;rw[(fC hx).1,(fC hy).1];exact ⟨rfl,rfl,by simp[Instr.sameBits]⟩
 ·rename_i fs hu;split at hk
  case h_2=>cases hk
  rename_i l hl;split at hk
  case isFalse=>cases hk
  rename_i hc;simp only[t7] at hk;subst hk;simp only[cv] at h;split at h
  case h_2=>cases h
  rename_i xs ys;obtain ⟨cs,rfl,hc1⟩:=jT hx;obtain ⟨bC,rfl,hd1⟩:=jT hy;obtain ⟨rfl,rfl,h3⟩:=Ds l xs ys cs bC hc.1 h hc1 hd1;refine ⟨rfl,rfl,?_⟩;simp only[Instr.sameBits,beq_self_eq_true,Bool.true_and];exact ML cs _ h3
 ·cases hk
section
variable {P:Program} {w:World} {D:aT} {E:aW}
theorem CT{t:TypeId}{ty:cS}{em:Bool}{x y:I}{v:Value}{r:Bool}(hk:l8 P t=some ty)(hx:aV w D E x v)(h:cv ty x y=some r)(n:Nat):(Instr.checkKey em (n+2) t v).run P w=.ok () w:=by
 unfold l8 at hk;split at hk
 ·rename_i k hu;simp only[t7] at hk;subst hk;simp only[cv] at h;split at h
  case h_2=>cases h
  rename_i k1 a k2 b;split at h
  case isFalse=>cases h
  rename_i hq;rw[(fC hx).1,hq.1];exact MapKept.run_checkKey hu (by simp[MapKept.IsKey]) em (n+1)
 ·rename_i fs hu;split at hk
  case h_2=>cases hk
  rename_i l hl;split at hk
  case isFalse=>cases hk
  rename_i hc;simp only[t7] at hk;subst hk;simp only[cv] at h;split at h
  case h_2=>cases h
  rename_i xs ys;obtain ⟨cs,rfl,hc1⟩:=jT hx;obtain ⟨d,ae⟩:∃ d,d=11:=⟨_,rfl⟩
  rw[show (12:Nat)=d+1 from by omega] at hl;simp only[gM,hu] at hl;split at hl
  case isFalse=>cases hl
  rename_i hc2;simp only[zz1,cS.br.injEq] at hl;obtain ⟨l',hl,rfl⟩:=hl;rw[show n+2=(n+1)+1 from rfl,Instr.checkKey];simp only[Sem.run_bind,run_underlying hu,Result.andThen_ok];rw[←Array.forIn_toList];have key:∀ (L:List Field) (l:List cS) (xs ys:List I) (r:Bool) (c1 c2:List Value),
    (L.mapM fun f=>match gM P d f.type with
     |some ty=>if ty.size=P.cellsOf f.type then some ty else none
     | none => none) = some l → (∀ f ∈ L, f.name ≠ "_" ∧ ru (P.underlying f.type) = true) → qm P c1.length L = true → aL w D E xs c2 → jb l xs ys = some r → c1 ++ c2 = cs →
    Sem.run P (forIn L PUnit.unit (fun (f : Field) (_ : PUnit) => (if f.name ≠ "_" then (do
     let x ←part f.type cs.toArray f.offset
     Instr.checkKey em (n+1) f.type x
     pure (ForInStep.yield PUnit.unit)) else pure (ForInStep.yield PUnit.unit):Sem (ForInStep PUnit)))) w=.ok PUnit.unit w:=by
   intro L
   induction L with
   |nil=>intros;simp
   |cons f L ih =>
    intro l xs ys r c1 c2 hm hn ho hx h htot;simp only[List.mapM_cons,Option.bind_eq_bind,Option.pure_def,Option.bind_eq_some_iff,t7] at hm;obtain ⟨ty,hty,tys,htys,rfl⟩:=hm;split at hty
    case h_2=>cases hty
    rename_i ty' hd';split at hty
    case isFalse=>cases hty
    rename_i hsz;simp only[t7] at hty;subst hty;simp only[jb] at h;split at h
    case h_2=>cases h
    rename_i x xs y ys;unfold iA at h;split at h
    case h_2=>cases h
    rename_i ra rb h1 h2;simp only[aL] at hx;obtain ⟨e1,e2,rfl,k1,k2⟩:=hx;obtain ⟨s,q1,q2,q3⟩:=wj hd' hsz h1;obtain ⟨u,p1,p2⟩:=pd (P:=P) (w:=w) (c1:=c1) (c3:=e2) q1 q2 k1;simp only[qm,zz3,beq_iff_eq] at ho;have hsx:=pV ty' x y ra h1;have hle:e1.length=P.cellsOf f.type:=by rw[ai.length _ _ k1,hsx.1,hsz]
    have ih':=ih tys xs ys rb (c1++e1) e2 htys (fun g hg=>hn g (by simp[hg])) (by simp only[zz7,hle];exact ho.2) k2 h2 (by rw[←htot];simp);rw[zz5,htot,←ho.1] at p1;obtain ⟨hnm,hint⟩:=hn f (by simp);have hck:(Instr.checkKey em (n+1) f.type u).run P w=.ok () w:=by
     cases hu:P.underlying f.type with
     |none=>simp[hu,ru] at hint
     |some dd =>
      cases dd <;>simp[hu,ru] at hint
      rename_i q;have hti:ty'=.i q:=by
       rw[show d=10+1 from by omega] at hd';unfold gM at hd';simp only[hu,t7] at hd';exact hd'.symm
      subst hti;simp only[cv] at h1;split at h1
      case h_2=>cases h1
      split at h1
      case isFalse=>cases h1
      rename_i hq;rw[(fC p2).1,hq.1];exact MapKept.run_checkKey hu (by simp[MapKept.IsKey]) em n
    simp only[List.forIn_cons,Sem.run_bind,hnm,ne_eq,not_false_eq_true,if_true,p1,Result.andThen_ok,hck,Sem.run_pure];exact ih'
  rw[key fs.toList l' xs ys r [] cs hl (fun f hf=>⟨by simpa using zx9.1 hc2.2.1 f hf,Array.all_eq_true_iff_forall_mem.1 hc.2 f (Array.mem_toList_iff.1 hf)⟩) hc2.2.2 hc1 h rfl];simp
 ·cases hk
theorem zk{x:I}{xs:List I}{vs:List Value}(h:aJ w D E (x::xs) vs):∃ v rest,vs=v::rest∧aV w D E x v∧aJ w D E xs rest:=by
 simp only[aJ] at h;obtain ⟨v,rest,cs,rfl,h1,h2,h3⟩:=h;exact ⟨v,rest,rfl,mW h1 h2,h3⟩
def pz(r:Option Nat)(es:List MapEntry)(i:Nat)(q:Option (Nat×Value)):Prop :=
 (r=none∧q=none)∨∃ j e,r=some (i+j)∧es[j]?=some e∧q=some (i+j,e.val)
theorem pz.step{r:Option Nat}{es:List MapEntry}{e:MapEntry}{i:Nat}{q:Option (Nat×Value)}(h:pz r es (i+1) q):pz r (e::es) i q:=by
 rcases h with h | ⟨j,e',h1,h2,h3⟩
 ·exact .inl h
 ·exact .inr ⟨j+1,e',by rw[h1];congr 1;omega,by simpa using h2,by rw[h3];congr 2;omega⟩
theorem DP{q:IntKind}{k:I}{v:Value}(hv:aV w D E k v):∀ (ks:List I) (es:List MapEntry) (i:Nat) (r:Option Nat),aJ w D E ks (es.map (·.key))→fh (.i q) k ks i=some r →
  ∃ x,Instr.findNow (.int q) v es i=some x∧pz r es i x
 | [],es,i,r,hk,h=>by
  simp only[fh,t7] at h;simp only[aJ,List.map_eq_nil_iff] at hk;subst h hk;exact ⟨none,rfl,.inl ⟨rfl,rfl⟩⟩
 |x::ks,es,i,r,hk,h=>by
  obtain ⟨u,rest,e1,hu,hr⟩:=zk hk;cases es with
  |nil=>cases e1
  |cons e es =>
   simp only[zz9,List.cons.injEq] at e1;obtain ⟨rfl,rfl⟩:=e1;simp only[fh] at h;have same:∀ b,cv (.i q) k x=some b→Instr.sameNow (.int q) v e.key=some b:=fun b hb=>by
    simp only[cv] at hb;split at hb
    case h_2=>cases hb
    split at hb
    case isFalse=>cases hb
    rename_i hq;simp only[t7] at hb;subst hb;rw[(fC hv).1,(fC hu).1];simp[Instr.sameNow,hq.1,hq.2]
   split at h
   ·rename_i hb;simp only[t7] at h;subst h;exact ⟨some (i,e.val),by simp[Instr.findNow,same _ hb],.inr ⟨0,e,rfl,rfl,rfl⟩⟩
   ·rename_i hb;obtain ⟨y,h1,h2⟩:=DP hv ks es (i+1) r hr h;exact ⟨y,by simp[Instr.findNow,same _ hb,h1],h2.step⟩
   ·cases h
theorem DM{t:TypeId}{ty:cS}(hty:gM P 12 t=some ty){k:I}{v:Value}(hv:aV w D E k v):∀ (ks:List I) (es:List MapEntry) (i:Nat) (r:Option Nat),aJ w D E ks (es.map (·.key))→fh ty k ks i=some r →
  ∃ x,(Instr.findAsking t v es i).run P w=.ok x w∧pz r es i x
 | [],es,i,r,hk,h=>by
  simp only[fh,t7] at h;simp only[aJ,List.map_eq_nil_iff] at hk;subst h hk;exact ⟨none,rfl,.inl ⟨rfl,rfl⟩⟩
 |x::ks,es,i,r,hk,h=>by
  obtain ⟨u,rest,e1,hu,hr⟩:=zk hk;cases es with
  |nil=>cases e1
  |cons e es =>
   simp only[zz9,List.cons.injEq] at e1;obtain ⟨rfl,rfl⟩:=e1;simp only[fh] at h;have same:∀ b,cv ty k x=some b→(Op.equal t v e.key).run P w=.ok b w:=fun b hb=>s7 12 t ty hty k x v e.key b hv hu hb _ (by simp[Op.maxDepth]);split at h
   ·rename_i hb;simp only[t7] at h;subst h;exact ⟨some (i,e.val),by simp[Instr.findAsking,same _ hb],.inr ⟨0,e,rfl,rfl,rfl⟩⟩
   ·rename_i hb;obtain ⟨y,h1,h2⟩:=DM hty hv ks es (i+1) r hr h;exact ⟨y,by simp[Instr.findAsking,same _ hb,h1],h2.step⟩
   ·cases h
theorem te{t:TypeId}{ty:cS}(hk:l8 P t=some ty){k:I}{v:Value}(hv:aV w D E k v){ks:List I}{es:List MapEntry}{r:Option Nat}(hks:aJ w D E ks (es.map (·.key)))(h:fh ty k ks 0=some r) :
  ∃ x,(Instr.findKey t v es).run P w=.ok x w∧pz r es 0 x:=by
 have hk0:=hk;unfold l8 at hk;split at hk
 ·rename_i q hu;simp only[t7] at hk;subst hk;obtain ⟨x,h1,h2⟩:=DP hv ks es 0 r hks h;exact ⟨x,by simp[Instr.findKey,run_underlying hu,h1],h2⟩
 ·rename_i fs hu;split at hk
  case h_2=>cases hk
  rename_i l hl;split at hk
  case isFalse=>cases hk
  simp only[t7] at hk;subst hk;cases es with
  |nil =>
   cases ks with
   |nil =>
    simp only[fh,t7] at h;subst h;exact ⟨none,by simp[Instr.findKey,run_underlying hu,Instr.findNow],.inl ⟨rfl,rfl⟩⟩
   |cons x xs=>simp[aJ] at hks
  |cons e es =>
   obtain ⟨x,h1,h2⟩:=DM hl hv ks (e::es) 0 r hks h;exact ⟨x,by simp[Instr.findKey,run_underlying hu,Instr.findNow,Instr.sameNow,h1],h2⟩
 ·cases hk
theorem m9:∀ {xs:List I} {vs:List Value} {j:Nat} {v:Value},aJ w D E xs vs→vs[j]?=some v→∃ x,xs[j]?=some x∧aV w D E x v
 | [],vs,j,v,h,hj=>by simp only[aJ] at h;subst h;simp at hj
 |x::xs,vs,j,v,h,hj=>by
  obtain ⟨u,rest,rfl,h1,h2⟩:=zk h;cases j with
  |zero=>simp only[List.getElem?_cons_zero,t7] at hj;subst hj;exact ⟨x,rfl,h1⟩
  |succ j=>exact m9 (xs:=xs) h2 (by simpa using hj)
end
section
variable {c:cO} {A:af} {o:Oper} {x:I}
theorem aiG{a:Act}{w:World}{D:aT}{E:aW}(hs:aU c A a w D E){m:I}{v:Value}{ks vs:List I}(hv:aV w D E m v)(hm:gA A m=some (ks,vs)) :
  (v=.map none∧ks=[]∧vs=[])∨∃ b es clock,v=.map (some b)∧w.heap[b]?=some (.map es clock)∧aJ w D E ks (es.toList.map (·.key))∧aJ w D E vs (es.toList.map (·.val)):=by
 unfold gA at hm;split at hm
 ·simp only[t7,Prod.mk.injEq] at hm;obtain ⟨rfl,rfl⟩:=hm;obtain ⟨cs,q1,q2⟩:=hv;simp only[ai] at q2;obtain ⟨b,es,ck,q3,q4,q5,q6⟩:=q2;exact .inr ⟨b,es,ck,by simpa[bM,I.isAgg,q3] using q1.symm,q4.1,q5,q6⟩
 ·rename_i n;split at hm
  case h_2=>cases hm
  rename_i ks' vs' hn;simp only[t7,Prod.mk.injEq] at hm;obtain ⟨rfl,rfl⟩:=hm;obtain ⟨cs,q1,q2⟩:=hv;simp only[ai] at q2;obtain ⟨b,q3,q4⟩:=q2;obtain ⟨b',es,ck,k1,k2,k3,k4,k5,k6,k7⟩:=hs.map hn;rw[k1] at q3;cases q3;exact .inr ⟨_,es,ck,by simpa[bM,I.isAgg,q4] using q1.symm,k3,k5,k6⟩
 ·simp only[t7,Prod.mk.injEq] at hm;obtain ⟨rfl,rfl⟩:=hm;obtain ⟨cs,q1,q2⟩:=hv;simp only[ai] at q2;exact .inl ⟨by simpa[bM,I.isAgg,q2.1] using q1.symm,rfl,rfl⟩
 ·cases hm
theorem pw{w:World}{D:aT}{E:aW}{y:I}{v:Value}(hv:y.cn=true)(h:aV w D E y v):∃ cs,bM y v cs∧ai w D E y cs:=by
 cases y <;>simp[I.cn] at hv <;>exact h
theorem qB{w:World}{D:aT}{E:aW} : ∀ {xs:List I} {vs:List Value} {j:Nat} {x:I},aJ w D E xs vs→xs[j]?=some x→x.cn=true
 | [],_,j,x,_,h=>by simp at h
 |y::ys,vs,j,x,hr,h=>by
  simp only[aJ] at hr;obtain ⟨v,rest,cs,rfl,h1,h2,h3⟩:=hr;cases j with
  |zero =>
   simp only[List.getElem?_cons_zero,t7] at h;subst h;cases y <;>simp only[ai] at h2 <;>rfl
  |succ j=>exact qB (xs:=ys) h3 (by simpa using h)
theorem amk{x:I}{cs r:List Value}(h:nj x cs=some r):x.cn=true:=by
 cases x <;>first | rfl | (cases cs <;>simp[nj] at h)
theorem aml{P:Program}{t:TypeId}{z:I}(hz:gf P t=some z)(hp:uY P t z=true):∃ zv,(∀ w,(zeroValue t).run P w=.ok zv w)∧z.cn=true∧∀ w D E,aV w D E z zv:=by
 have hz0:=hz;obtain ⟨i,zv,hi,hzz,hzr⟩:=mA hz;have hv:z.cn=true:=by
  unfold gf at hz;split at hz
  ·split at hz
   ·rename_i hk;simp only[t7] at hz;subst hz;exact amk hk
   ·cases hz
  ·cases hz
 refine ⟨zv,fun w=>by simp[zeroValue,typeInfo,hi,hzz],hv,fun w D E =>?_⟩;have h1:=hzr w D E;simp only[uY,hi,Option.bind_some,hzz] at hp;refine mW (cs:=zv.cells.toList) ?_ h1;cases zv <;>simp only[bM] at hp ⊢ <;>first
  |(rw[if_pos hp];simp[Value.cells])
  |(have hp':z.isAgg=false:=by simpa using hp
    rw[hp'];simp[Value.cells])
theorem ahx{t kt et:TypeId}{m k:Operand}{m' k':aM}{ok:Bool}{ty:cS}{z v:I}{ks vs:List I}{there:Bool}(ho:o.op=.lookup t m k ok)(hu:c.P.underlying t=some (.map kt et))(hk:l8 c.P kt=some ty)(hz:gf c.P et=some z)(hzp:uY c.P et z=true)
  (hm:bH c.P 0 m=some m') (hk':bH c.P 0 k=some k') (hmm:gA A (ah A m')=some (ks,vs)) (hl:gz ty z (ah A k') ks vs=some (v,there)):dR c A o (if ok then .tuple [v,.bool there] else v) :=
 .same fun a w D E hs=>by
  have h1:=ca hs hm;have h2:=ca hs hk';obtain ⟨zv,hzrun,hzv,hzrv⟩:=aml hz hzp;unfold gz at hl;split at hl
  case isFalse=>cases hl
  rename_i hkk;obtain ⟨rk,hrk⟩:=zw2.1 hkk;have hchk:=fun em=>CT (P:=c.P) (w:=w) (em:=em) hk h2 hrk 9998;have a6:∀ u there,v.cn=true→aV w D E v u→aV w D E (if ok then .tuple [v,.bool there] else v) (if ok then Value.tuple #[u,.bool there] else u):=fun u there hval hu'=>by
   cases ok
   ·exact hu'
   ·obtain ⟨cs,q1,q2⟩:=pw hval hu';simp only[if_true,aV,aJ];exact ⟨[u,.bool there],rfl,u,[.bool there],cs,rfl,q1,q2,.bool there,[],[.bool there],rfl,by simp[bM,I.isAgg],by simp[ai],rfl⟩
  have main:∀ (es:Array MapEntry),aJ w D E ks (es.toList.map (·.key))→aJ w D E vs (es.toList.map (·.val))→∃ u,v.cn=true∧aV w D E v u ∧
    ((∃ i,(Instr.findKey kt (a.eval k) es.toList).run c.P w=.ok (some (i,u)) w∧there=true)∨((Instr.findKey kt (a.eval k) es.toList).run c.P w=.ok none w∧u=zv∧there=false)):=fun es hks hvs=>by
   split at hl
   ·rename_i i hfi;simp only[zz1,Prod.mk.injEq] at hl;obtain ⟨v',hv',rfl,rfl⟩:=hl;obtain ⟨q,q1,q2⟩:=te hk h2 hks hfi;rcases q2 with ⟨e,_⟩ | ⟨j,e,e1,e2,rfl⟩
    ·cases e
    ·simp only[zz4,t7] at e1;subst e1;obtain ⟨x,k1,k2⟩:=m9 (j:=i) (v:=e.val) hvs (by simp only[zw5,e2,zy5]);rw[hv',t7] at k1;subst k1;exact ⟨e.val,qB hvs hv',k2,.inl ⟨_,q1,rfl⟩⟩
   ·rename_i hfi;simp only[t7,Prod.mk.injEq] at hl;obtain ⟨rfl,rfl⟩:=hl;obtain ⟨q,q1,q2⟩:=te hk h2 hks hfi;rcases q2 with ⟨_,rfl⟩ | ⟨j,e,e1,_⟩
    ·exact ⟨zv,hzv,hzrv w D E,.inr ⟨q1,rfl,rfl⟩⟩
    ·cases e1
   ·cases hl
  rcases aiG hs h1 hmm with ⟨e1,rfl,rfl⟩ | ⟨b,es,ck,e1,e2,e3,e4⟩
  ·obtain ⟨u,hval,hu',hrun⟩:=main #[] (by simp[aJ]) (by simp[aJ]);refine ⟨_,?_,a6 u there hval hu'⟩;rcases hrun with ⟨i,q1,rfl⟩ | ⟨q1,rfl,rfl⟩ <;>
    simp only[execOp,ho,Instr.lookup,e1,Sem.run_bind,run_underlying hu,Result.andThen_ok,Sem.run_pure,hchk,q1,hzrun]
  ·obtain ⟨u,hval,hu',hrun⟩:=main es e3 e4;refine ⟨_,?_,a6 u there hval hu'⟩;rcases hrun with ⟨i,q1,rfl⟩ | ⟨q1,rfl,rfl⟩ <;>
    simp only[execOp,ho,Instr.lookup,e1,Sem.run_bind,run_underlying hu,Result.andThen_ok,MapKept.run_getObj_map e2,Sem.run_pure,hchk,q1,hzrun]
theorem IP{y:Operand}{y':aM}(ho:o.op=.nilCheck y)(hy:bH c.P 0 y=some y')(h:(∃ n p,ah A y'=.ptr n p)∨∃ z,ah A y'=.ref z):dR c A o (ah A y') :=
 .same fun a w D E hs=>by
  have h1:=ca hs hy;rcases h with ⟨n,p,h⟩ | ⟨z,h⟩
  ·rw[h] at h1 ⊢;obtain ⟨b,aS,off,_,_,e⟩:=pf h1;exact ⟨a.eval y,by simp only[execOp,ho,e,Sem.run_pure],h1⟩
  ·rw[h] at h1 ⊢;obtain ⟨b,off,cs,e,_⟩:=qA h1;exact ⟨a.eval y,by simp only[execOp,ho,e,Sem.run_pure],h1⟩
theorem Je{w:World}{D:aT}{E:aW}{x:I}{v:Value}{b:Bool}(h:ji x=some b)(hv:aV w D E x v):∃ ad,v=.pointer ad∧ad.isNone=b:=by
 cases x <;>simp only[ji,t7] at h <;>try (cases h;done)
 case nilp =>
  subst h;obtain ⟨cs,q1,q2⟩:=hv;simp only[ai] at q2;exact ⟨none,by simpa[bM,I.isAgg,q2] using q1.symm,rfl⟩
 case ptr n p =>
  subst h;obtain ⟨b,aS,off,_,_,e⟩:=pf hv;exact ⟨_,e,rfl⟩
 case ref z =>
  subst h;obtain ⟨b,off,cs,e,_⟩:=qA hv;exact ⟨_,e,rfl⟩
theorem ahC{neg:Bool}{t yt e:TypeId}{y z:Operand}{y' z':aM}{b1 b2:Bool}(ho:o.op=.binOp (if neg then .neq else .eql) t y z yt)(hu:c.P.underlying t=some (.pointer e))(hy:bH c.P 0 y=some y')(hz:bH c.P 0 z=some z')
  (h1:ji (ah A y')=some b1) (h2:ji (ah A z')=some b2) (h:b1=true∨b2=true):dR c A o (.bool (if neg then !(b1&&b2) else (b1&&b2))) :=
 .same fun a w D E hs=>by
  obtain ⟨p,e1,k1⟩:=Je h1 (ca hs hy);obtain ⟨q,e2,k2⟩:=Je h2 (ca hs hz);have he:∀ d,(Op.equalIn (d+1) t (.pointer p) (.pointer q)).run c.P w=.ok (b1&&b2) w:=fun d=>by
   subst k1 k2;cases p <;>cases q <;>simp at h <;>simp[Op.equalIn,run_underlying hu]
  refine ⟨.bool (if neg then !(b1&&b2) else (b1&&b2)),?_,oW _⟩;cases neg <;>simp only[execOp,ho,e1,e2,if_true,zz6,if_false,Sem.run_bind,eqGuard] <;>simp[binOp,Op.equal,Op.maxDepth,he]
end
section
variable {c:cO} {A:af} {o:Oper} {x:I}
theorem Xn{t:TypeId}{d:Nat}(ho:o.op=.makeMap t none)(ae:o.dst=some d)(hn:d<c.n)(hf:A.o d=none):iw c A o ((A.aO d (.cC [] [])).put d (.mref d)):=by
 intro a w D E hs;have h1:=hs.aiZ (.inl hn) hf;have h2:=h1.put (x:=.mref d) (v:=.map (some w.heap.size)) hn ⟨_,by simp[bM,I.isAgg];rfl,by
  simp only[ai,if_true];exact ⟨w.heap.size,rfl,rfl⟩⟩
 exact ⟨w.alloc (.map #[] 0),.inl ⟨.map (some w.heap.size),by simp[execOp,ho,Instr.makeMap],D,_,by rw[ae];exact h2⟩⟩
theorem zj{w:World}{D:aT}{E:aW} : ∀ {xs ys:List I} {us vs:List Value},aJ w D E xs us→aJ w D E ys vs→aJ w D E (xs++ys) (us++vs)
 | [],ys,us,vs,h,k=>by simp only[aJ] at h;subst h;simpa using k
 |x::xs,ys,us,vs,h,k=>by
  simp only[aJ,zy1] at *;obtain ⟨v,rest,cs,rfl,h1,h2,h3⟩:=h;exact ⟨v,rest++vs,cs,rfl,h1,h2,zj h3 k⟩
theorem MK{w:World}{D:aT}{E:aW} : ∀ {xs:List I} {us:List Value} {i:Nat} {y:I} {v:Value} {cs:List Value},aJ w D E xs us→bM y v cs→ai w D E y cs→aJ w D E (xs.set i y) (us.set i v)
 | [],us,i,y,v,cs,h,_,_=>by simp only[aJ] at h;subst h;simp[aJ]
 |x::xs,us,i,y,v,cs,h,k1,k2=>by
  simp only[aJ] at h;obtain ⟨u,rest,bC,rfl,h1,h2,h3⟩:=h;cases i with
  |zero=>simp only[List.set_cons_zero,aJ];exact ⟨v,rest,cs,rfl,k1,k2,h3⟩
  |succ i=>simp only[List.set_cons_succ,aJ];exact ⟨u,_,bC,rfl,h1,h2,MK h3 k1 k2⟩
theorem MJ{w:World}{D:aT}{E:aW}{y:I}{v:Value}{cs:List Value}(h1:bM y v cs)(h2:ai w D E y cs):aJ w D E [y] [v]:=by
 simp only[aJ];exact ⟨v,[],cs,rfl,h1,h2,rfl⟩
theorem DO{ty:cS}{k:I} : ∀ {ks:List I} {i j:Nat},fh ty k ks i=some (some j)→∃ x,ks[j-i]?=some x∧i≤j∧cv ty k x=some true
 | [],i,j,h=>by simp[fh] at h
 |x::xs,i,j,h=>by
  simp only[fh] at h;split at h
  ·rename_i hb;simp only[t7] at h;subst h;exact ⟨x,by simp,zz8 _,hb⟩
  ·obtain ⟨y,h1,h2,h3⟩:=DO h;refine ⟨y,?_,by omega,h3⟩;rw[show j-i=(j-(i+1))+1 from by omega];simpa using h1
  ·cases h
theorem Df{t kt et:TypeId}{m k v:Operand}{m' k' v':aM}{ty:cS}{n:Nat}{ks vs ks' vs':List I}(ho:o.op=.mapUpdate t m k v∨o.op=.insert t m k v)(hu:c.P.underlying t=some (.map kt et))(hk:l8 c.P kt=some ty)
  (hm:bH c.P 0 m=some m') (hk':bH c.P 0 k=some k') (hv':bH c.P et v=some v') (hmm:ah A m'=.mref n) (hn:A.o n=some (.cC ks vs)) (hl:gl ty (ah A k') (ah A v') ks vs=some (ks',vs')) (ae:o.dst=none) :
  iw c A o (A.aO n (.cC ks' vs')):=by
 intro a w D E hs;have h1:=ca hs hm;have h2:=ca hs hk';have h3:=ca hs hv';rw[hmm] at h1;unfold gl at hl;split at hl
 case isFalse=>cases hl
 rename_i hc;obtain ⟨hkk,hkv,hvv⟩:=hc;obtain ⟨rk,hrk⟩:=zw2.1 hkk;have hchk:=fun em=>CT (P:=c.P) (w:=w) (em:=em) hk h2 hrk 9998;obtain ⟨kcs,kp1,kp2⟩:=pw hkv h2;obtain ⟨vcs,vp1,vp2⟩:=pw hvv h3;obtain ⟨b,es,ck,k1,k2,k3,k4,k5,k6,k7⟩:=hs.map hn;have hmv:a.eval m=.map (some b):=by
  obtain ⟨cs,q1,q2⟩:=h1;simp only[ai] at q2;obtain ⟨b',q3,q4⟩:=q2;rw[k1] at q3;cases q3;simpa[bM,I.isAgg,q4] using q1.symm
 -- the new entries
 have step:∀ (es':Array MapEntry) (ck':Nat),(Instr.mapUpdate t (.map (some b)) (a.eval k) (a.eval v)).run c.P w=.ok () (w.putObj b (.map es' ck'))→qG es' ck'→aJ w D E ks' (es'.toList.map (·.key))→aJ w D E vs' (es'.toList.map (·.val)) →
   ∃ w',((∃ u,(execOp a.eval o).run c.P w=.ok (.value u) w'∧ct c (A.aO n (.cC ks' vs')) (a.put o.dst u) w')∨((execOp a.eval o).run c.P w=.ok .skip w'∧ct c (A.aO n (.cC ks' vs')) (a.put o.dst undef) w')):=fun es' ck' hrun hst hks hvs=>by
  refine ⟨w.putObj b (.map es' ck'),.inr ⟨?_,?_⟩⟩
  ·rcases ho with ho | ho <;>simp only[execOp,ho,hmv,Sem.run_bind,hrun,Result.andThen_ok,Sem.run_pure]
  ·rw[ae];have:=hs.MR (o':=.map es' ck') (x:=.cC ks' vs') k1 rfl rfl k3 rfl (fun q=>by simp) k2 (fun hl' hh hno=>⟨b,es',ck',k1,k2,hh,hst,aJ.bN hl' _ _ hks,aJ.bN hl' _ _ hvs,hno⟩);exact ⟨D,E,this⟩
 split at hl
 ·rename_i i hfi;simp only[t7,Prod.mk.injEq] at hl;obtain ⟨rfl,rfl⟩:=hl;obtain ⟨q,q1,q2⟩:=te hk h2 k5 hfi;rcases q2 with ⟨e,_⟩ | ⟨j,e,e1,e2,rfl⟩
  ·cases e
  simp only[zz4,t7] at e1;subst e1;obtain ⟨y,y1,_,y2⟩:=DO hfi;simp only[Nat.sub_zero] at y1;obtain ⟨y',y3,y4⟩:=m9 (j:=i) (v:=e.key) k5 (by simp only[zw5,e2,zy5]);rw[y1,t7] at y3;subst y3;obtain ⟨_,kk2,kk3⟩:=ah7 hk y2 h2 y4;have hes:es[i]?=some e:=by rw[←zv6];exact e2
  have hlen:i<es.size:=(zx7.1 hes).1;refine step (es.modify i fun e => { e with key:=a.eval k,val:=a.eval v }) ck ?_ ?_ ?_ ?_
  ·have hsb:Instr.sameBits 10000 (((es[i]?).map (·.key)).getD (a.eval k)) (a.eval k)=true:=by
    rw[hes];simp only[zy5,Option.getD_some];rw[←kk2];rw[←kk2] at kk3;exact kk3
   simp only[Instr.mapUpdate,Sem.run_bind,run_underlying hu,Result.andThen_ok,MapKept.run_getObj_map k3,hchk,q1,zz4,Instr.keyThatStays,hsb,if_true,Sem.run_pure,MapKept.run_setObj_map _ k3];rfl
  all_goals
   have em:(es.modify i fun e => { e with key:=a.eval k,val:=a.eval v }).toList=es.toList.set i { e with key:=a.eval k,val:=a.eval v } :=by
    rw[Array.toList_modify];apply List.ext_getElem?;intro j;rw[List.getElem?_modify,List.getElem?_set];by_cases hij:i=j
    ·subst hij;have hge:es[i]'hlen=e:=(zx7.1 hes).2;simp[hlen,hge]
    ·simp[hij]
  ·refine ⟨fun x hx =>?_,?_⟩
   ·rw[em] at hx;rcases List.mem_or_eq_of_mem_set hx with hx | rfl
    ·exact k4.1 x hx
    ·exact k4.1 e (List.mem_of_getElem? e2)
   ·rw[em];have:(es.toList.set i { e with key:=a.eval k,val:=a.eval v }).map (·.born)=es.toList.map (·.born):=by
     rw[List.map_set];apply List.ext_getElem?;intro j;rw[List.getElem?_set];split
     ·rename_i hij;subst hij;simp[e2];exact hlen
     ·rfl
    rw[this];exact k4.2
  ·rw[em,List.map_set];have:(es.toList.map (·.key)).set i (a.eval k)=es.toList.map (·.key):=by
    apply List.ext_getElem?;intro j;rw[List.getElem?_set];split
    ·rename_i hij;subst hij;simp[e2,kk2];exact hlen
    ·rfl
   simp only[this];exact k5
  ·rw[em,List.map_set];exact MK k6 vp1 vp2
 ·rename_i hfi;simp only[t7,Prod.mk.injEq] at hl;obtain ⟨rfl,rfl⟩:=hl;obtain ⟨q,q1,q2⟩:=te hk h2 k5 hfi;rcases q2 with ⟨_,rfl⟩ | ⟨j,e,e1,_⟩
  case inr=>cases e1
  refine step (es.push { key:=a.eval k,val:=a.eval v,born:=ck }) (ck+1) ?_ ⟨fun x hx =>?_,?_⟩ ?_ ?_
  ·simp only[Instr.mapUpdate,Sem.run_bind,run_underlying hu,Result.andThen_ok,MapKept.run_getObj_map k3,hchk,q1,MapKept.run_setObj_map _ k3];rfl
  ·simp only[Array.toList_push,zy6,zv7] at hx;rcases hx with hx | rfl
   ·have:=k4.1 x hx;omega
   ·simp
  ·simp only[Array.toList_push,zx4,zz9,zx3];refine List.nodup_append.2 ⟨k4.2,by simp,fun x hx y hy =>?_⟩;simp only[zv7] at hy;subst hy;obtain ⟨e,he,rfl⟩:=zx2.1 hx;exact Nat.ne_of_lt (k4.1 e he)
  ·simp only[Array.toList_push,zx4,zz9,zx3];exact zj k5 (MJ kp1 kp2)
  ·simp only[Array.toList_push,zx4,zz9,zx3];exact zj k6 (MJ vp1 vp2)
 ·cases hl
theorem Xp{t kt et:TypeId}{y:Operand}{y':aM}{ks vs:List I}{d:Nat}(ho:o.op=.range t y)(hu:c.P.underlying t=some (.map kt et))(hy:bH c.P 0 y=some y')(h:ah A y'=.cM ks vs)(ae:o.dst=some d)(hn:d<c.n)(hf:A.o d=none) :
  iw c A o ((A.aO d (.it ks vs (List.range ks.length) none)).put d (.dx d)):=by
 intro a w D E hs;have h1:=ca hs hy;rw[h] at h1;obtain ⟨cs,q1,q2⟩:=h1;simp only[ai] at q2;obtain ⟨b,es,ck,q3,q4,q5,q6⟩:=q2;have hv:a.eval y=.map (some b):=by simpa[bM,I.isAgg,q3] using q1.symm
 have h2:=hs.aiY (.inl hn) hf q4 q5 q6;have h3:=h2.put (x:=.dx d) (v:=.pointer (some ⟨w.heap.size,0,none⟩)) hn ⟨_,by simp[bM,I.isAgg];rfl,by
  simp only[ai,if_true];exact ⟨w.heap.size,rfl,rfl⟩⟩
 refine ⟨w.alloc (.mapIter (some b) ck #[] ck),.inl ⟨.pointer (some ⟨w.heap.size,0,none⟩),?_,D,_,by rw[ae];exact h3⟩⟩;simp only[execOp,ho,hv,Sem.run_bind,run_range_map w t kt et b es ck hu q4.1,Result.andThen_ok,Sem.run_pure]
theorem Jp{es:Array MapEntry}{bA:Array Nat}{i:Nat} : i∈oQ es bA↔∃ e,es[i]?=some e∧bA.contains e.born=false:=by
 unfold oQ;simp only[zw4,zw7];constructor
 ·rintro ⟨h1,h2⟩;rw[Array.getElem?_eq_getElem h1] at h2 ⊢;exact ⟨_,rfl,by simpa using h2⟩
 ·rintro ⟨e,h1,h2⟩;exact ⟨(zx7.1 h1).1,by rw[h1];simpa using h2⟩
theorem alL{es:Array MapEntry}{ck:Nat}(hst:qG es ck){i j:Nat}{e f:MapEntry}(hi:es[i]?=some e)(hj:es[j]?=some f)(h:e.born=f.born):i=j:=by
 have hn:=hst.2;rw[←zv6] at hi hj;have h1:(es.toList.map (·.born))[i]?=some e.born:=by rw[zw5,hi];rfl
 have h2:(es.toList.map (·.born))[j]?=some e.born:=by rw[zw5,hj,h];rfl
 have hil:i<(es.toList.map (·.born)).length:=(zy4.1 h1).1;have hjl:j<(es.toList.map (·.born)).length:=(zy4.1 h2).1;exact (List.getElem?_inj hil hn).1 (h1.trans h2.symm)
theorem aiq{es:Array MapEntry}{bA:Array Nat}{ck i:Nat}{e:MapEntry}(hst:qG es ck)(hi:es[i]?=some e):oQ es (bA.push e.born)=(oQ es bA).filter (· != i):=by
 unfold oQ;rw[List.filter_filter];refine List.filter_congr fun j hj =>?_;have hjl:j<es.size:=by simpa using hj
 rw[Array.getElem?_eq_getElem hjl];simp only[Array.contains_push];by_cases hij:j=i
 ·subst hij;rw[Array.getElem?_eq_getElem hjl,t7] at hi;simp[hi]
 ·have:(es[j].born==e.born)=false:=by
   simp only[beq_eq_false_iff_ne,ne_eq];exact fun h=>hij (alL hst (Array.getElem?_eq_getElem hjl) hi h)
  have h2:(j != i)=true:=by simpa using hij
  simp[this,h2]
theorem ai0{y:Operand}{y':aM}{ks vs:List I}{left:List Nat}{cur:Option Nat}{n:Nat}(ho:o.op=.next y false)(hy:bH c.P 0 y=some y')(h:ah A y'=.dx n)(hn:A.o n=some (.it ks vs left cur))(hdn:∀ k,o.dst=some k→k<c.n){a:Act}{w:World}{D:aT}{E:aW}(hs:aU c A a w D E) :
  ∃ w' v,(execOp a.eval o).run c.P w=.ok (.value v) w'∧((left=[]∧ct c (A.aP o.dst (.tuple [.bool false])) (a.put o.dst v) w') ∨
   ∃ i k x,i∈left∧ks[i]?=some k∧vs[i]?=some x∧ct c ((A.aO n (.it ks vs (left.filter (· != i)) (some i))).aP o.dst (.tuple [.bool true,k,x])) (a.put o.dst v) w'):=by
 have h1:=ca hs hy;rw[h] at h1;obtain ⟨cs,q1,q2⟩:=h1;simp only[ai] at q2;obtain ⟨r,q3,q4⟩:=q2;have hv:a.eval y=.pointer (some ⟨r,0,none⟩):=by simpa[bM,I.isAgg,q4] using q1.symm
 have hob:=hs.bT n;rw[hn] at hob;obtain ⟨r',b,es,ck,since,bA,last,k1,k2,k3,k4,k5,k6,k7,k8,k9,k9',k10⟩:=hob;rw[k1] at q3;cases q3;rcases run_next_at (P:=c.P) w o.type r b since last bA es ck k3 k4.1 k7 k8.1 with ⟨h0,hrun⟩ | ⟨e,he,w1,hal,hrun⟩
 ·refine ⟨w,.tuple #[.bool false],by simp only[execOp,ho,hv,Sem.run_bind,hrun,Result.andThen_ok,Sem.run_pure],.inl ⟨?_,D,E,hs.aP hdn ?_⟩⟩
  ·rw[k9];refine List.eq_nil_iff_forall_not_mem.2 fun i hi =>?_;obtain ⟨e,h1,h2⟩:=Jp.1 hi;have hm:e∈leftOf es bA:=by
    unfold leftOf;simp only[Array.mem_filter];exact ⟨Array.mem_of_getElem? h1,by simpa using h2⟩
   rw[Array.eq_empty_of_size_eq_zero h0] at hm;simp at hm
  ·simp only[aV,aJ];exact ⟨[.bool false],rfl,.bool false,[],[.bool false],rfl,by simp[bM,I.isAgg],by simp[ai],rfl⟩
 ·have hmem:e∈es.toList∧bA.contains e.born=false:=by
   unfold leftOf at he;simp only[Array.toList_filter,zw4] at he;exact ⟨he.1,by simpa using he.2⟩
  obtain ⟨i,hi⟩:=List.getElem?_of_mem hmem.1;have hie:es[i]?=some e:=by rw[←zv6];exact hi
  obtain ⟨k,hk1,hk2⟩:=m9 (j:=i) (v:=e.key) k5 (by simp only[zw5,hi,zy5]);obtain ⟨x,hx1,hx2⟩:=m9 (j:=i) (v:=e.val) k6 (by simp only[zw5,hi,zy5]);have hsw:aU c A a w1 D E:=by
   rcases hal with rfl | rfl
   ·exact hs
   ·exact hs.grow (w':=w.drew) (D':=D) ⟨rfl,rfl,rfl,zz8 _,fun _ _=>rfl⟩ (fun _ _ h=>h) (fun _ _ h _=>h) (fun b o ae=>hs.dm b o ae)
  have hw1:w1.heap=w.heap:=by rcases hal with rfl | rfl <;>rfl
  have k3':w1.heap[r]?=some (.mapIter (some b) since bA last):=by rw[hw1];exact k3
  have hset:=hsw.MR (x:=.it ks vs (left.filter (· != i)) (some i)) (o':=.mapIter (some b) since (bA.push e.born) ck) k1 rfl rfl k3' rfl (fun q=>by simp) k2
   (fun hl hh hno=>by
    have hm:oX w1 D b es ck:=⟨by rw[hw1];exact k4.1,k4.2.1,k4.2.2⟩
    have hob:=hsw.bT n;rw[hn] at hob;refine ⟨r,b,es,ck,since,bA.push e.born,ck,k1,k2,hh,hm.bN hl,aJ.bN hl _ _ ?_,aJ.bN hl _ _ ?_,k7,?_,?_,fun j hj =>?_,hno⟩
    ·obtain ⟨dP,b2,es2,ck2,si2,se2,la2,g1,g2,g3,g4,g5,g6,_⟩:=hob;rw[k1] at g1;cases g1;rw[k3'] at g3;cases g3;have:=g4.1;rw[hw1,k4.1] at this;cases this;exact g5
    ·obtain ⟨dP,b2,es2,ck2,si2,se2,la2,g1,g2,g3,g4,g5,g6,_⟩:=hob;rw[k1] at g1;cases g1;rw[k3'] at g3;cases g3;have:=g4.1;rw[hw1,k4.1] at this;cases this;exact g6
    ·exact ⟨k8.2,k8.2⟩
    ·rw[k9,aiq k4.2.2 hie]
    ·cases hj;exact ⟨e,hie,by simp,rfl⟩)
  have hset':aU c (A.aO n (.it ks vs (left.filter (· != i)) (some i))) a (ChangeMaps.setBlock w1 r (.mapIter (some b) since (bA.push e.born) ck)) D E:=hset;refine ⟨_,.tuple #[.bool true,e.key,e.val],by simp only[execOp,ho,hv,Sem.run_bind,hrun,Result.andThen_ok,Sem.run_pure],.inr ⟨i,k,x,?_,hk1,hx1,D,E,hset'.aP hdn ?_⟩⟩
  ·rw[k9];exact Jp.2 ⟨e,hie,hmem.2⟩
  ·have hob2:=hset'.bT n;simp only[af.aO,if_true] at hob2;obtain ⟨dP,b2,es2,ck2,si2,se2,la2,g1,g2,g3,g4,g5,g6,_⟩:=hob2;rw[k1] at g1;cases g1;have hr2:(ChangeMaps.setBlock w1 r (.mapIter (some b) since (bA.push e.born) ck)).heap[r]?=some (.mapIter (some b) since (bA.push e.born) ck):=World.putObj_heap_same (w:=w1) (gb k3');rw[hr2] at g3;cases g3;have hb2:(ChangeMaps.setBlock w1 r (.mapIter (some b) since (bA.push e.born) ck)).heap[b]?=some (.map es ck):=by
    have:b≠r:=fun e=>by rw[e] at k4;rw[k4.1] at k3;cases k3
    refine (World.putObj_heap_other (w:=w1) this).trans ?_;rw[hw1];exact k4.1
   have:=g4.1;rw[hb2] at this;cases this;obtain ⟨kk,a1,a2⟩:=m9 (j:=i) (v:=e.key) g5 (by simp only[zw5,hi,zy5]);rw[hk1] at a1;cases a1;obtain ⟨xx,b1,b2⟩:=m9 (j:=i) (v:=e.val) g6 (by simp only[zw5,hi,zy5]);rw[hx1] at b1;cases b1;obtain ⟨c1,c2,c3⟩:=pw (qB k5 hk1) a2;obtain ⟨d1,d2,d3⟩:=pw (qB k6 hx1) b2;simp only[aV,aJ];exact ⟨[.bool true,e.key,e.val],rfl,.bool true,_,[.bool true],rfl,by simp[bM,I.isAgg],by simp[ai],e.key,_,c1,rfl,c2,c3,e.val,[],d1,rfl,d2,d3,rfl⟩
theorem ahk{y:Operand}{y':aM}{ks vs:List I}{left:List Nat}{i n:Nat}{k x:I}(ho:o.op=.entry y)(hy:bH c.P 0 y=some y')(h:ah A y'=.dx n)(hn:A.o n=some (.it ks vs left (some i)))(hk:ks[i]?=some k)(hx:vs[i]?=some x):dR c A o (.tuple [k,x]) :=
 .same fun a w D E hs=>by
  have h1:=ca hs hy;rw[h] at h1;obtain ⟨cs,q1,q2⟩:=h1;simp only[ai] at q2;obtain ⟨r,q3,q4⟩:=q2;have hv:a.eval y=.pointer (some ⟨r,0,none⟩):=by simpa[bM,I.isAgg,q4] using q1.symm
  have hob:=hs.bT n;rw[hn] at hob;obtain ⟨r',b,es,ck,since,bA,last,k1,k2,k3,k4,k5,k6,k7,k8,k9,k9',k10⟩:=hob;rw[k1] at q3;cases q3;obtain ⟨e,e1,e2,rfl⟩:=k9' i rfl;have hi:es.toList[i]?=some e:=by rw[zv6];exact e1
  obtain ⟨kk,a1,a2⟩:=m9 (j:=i) (v:=e.key) k5 (by simp only[zw5,hi,zy5]);rw[hk] at a1;cases a1;obtain ⟨xx,b1,b2⟩:=m9 (j:=i) (v:=e.val) k6 (by simp only[zw5,hi,zy5]);rw[hx] at b1;cases b1;obtain ⟨c1,c2,c3⟩:=pw (qB k5 hk) a2;obtain ⟨d1,d2,d3⟩:=pw (qB k6 hx) b2;have hf:es.find? (·.born==e.born)=some e:=by rw[←Array.find?_toList];exact find_born e es.toList k4.2.2.2 (List.mem_of_getElem? hi)
  refine ⟨.tuple #[e.key,e.val],?_,?_⟩
  ·have hr:(Instr.entry (.pointer (some ⟨r,0,none⟩))).run c.P w=.ok (.tuple #[e.key,e.val]) w:=by
    simp only[Instr.entry,getObj,Sem.run_bind,Sem.run,k3,k4.1,Result.andThen,e2,bne_self_eq_false,zz6,if_false,hf];rfl
   simp only[execOp,ho,hv,Sem.run_bind,hr,Result.andThen_ok,Sem.run_pure]
  ·simp only[aV,aJ];exact ⟨[e.key,e.val],rfl,e.key,_,c1,rfl,c2,c3,e.val,[],d1,rfl,d2,d3,rfl⟩
theorem Mj{w:World}{D:aT}{E:aW}{z:I}{v:Value}(h:ai w D E z [v]):∀ n:Nat,aL w D E (List.replicate n z) (List.replicate n v)
 |0=>by simp[aL]
 |n+1=>by simp only[List.replicate_succ,aL];exact ⟨[v],_,rfl,h,Mj h n⟩
theorem Xo{t e:TypeId}{l l':Operand}{n':aM}{z:I}{n d:Nat}{k:IntKind}(ho:o.op=.makeSlice t l l')(hll:l'=l)(hu:c.P.underlying t=some (.slice e))(hl:bH c.P 0 l=some n')(h:ah A n'=.int k n)(hz:gf c.P e=some z)(hz1:z.size=1)
  (hc1:c.P.cellsOf e=1) (hby:n*c.P.bytesOf e≤281474976710656) (hmax:n≤maxLen) (ae:o.dst=some d) (hn:d<c.n) (hf:A.o d=none):iw c A o ((A.aO d (.box (.agg (List.replicate n z)))).put d (.view d [] 1 0 n)):=by
 subst hll;intro a w D E hs;have h1:=ca hs hl;rw[h] at h1;obtain ⟨e1,_⟩:=fC h1;obtain ⟨i,zv,hi,hzz,hzr⟩:=mA hz;have hzc:=ai.length _ _ (hzr w D E);rw[hz1] at hzc;obtain ⟨u,hu1⟩:∃ u,zv.cells = #[u]:=by
  have:zv.cells.size=1:=by simpa using hzc
  obtain ⟨u,hu⟩:=Array.size_eq_one_iff.1 this;exact ⟨u,hu⟩
 have hsz:i.size=1:=by have:=hc1;simp only[Program.cellsOf,hi,zy5,Option.getD_some] at this;exact this
 have hbytes:(i.bytes:Int)*(n:Int)≤281474976710656:=by
  have:c.P.bytesOf e=i.bytes:=by simp[Program.bytesOf,hi]
  rw[this] at hby;have h2:((i.bytes*n:Nat):Int)≤281474976710656:=by rw[Nat.mul_comm] at hby;omega
  rwa [Int.natCast_mul] at h2
 have hrun:=run_make (P:=c.P) w t e i zv hu hi hzz k k n n (by omega) (Int.le_refl _) hbytes (by have h9:=hmax;unfold maxLen at h9;omega);simp only[Int.toNat_natCast,hsz,Nat.mul_one] at hrun;have hmc:(madeCells zv.cells n).toList=List.replicate n u:=by
  rw[hu1];simp only[madeCells];apply List.ext_getElem?;intro j;simp[List.getElem?_replicate];split <;>simp_all[Nat.mod_one]
 have hcells:ai w D E (.agg (List.replicate n z)) (madeCells zv.cells n).toList:=by
  rw[hmc];simp only[ai];refine Mj ?_ n;have:=hzr w D E;rw[hu1] at this;simpa using this
 have h2:=hs.rG (T:=e) (.inl hn) hf hcells;have h3:=h2.put (x:=.view d [] 1 0 n) (v:=.slice (some ⟨w.heap.size,0,none⟩) n n) hn ⟨_,by simp[bM,I.isAgg];rfl,by
  simp only[ai,if_true];refine ⟨w.heap.size,_,0,I.cU (List.replicate n z),rfl,by simp[cW.off],by simp[I.aS,cW.part],by simp[I.dy],by simpa[I.dy] using hmax,by simp[I.dy],fun s hs =>?_⟩;rw[I.dy] at hs;obtain ⟨y,hy,rfl⟩:=zx2.1 hs;rw[I.my,(List.mem_replicate.1 hy).2,hz1]⟩
 refine ⟨_,.inl ⟨_,?_,D,_,by rw[ae];exact h3⟩⟩;simp only[execOp,ho,e1,Sem.run_bind,hrun,Result.andThen_ok,Sem.run_pure]
end
end Go.Abs
namespace Go.Abs
open Go Go.RowKit
mutual
/-- Values that lead to no memory. -/
def I.flat:I→Bool
 | .agg fs | .tuple fs=>I.pZ fs
 | .bool _ | .int _ _ | .c6 _ | .nilp | .dh | .dW | .raw _ | .undef | .de=>true
 |_=>false
def I.pZ:List I→Bool
 | []=>true
 |x::xs=>x.flat&&I.pZ xs
end
mutual
theorem ai.flat{w w':World}{D D':aT}{E E':aW} : ∀ (x:I) (cs:List Value),x.flat=true→ai w D E x cs→ai w' D' E' x cs
 | .agg fs,cs,hf,hr=>by simp only[ai,I.flat] at *;exact aL.flat fs cs hf hr
 | .bool b,cs,_,hr=>by simpa only[ai] using hr
 | .int k n,cs,_,hr=>by simpa only[ai] using hr
 | .c6 s,cs,_,hr=>by simpa only[ai] using hr
 | .nilp,cs,_,hr=>by simpa only[ai] using hr
 | .dh,cs,_,hr=>by simpa only[ai] using hr
 | .dW,cs,_,hr=>by simpa only[ai] using hr
 | .raw _,cs,_,hr=>by simpa only[ai] using hr
 | .undef,_,_,hr=>by simp only[ai] at hr
 | .de,_,_,hr=>by simp only[ai] at hr
 | .tuple _,_,_,hr=>by simp only[ai] at hr
 | .nils _,_,hf,_ | .c0 _,_,hf,_ | .slice _ _,_,hf,_ | .ref _,_,hf,_ | .func _ _,_,hf,_ | .iface _ _,_,hf,_ | .ptr _ _,_,hf,_ | .own _ _,_,hf,_ | .view _ _ _ _ _,_,hf,_ | .mref _,_,hf,_ | .dx _,_,hf,_ | .cM _ _,_,hf,_=>by simp[I.flat] at hf
theorem aL.flat{w w':World}{D D':aT}{E E':aW} : ∀ (xs:List I) (cs:List Value),I.pZ xs=true→aL w D E xs cs→aL w' D' E' xs cs
 | [],cs,_,hr=>by simpa only[aL] using hr
 |x::xs,cs,hf,hr=>by
  simp only[aL,I.pZ,zz3] at *;obtain ⟨c1,c2,h1,h2,h3⟩:=hr;exact ⟨c1,c2,h1,ai.flat x c1 hf.1 h2,aL.flat xs c2 hf.2 h3⟩
end
theorem aJ.flat{w w':World}{D D':aT}{E E':aW} : ∀ (xs:List I) (vs:List Value),I.pZ xs=true→aJ w D E xs vs→aJ w' D' E' xs vs
 | [],vs,_,hr=>by simpa only[aJ] using hr
 |x::xs,vs,hf,hr=>by
  simp only[aJ,I.pZ,zz3] at *;obtain ⟨v,rest,cs,h1,h2,h3,h4⟩:=hr;exact ⟨v,rest,cs,h1,h2,ai.flat x cs hf.1 h3,aJ.flat xs rest hf.2 h4⟩
theorem aV.flat{w w':World}{D D':aT}{E E':aW}{x:I}{v:Value}(hf:x.flat=true)(hr:aV w D E x v):aV w' D' E' x v:=by
 cases x <;>simp only[aV] at * <;>first
  |exact hr
  |(obtain ⟨vs,h1,h2⟩:=hr;exact ⟨vs,h1,aJ.flat _ _ (by simpa[I.flat] using hf) h2⟩)
  |(obtain ⟨cs,h1,h2⟩:=hr;exact ⟨cs,h1,ai.flat _ _ hf h2⟩)
def dD:aW:=fun _=>none
def aB(P:Program)(f:FuncId)(args:List I)(r:I):Prop :=
 gU P f=true∧∀ (w:World) (D:aT) (vs:List Value),(∀ b o,D b o→b<w.heap.size)→aJ w D dD args vs →
  Calls P f vs.toArray w fun e w'=>∃ v D',e=.returned v∧aV w' D' dD r v∧Below w.heap.size w w'∧(∀ b o,D' b o→b<w'.heap.size)∧∀ b o,D' b o→b<w.heap.size→D b o
def cH(P:Program)(f:FuncId)(args:List I)(os:List (Nat×aj))(post:cV):Prop :=
 gU P f=true∧qL (Calls P f) (fun _ _ _=>True) args os post
def bE(p:Nat→Bool):List (Nat×aj)→Prop
 | []=>True
 |(_,v)::r=>v.only p=true∧bE p r
def cJ(ns:List Nat)(os:List (Nat×aj)):List (Nat×aj):=os.filter fun q => !ns.contains q.1
def fF(ns:List Nat)(ts:List (Nat×I)):List (Nat×I):=ts.map fun q=>(q.1,if q.2.only (fun n => !ns.contains n) then q.2 else .de)
def fR(ns:List Nat)(os:List (Nat×aj)):List (Nat×aj):=os.filter fun q=>ns.contains q.1
def kb(ρ:List (Nat×Nat))(os:List (Nat×aj)):List Nat:=os.map fun q=>bD ρ q.1
def jD(aD:Bool)(A0:af)(ρ:List (Nat×Nat))(os:List (Nat×aj)):List I→List I→Prop
 | [],[]=>True
 |x::xs,c::cs=>((x=c.aQ (bD ρ)∧c.only (av os)=true∧c.cn=true)∨a6 aD A0 x=some c)∧jD aD A0 ρ os xs cs
 |_,_=>False
structure aC where
 dst:Option Nat
 op:b9
 guard:Option (Nat×Bool)
 deriving Inhabited
inductive cQ where
 |done (A:af)
 |fail
 |call (f:FuncId) (avs:List I) (a1 a2:Option (List I)) (dst:Option Nat) (rest:List aC) (A:af)
 |pO (v:Value) (avs:List I) (dst:Option Nat) (rest:List aC) (A:af)
 |kN (f:FuncId) (avs:List I) (dst:Option Nat) (rest:List aC) (A:af)
 |any (p:Nat→Prop) (k:Nat→cQ)
def cY(x:Option I)(k:I→cQ):cQ:=match x with
 |some v=>k v
 |none=>.fail
def yE(s:Option Nat)(v old:I):Prop:=v.cn=true∧b8 s v=true∧v.aS=old.aS
def yw(e esz bytes l sz:Nat)(ys:List I)(T sz':Nat)(es:List I):Prop:=l=es.length∧sz=esz∧T=e∧sz'=esz∧ys≠[]∧es.length+ys.length≤maxLen∧(es.length+ys.length)*bytes≤140737488355328
def rr(ys:List I):List Int:=ys.filterMap fun y=>match y with | .int .i64 i=>some i | _=>none
def yx(e esz bytes l:Nat)(ys:List I)(T:Nat)(xs:List Int)(z:I):Prop:=l=xs.length∧esz=1∧T=e∧z=.int .i64 0∧ys=(rr ys).map (.int .i64)∧ys≠[]∧xs.length+ys.length≤maxLen∧(xs.length+ys.length)*bytes≤140737488355328
def kj:I→Bool
 | .slice _ es=>es.isEmpty
 | .c0 _=>true
 |_=>false
open Classical in
noncomputable def gu(A:af)(dst:Option Nat)(esz bytes:Nat)(z:I)(es ys:List I)(k:af→cQ):cQ :=
 match dst with
 |some d=>match A.o d with
  |none=>if (es.length+ys.length)*bytes≤140737488355328∧es.length+ys.length≤maxLen then
    .any (fun m=>es.length+ys.length+m≤maxLen) (fun m=>k ((A.aO d (.box (.agg (es++(ys++List.replicate m z))))).aP dst (.view d [] esz 0 (es.length+ys.length)))) else .fail
  |some _=>.fail
 |none=>.fail
open Classical in
noncomputable def fq(A:af)(dst:Option Nat)(esz bytes:Nat)(z:I)(s:I):Option (List I)→Option (List I)→(af→cQ)→cQ
 |some es,some ys,k=>if ys=[] then k (A.aP dst s) else match s with
  | .nils _=>gu A dst esz bytes z es ys k
  | .c0 _=>gu A dst esz bytes z es ys k
  | .view n p sz lo l=>match A.o n with
   |some (.box b)=>match b.at p with
    |some (.agg fs)=>if lo+l+ys.length≤fs.length then
      (if sz=esz∧I.cU ys=I.cU ((fs.drop (lo+l)).take ys.length) then k ((A.aO n (.box (iP b p (lo+l) fs ys))).aP dst (.view n p esz lo (l+ys.length))) else .fail)
      else gu A dst esz bytes z es ys k
    |_=>.fail
   |_=>.fail
  |_=>.fail
 |_,_,_=>.fail
open Classical in
noncomputable def vB(A:af)(dst:Option Nat)(esz bytes:Nat)(z:I)(m:Nat)(s:I):Option (List I)→(af→cQ)→cQ
 |some es,k=>match s with
  | .view n p _ lo l=>match A.o n with
   |some (.box b)=>match b.at p with
    |some (.agg fs)=>if 0<m∧fs.length<lo+l+m then gu A dst esz bytes z es (List.replicate m z) k else .fail
    |_=>.fail
   |_=>.fail
  |_=>.fail
 |_,_=>.fail
open Classical in
noncomputable def ny(A:af)(esz:Nat)(z:I)(k:af→cQ):I→cQ
 | .view n p sz lo l=>match A.o n with
  |some (.box b)=>match b.at p with
   |some (.agg fs)=>if sz=esz∧I.cU (List.replicate l z)=I.cU ((fs.drop lo).take l) then k (A.aO n (.box (iP b p lo fs (List.replicate l z)))) else .fail
   |_=>.fail
  |_=>.fail
 | .nils _=>k A
 | .c0 _=>k A
 |_=>.fail
open Classical in
noncomputable def sS(A:af)(dst:Option Nat)(esz:Nat)(k:af→cQ):I→Option (List I)→cQ
 | .view n p sz lo l,some ys=>match A.o n with
  |some (.box b)=>match b.at p with
   |some (.agg fs)=>if sz=esz∧I.cU (ys.take (min ys.length l))=I.cU ((fs.drop lo).take (min ys.length l)) then k ((A.aO n (.box (iP b p lo fs (ys.take (min ys.length l))))).aP dst (.int .i64 (min ys.length l:Nat))) else .fail
   |_=>.fail
  |_=>.fail
 |_,_=>.fail
open Classical in
noncomputable def bn(A:af)(dst:Option Nat)(op:b9)(rest:List aC)(k:af→cQ):cQ :=
 match op with
 | .alloc z=>match dst with
  |some d=>match A.o d with
   |none=>k ((A.aO d (.box z)).put d (.ptr d []))
   |some _=>.fail
  |none=>.fail
 | .box x=>match dst with
  |some d=>match A.o d with
   |none=>if (ah A x).cn then k ((A.aO d (.box (ah A x))).put d (.ptr d [])) else .fail
   |some _=>.fail
  |none=>.fail
 | .br s x v=>match dst with
  |none=>match ah A x with
   | .ptr n p=>match A.o n with
    |some (.box b)=>match b.at p with
     |some old=>if yE s (ah A v) old then k (A.aO n (.box (b.dM p (ah A v)))) else .fail
     |none=>.fail
    |_=>.fail
   |_=>.fail
  |some _=>.fail
 | .c7 e esz bytes z s x=>match ah A s with
  | .own n l=>match ah A x with
   | .slice sz ys=>match A.o n with
    |some (.bR T sz' es)=>if yw e esz bytes l sz ys T sz' es then k ((A.aO n (.bR e esz (es++ys))).aP dst (.own n (es.length+ys.length))) else .fail
    |some (.c5 T xs)=>if yx e esz bytes l ys T xs z then k ((A.aO n (.c5 e (xs++rr ys))).aP dst (.own n (xs.length+ys.length))) else .fail
    |_=>.fail
   |_=>.fail
  |s'=>fq A dst esz bytes z s' (eD A esz s') (eD A esz (ah A x)) k
 | .mF _ esz bytes z s n=>match ah A n with
  | .int _ m=>vB A dst esz bytes z m.toNat (ah A s) (eD A esz (ah A s)) k
  |_=>.fail
 | .nilS neg x=>if kj (ah A x) then .any (fun m=>m<2) (fun m=>k (A.aP dst (.bool (m==0)))) else cY (bt A (.nilS neg x)) fun v=>k (A.aP dst v)
 | .jH esz z x=>match dst with
  |none=>ny A esz z k (ah A x)
  |some _=>.fail
 | .lR esz x y=>sS A dst esz k (ah A x) (eD A esz (ah A y))
 | .call f args=>.call f (args.map (ah A)) (bV true A (args.map (ah A))) (bV false A (args.map (ah A))) dst rest A
 | .eF x args=>match ah A x with
  | .func f caps=>.call f (args.map (ah A)++caps) (bV true A (args.map (ah A)++caps)) (bV false A (args.map (ah A)++caps)) dst rest A
  | .raw v=>.pO v (args.map (ah A)) dst rest A
  |_=>.fail
 | .kN f args=>.kN f (args.map (ah A)) dst rest A
 | .jM=>match dst with
  |some d=>match A.o d with
   |none=>k ((A.aO d (.cC [] [])).put d (.mref d))
   |some _=>.fail
  |none=>.fail
 | .ka _ bytes z n=>match dst with
  |some d=>match A.o d with
   |none=>match ah A n with
    | .int _ n=>if 0≤n∧n.toNat*bytes≤281474976710656∧n.toNat≤maxLen then k ((A.aO d (.box (.agg (List.replicate n.toNat z)))).put d (.view d [] 1 0 n.toNat)) else .fail
    |_=>.fail
   |some _=>.fail
  |none=>.fail
 | .gB ty m key v=>match dst with
  |none=>match ah A m with
   | .mref n=>match A.o n with
    |some (.cC ks vs)=>match gl ty (ah A key) (ah A v) ks vs with
     |some (ks',vs')=>k (A.aO n (.cC ks' vs'))
     |none=>.fail
    |_=>.fail
   |_=>.fail
  |some _=>.fail
 | .kg x=>match dst with
  |some d=>match A.o d with
   |none=>match ah A x with
    | .cM ks vs=>k ((A.aO d (.it ks vs (List.range ks.length) none)).put d (.dx d))
    |_=>.fail
   |some _=>.fail
  |none=>.fail
 | .iH x=>match ah A x with
  | .dx n=>match A.o n with
   |some (.it ks vs left cur)=>if left=[] then k (A.aP dst (.tuple [.bool false])) else
     .any (fun i=>i∈left) fun i=>match ks[i]?,vs[i]? with
      |some kk,some x=>k ((A.aO n (.it ks vs (left.filter (· != i)) (some i))).aP dst (.tuple [.bool true,kk,x]))
      |_,_=>.fail
   |_=>.fail
  |_=>.fail
 |op=>cY (bt A op) fun v=>k (A.aP dst v)
noncomputable def aA:List aC→af→cQ
 | [],A=>.done A
 |g::rest,A=>match g.guard with
  |none=>bn A g.dst g.op rest (aA rest)
  |some (t,b)=>match A.t t with
   | .bool b'=>if b'=b then bn A g.dst g.op rest (aA rest) else aA rest (A.aP g.dst .undef)
   | .undef=>aA rest (A.aP g.dst .undef)
   |_=>.fail
def Pd(P:Program)(A:af)(f:FuncId)(avs:List I)(r:I):Prop :=
 ∀ (c:cO) (a:Act) (w:World) (D:aT) (E:aW) (vs:List Value),c.P=P→aU c A a w D E→fW (aV w D E) avs vs→∃ v,(callFunc f vs.toArray).run P w=.ok (.value v) w∧aV w D E r v
inductive bh (P:Program) (Y:Value→List I→List (Nat×aj)→cV→Prop) (dr:Bool) (K:af→Prop):cQ→Prop where
 |done {A:af} : K A→bh P Y dr K (.done A)
 |flat {f:FuncId} {avs cargs:List I} {a2:Option (List I)} {dst:Option Nat} {rest:List aC} {A:af} (r:I):aB P f cargs r→r.flat=true→bh P Y dr K (aA rest (A.aP dst r))→bh P Y dr K (.call f avs (some cargs) a2 dst rest A)
 |lead {f:FuncId} {avs cargs:List I} {a1:Option (List I)} {dst:Option Nat} {rest:List aC} {A:af} (r:I):aB P f cargs r→bh P Y dr K (aA rest (A.aP dst r))→bh P Y dr K (.call f avs a1 (some cargs) dst rest A)
 |gN {f:FuncId} {avs cargs:List I} {a1 a2:Option (List I)} {dst:Option Nat} {rest:List aC} {ts:List (Nat×I)} {os0:List (Nat×aj)} (ns:List Nat) (r:I):dr=false→aB P f cargs r→bV true (au ts (fR ns os0)) avs=some cargs →
   bE (fun n => !ns.contains n) (cJ ns os0)→bh P Y dr K (aA rest ((au (fF ns ts) (cJ ns os0)).aP dst r))→bh P Y dr K (.call f avs a1 a2 dst rest (au ts os0))
 |bT {f:FuncId} {avs:List I} {a1 a2:Option (List I)} {dst:Option Nat} {rest:List aC} {ts:List (Nat×I)} {os0:List (Nat×aj)} (aD:Bool) (ρ:List (Nat×Nat)) (os:List (Nat×aj)) (cargs:List I) (post:cV):dr=false→cH P f cargs os post →
   gh ρ os os0→jD aD (au ts (cJ (kb ρ os) os0)) ρ os avs cargs→(∀ r os',post r os'→eK aD ρ os os0 r os') →
   (∀ r os',post r os'→bh P Y dr K (aA rest ((au ts (dL ρ os'++os0)).aP dst (r.aQ (bD ρ)))))→bh P Y dr K (.call f avs a1 a2 dst rest (au ts os0))
 |zI {v:Value} {avs:List I} {dst:Option Nat} {rest:List aC} {ts:List (Nat×I)} {os0:List (Nat×aj)} (os:List (Nat×aj)) (cargs:List I) (post:cV):dr=false→Y v cargs os post →
   gh [] os os0→jD false (au ts (cJ (kb [] os) os0)) [] os avs cargs→(∀ r os',post r os'→eK false [] os os0 r os') →
   (∀ r os',post r os'→bh P Y dr K (aA rest ((au ts (dL [] os'++os0)).aP dst (r.aQ (bD [])))))→bh P Y dr K (.pO v avs dst rest (au ts os0))
 |ext {f:FuncId} {avs:List I} {dst:Option Nat} {rest:List aC} {A:af} (r:I):dr=false→Pd P A f avs r→bh P Y dr K (aA rest (A.aP dst r))→bh P Y dr K (.kN f avs dst rest A)
 |any {p:Nat→Prop} {k:Nat→cQ} : dr=false→(∀ m,p m→bh P Y dr K (k m))→bh P Y dr K (.any p k)
def Dg(n:Nat):Option Nat→Bool
 |some d=>decide (d<n)
 |none=>true
def oB(P:Program)(n:Nat)(bd:Array Oper)(o:Oper):Option aC :=
 match dz P o with
 |none=>none
 |some g=>if Dg n o.dst=true then
   match o.guard with
   |none=>some ⟨o.dst,g,none⟩
   |some (j,b)=>match (bd[j]?).bind (·.dst) with
    |some t=>some ⟨o.dst,g,some (t,b)⟩
    |none=>none
  else none
def gJ(P:Program)(n:Nat)(bd:Array Oper):List Oper→Option (List aC)
 | []=>some []
 |o::l=>match oB P n bd o,gJ P n bd l with
  |some g,some gs=>some (g::gs)
  |_,_=>none
end Go.Abs
namespace Go.Abs
open Go Go.RowKit
section
variable {c:cO} {A:af} {o:Oper} {x:I}
theorem yR{g:b9}(hg:dz c.P o=some g)(h:bt A g=some x):dR c A o x:=by
 unfold dz at hg;split at hg
 -- move
 ·rename_i y ho;simp only[zz1] at hg;obtain ⟨z,hz,rfl⟩:=hg;simp only[bt,t7] at h;subst h;exact IN (.inl ho) hz
 ·rename_i y ho;simp only[zz1] at hg;obtain ⟨z,hz,rfl⟩:=hg;simp only[bt,t7] at h;subst h;exact IN (.inr ho) hz
 -- pick
 ·rename_i q y z ho;split at hg
  ·rename_i q' y' z' h1 h2 h3;simp only[t7] at hg;subst hg;simp only[bt] at h;split at h
   ·rename_i t ht;simp only[t7] at h;subst h;exact ahB ho h1 h2 h3 ht
   ·cases h
  ·cases hg
 -- binOp
 ·rename_i op t y z yt ho;split at hg
  ·rename_i k y' z' hu h1 h2;simp only[t7] at hg;subst hg;exact IL ho h1 h2 h
  ·rename_i y' z' hu h1 h2;simp only[t7] at hg;subst hg;exact IL ho h1 h2 h
  ·rename_i e y' z' hu h1 h2;split at hg
   ·rename_i s;split at hg
    ·rename_i hop;simp only[t7] at hg;subst hg;have ho':o.op=.binOp (if (op==.neq)=true then .neq else .eql) t y z yt:=by
      rcases hop with rfl | rfl <;>simpa using ho
     simp only[bt] at h;split at h
     ·rename_i s' hs';simp only[t7] at h;subst h;have:=xM (r:=true) ho' hu h1 h2 (.inl ⟨s',hs',rfl⟩);rw[show (if (op==BinOp.neq)=true then !true else true) = !(op==BinOp.neq) from by cases (op==BinOp.neq) <;>rfl] at this;exact this
     ·rename_i s' es hs';split at h
      ·cases h
      ·rename_i hne;simp only[t7] at h;subst h;have:=xM (r:=false) ho' hu h1 h2 (.inr (.inl ⟨s',es,hs',by simpa using hne,rfl⟩));rw[show (if (op==BinOp.neq)=true then !false else false)=(op==BinOp.neq) from by cases (op==BinOp.neq) <;>rfl] at this;exact this
     ·rename_i n p s' lo k hs';simp only[t7] at h;subst h;have:=xM (r:=false) ho' hu h1 h2 (.inr (.inr ⟨n,p,s',lo,k,hs',rfl⟩));rw[show (if (op==BinOp.neq)=true then !false else false)=(op==BinOp.neq) from by cases (op==BinOp.neq) <;>rfl] at this;exact this
     ·cases h
    ·cases hg
   ·cases hg
  ·rename_i e y' z' hu h1 h2;split at hg
   ·rename_i hop;simp only[t7] at hg;subst hg;have ho':o.op=.binOp (if (op==.neq)=true then .neq else .eql) t y z yt:=by
     rcases hop with rfl | rfl <;>simpa using ho
    simp only[bt] at h;cases hb1:ji (ah A y') with
    |none=>rw[hb1] at h;cases h
    |some b1=>cases hb2:ji (ah A z') with
     |none=>rw[hb1,hb2] at h;cases h
     |some b2 =>
      rw[hb1,hb2] at h;simp only[m0] at h;split at h
      ·rename_i hor;simp only[t7] at h;subst h;exact ahC ho' hu h1 h2 hb1 hb2 (by simpa using hor)
      ·cases h
   ·cases hg
  ·rename_i d y' z' _ _ _ _ hu h1 h2;split at hg
   ·rename_i hop;simp only[zz1] at hg;obtain ⟨ty,hty,rfl⟩:=hg;have ho':o.op=.binOp (if (op==.neq)=true then .neq else .eql) t y z yt:=by
     rcases hop.1 with rfl | rfl <;>simpa using ho
    simp only[bt,zz1] at h;obtain ⟨r,hr,rfl⟩:=h;exact ahl ho' h1 h2 hop.2 hty hr
   ·cases hg
  ·cases hg
 -- unOp
 ·rename_i op t y ho;simp only[zz1] at hg;obtain ⟨z,hz,rfl⟩:=hg;simp only[bt] at h;split at h
  ·rename_i b hb;simp only[t7] at h;subst h;exact ahA ho hz hb
  ·rename_i k n hb;simp only[t7] at h;subst h;exact ahz ho hz hb
  ·rename_i k n hb;simp only[t7] at h;subst h;exact ahj ho hz hb
  ·cases h
 -- nilCheck
 ·rename_i y ho;simp only[zz1] at hg;obtain ⟨z,hz,rfl⟩:=hg;simp only[bt] at h;cases hy:ah A z <;>rw[hy] at h <;>simp only[mX,t7] at h <;>try (cases h;done)
  ·subst h;rw[←hy];exact IP ho hz (.inr ⟨_,hy⟩)
  ·subst h;rw[←hy];exact IP ho hz (.inl ⟨_,_,hy⟩)
 -- makeMap
 ·simp only[t7] at hg;subst hg;simp[bt] at h
 -- lookup
 ·rename_i t m k ok ho;split at hg
  ·rename_i kt et m' k' hu h1 h2;split at hg
   ·rename_i ty z hk hz;split at hg
    ·rename_i hp;simp only[t7] at hg;subst hg;simp only[bt] at h;cases hm:gA A (ah A m') with
     |none=>rw[hm] at h;cases h
     |some q =>
      obtain ⟨ks,vs⟩:=q;rw[hm] at h;simp only[rB] at h;cases hl:gz ty z (ah A k') ks vs with
      |none=>rw[hl] at h;cases h
      |some q =>
       obtain ⟨v,b⟩:=q;rw[hl] at h;simp only[rC,t7] at h;subst h;exact ahx ho hu hk hz hp h1 h2 hm hl
    ·cases hg
   ·cases hg
  ·cases hg
 -- mapUpdate,insert
 iterate 2
  ·split at hg
   ·split at hg
    ·simp only[t7] at hg;subst hg;simp[bt] at h
    ·cases hg
   ·cases hg
 -- makeSlice
 ·split at hg
  ·split at hg
   ·split at hg
    ·simp only[t7] at hg;subst hg;simp[bt] at h
    ·cases hg
   ·cases hg
  ·cases hg
 -- range
 ·split at hg
  ·simp only[zz1] at hg;obtain ⟨z,_,rfl⟩:=hg;simp[bt] at h
  ·cases hg
 -- next
 ·simp only[zz1] at hg;obtain ⟨z,_,rfl⟩:=hg;simp[bt] at h
 -- entry
 ·rename_i y ho;simp only[zz1] at hg;obtain ⟨z,hz,rfl⟩:=hg;simp only[bt] at h;split at h
  ·rename_i n hn;split at h
   ·rename_i ks vs left cur hob;cases cur with
    |none=>cases h
    |some i =>
     simp only[nC] at h;split at h
     ·rename_i kk xx hk hx;simp only[t7] at h;subst h;exact ahk ho hz hn hob hk hx
     ·cases h
   ·cases h
  ·cases h
 -- convert
 ·rename_i od dst y ho;split at hg
  ·rename_i k0 k y' h1 h2 h3;simp only[t7] at hg;subst hg;simp only[bt] at h;split at h
   ·rename_i k1 n hn;simp only[t7] at h;subst h;exact ahi ho h1 h2 h3 hn
   ·cases h
  ·cases hg
 -- load
 ·rename_i t y ho;split at hg
  ·rename_i s y' h1 h2;simp only[t7] at hg;subst hg;simp only[bt] at h;split at h
   ·rename_i v hv;split at h
    ·rename_i hok;simp only[t7] at h;subst h;exact ahw ho h1 h2 hv hok
    ·cases h
   ·cases h
  ·cases hg
 -- fieldAddr
 ·rename_i t y f ho;split at hg
  ·rename_i fs y' hu h1;split at hg
   ·rename_i fd hf;split at hg
    ·cases hg
    ·rename_i hz;simp only[t7] at hg;subst hg;simp only[bt] at h;split at h
     ·rename_i gs hgs;split at h
      ·rename_i v hv;split at h
       ·rename_i hoff;simp only[t7] at h;subst h;exact aho ho hu hf hz h1 hgs hv hoff
       ·cases h
      ·cases h
     ·rename_i n p hp;split at h
      ·rename_i gs hgs;split at h
       ·rename_i hoff;simp only[t7] at h;subst h;exact ahn ho hu hf hz h1 hp hgs hoff.1 hoff.2
       ·cases h
      ·cases h
     ·cases h
   ·cases hg
  ·cases hg
 -- field
 ·rename_i t y f ho;split at hg
  ·rename_i fs y' hu h1;split at hg
   ·rename_i fd hf;simp only[zz1] at hg;obtain ⟨s,hs,rfl⟩:=hg;simp only[bt] at h;split at h
    ·rename_i gs hgs;split at h
     ·rename_i v hv;split at h
      ·rename_i hoff;simp only[t7] at h;subst h;exact ahp ho hu hf hs h1 hgs hv hoff.1 hoff.2
      ·cases h
     ·cases h
    ·cases h
   ·cases hg
  ·cases hg
 -- indexAddr
 ·rename_i t y i ho;split at hg
  ·rename_i n e y' i' hu h1 h2;split at hg
   ·rename_i hinfo;obtain ⟨ti,hti⟩:=zw2.1 hinfo;simp only[t7] at hg;subst hg;simp only[bt] at h;split at h
    ·rename_i kk k hk;split at h
     ·rename_i hb;split at h
      ·rename_i gs hgs;split at h
       ·rename_i hev;simp only[zz1] at h;obtain ⟨v,hv,rfl⟩:=h;exact ahr ho hu hti h1 h2 hgs hk hb hev hv
       ·cases h
      ·rename_i m p hp;split at h
       ·rename_i gs hgs;split at h
        ·rename_i hev;simp only[t7] at h;subst h;exact ahq ho hu hti h1 h2 hp hk hb hgs hev
        ·cases h
       ·cases h
      ·cases h
     ·cases h
    ·cases h
   ·cases hg
  ·rename_i e y' i' hu h1 h2;split at hg
   ·rename_i hinfo;obtain ⟨ti,hti⟩:=zw2.1 hinfo;simp only[t7] at hg;subst hg;simp only[bt] at h;split at h
    ·rename_i kk k hk;split at h
     ·rename_i sz es hes;split at h
      ·rename_i hb;obtain ⟨rfl,hb⟩:=hb;simp only[zz1] at h;obtain ⟨v,hv,rfl⟩:=h;exact ahs ho hu hti h1 h2 hes hk hb hv
      ·cases h
     ·rename_i m l hm;split at h
      ·rename_i T sz es hes;split at h
       ·rename_i hb;obtain ⟨rfl,rfl,hb⟩:=hb;simp only[zz1] at h;obtain ⟨v,hv,rfl⟩:=h;exact aht ho hu hti h1 h2 hm hes hk hb hv
       ·cases h
      ·cases h
     ·rename_i m p sz lo l hm;split at h
      ·rename_i fs hfs;split at h
       ·rename_i hb;simp only[t7] at h;subst h;exact ahu ho hu hti h1 h2 hb.1 hm hfs hk hb.2
       ·cases h
      ·cases h
     ·cases h
    ·cases h
   ·cases hg
  ·cases hg
 -- index
 ·rename_i t y i ho;split at hg
  ·rename_i n e y' i' hu h1 h2;simp only[zz1] at hg;obtain ⟨s,hs,rfl⟩:=hg;simp only[bt] at h;split at h
   ·rename_i kk k hk;split at h
    ·rename_i hb;split at h
     ·rename_i gs hgs;split at h
      ·rename_i hev;split at h
       ·rename_i v hv;split at h
        ·rename_i hok;simp only[t7] at h;subst h;exact ahv ho hu hs h1 h2 hgs hk hb hev hv hok
        ·cases h
       ·cases h
      ·cases h
     ·cases h
    ·cases h
   ·cases h
  ·cases hg
 -- slice
 ·rename_i t y lo hi mx ho;split at hg
  ·rename_i n e y' hu h1;split at hg
   ·split at hg
    ·rename_i hinfo;obtain ⟨ti,hti⟩:=zw2.1 hinfo;simp only[t7] at hg;subst hg;simp only[bt] at h;split at h
     ·rename_i m p hp;split at h
      ·rename_i gs hgs;split at h
       ·rename_i hev;simp only[t7] at h;subst h;exact ahE ho hu hti h1 hp hgs hev.1 hev.2.1 hev.2.2
       ·cases h
      ·cases h
     ·rename_i gs hgs;split at h
      ·rename_i hev;simp only[t7] at h;subst h;exact ahF ho hu hti h1 hgs hev.1 hev.2.1
      ·cases h
     ·cases h
    ·cases hg
   ·cases hg
  ·rename_i e y' hu h1;split at hg
   ·rename_i lo' hi' mx' q1 q2 q3;split at hg
    ·rename_i hc;obtain ⟨ti,hti⟩:=zw2.1 hc.2;simp only[t7] at hg;subst hg;simp only[bt] at h;split at h
     ·rename_i sz es hes;split at h
      ·rename_i hsz;subst hsz;exact xN ho hu hti h1 q1 q2 q3 hc.1 (.inl hes) h
      ·cases h
     ·rename_i sz hes;split at h
      ·rename_i hsz;subst hsz;exact xN ho hu hti h1 q1 q2 q3 hc.1 (.inr (.inl ⟨hes,rfl⟩)) h
      ·cases h
     ·rename_i sz hes;split at h
      ·rename_i hsz;subst hsz;exact xN ho hu hti h1 q1 q2 q3 hc.1 (.inr (.inr ⟨hes,rfl⟩)) h
      ·cases h
     ·rename_i n p sz l0 k hv;split at h
      ·rename_i fs hfs;split at h
       ·rename_i hsz;exact ahD ho hu hti h1 q1 q2 q3 hc.1 hsz hv hfs h
       ·cases h
      ·cases h
     ·cases h
    ·cases hg
   ·cases hg
  ·cases hg
 -- build
 ·rename_i t parts ho;split at hg
  ·rename_i zs ps hz hp;split at hg
   ·rename_i fs hu;split at hg
    ·rename_i hc;simp only[t7] at hg;subst hg;simp only[bt,zz1] at h;obtain ⟨zs',h,rfl⟩:=h;exact IM ho hz hp (.inl ⟨fs,hu,hc.1,hc.2⟩) h
    ·cases hg
   ·rename_i n e hu;split at hg
    ·rename_i hc;simp only[t7] at hg;subst hg;simp only[bt,zz1] at h;obtain ⟨zs',h,rfl⟩:=h;exact IM ho hz hp (.inr ⟨n,e,hu,hc.1,hc.2.1,hc.2.2⟩) h
    ·cases hg
   ·cases hg
  ·cases hg
 -- buildSlice
 ·rename_i t len parts ho;split at hg
  ·rename_i e hu;split at hg
   ·rename_i ps hp;split at hg
    ·rename_i h0;obtain ⟨rfl,rfl,h0⟩:=h0;obtain ⟨ti,hti⟩:=zw2.1 h0;simp only[t7] at hg;subst hg;simp only[bt,t7] at h;subst h;exact ahh ho hu hti
    split at hg
    ·rename_i hc;obtain ⟨c1,c2,c3,jG,jZ⟩:=hc;simp only[t7] at hg;subst hg;simp only[bt] at h;split at h
     ·rename_i es hes;split at h
      ·rename_i hev;simp only[t7] at h;subst h;refine ahg ho hu hp c1 c2 c3 jG jZ hes (fun y hy =>?_) hev.2;have:=zx9.1 hev.1 y hy;simpa using this
      ·cases h
     ·cases h
    ·cases hg
   ·cases hg
  ·cases hg
 -- extract
 ·rename_i y i ho;simp only[zz1] at hg;obtain ⟨z,hz,rfl⟩:=hg;simp only[bt] at h;split at h
  ·rename_i fs hfs;exact ahm ho hz hfs h
  ·cases h
 -- makeFunc
 ·rename_i f first caps ho
  split at hg
  ·rename_i hfirst;simp only[zz1] at hg;obtain ⟨ys,hys,rfl⟩:=hg;simp only[bt] at h;split at h
   ·rename_i hv;simp only[t7] at h;subst h;have hf:first = #[]:=by simpa using hfirst
    rw[hf] at ho;refine ahy ho hys (fun y hy =>?_);have:=zx9.1 hv (ah A y) (zx2.2 ⟨y,hy,rfl⟩);exact this
   ·cases h
  ·cases hg
 -- alloc
 ·simp only[zz1] at hg;obtain ⟨z,_,rfl⟩:=hg;simp[bt] at h
 -- box
 ·simp only[zz1] at hg;obtain ⟨z,_,rfl⟩:=hg;simp[bt] at h
 -- store
 ·split at hg
  ·split at hg
   ·simp only[t7] at hg;subst hg;simp[bt] at h
   ·cases hg
  ·cases hg
 -- call
 ·split at hg
  ·simp only[zz1] at hg;obtain ⟨z,_,rfl⟩:=hg;simp[bt] at h
  ·simp only[zz1] at hg;obtain ⟨z,_,rfl⟩:=hg;simp[bt] at h
 ·split at hg
  ·simp only[t7] at hg;subst hg;simp[bt] at h
  ·cases hg
 -- len
 ·rename_i args tys ho;split at hg
  ·rename_i y ty hargs htys;have ho':o.op=.call { callee:=.builtin .len,args := #[y],argTypes := #[ty] } :=by
    rw[ho];have e1:args = #[y]:=by apply Array.ext';simpa using hargs
    have e2:tys = #[ty]:=by apply Array.ext';simpa using htys
    rw[e1,e2]
   split at hg
   ·rename_i e hu;simp only[zz1] at hg;obtain ⟨y',hy,rfl⟩:=hg;simp only[bt] at h;split at h
    ·rename_i sz es hes;simp only[t7] at h;subst h;refine p7 ho' hu (.inl ⟨e,rfl⟩) hy (fun a w D E hs v hv =>?_);rw[hes] at hv;obtain ⟨ad,cap,e1,e2,e3,_⟩:=n9 hv;exact ⟨zu0 e2 e3,fun _=>⟨ad,cap,e1⟩,fun e=>by cases e⟩
    ·rename_i sz hes;simp only[t7] at h;subst h;refine p7 (n:=0) ho' hu (.inl ⟨e,rfl⟩) hy (fun a w D E hs v hv =>?_);rw[hes] at hv;obtain ⟨cs,q1,q2⟩:=hv;simp only[ai] at q2;exact ⟨by simp[maxLen],fun _=>⟨none,0,by simpa[bM,I.isAgg,q2] using q1.symm⟩,fun e=>by cases e⟩
    ·rename_i sz hes;simp only[t7] at h;subst h;refine p7 (n:=0) ho' hu (.inl ⟨e,rfl⟩) hy (fun a w D E hs v hv =>?_);rw[hes] at hv;obtain ⟨cs,q1,q2⟩:=hv;simp only[ai] at q2;obtain ⟨ad,q2⟩:=q2;exact ⟨by simp[maxLen],fun _=>⟨ad,0,by simpa[bM,I.isAgg,q2] using q1.symm⟩,fun e=>by cases e⟩
    ·rename_i m l hm;split at h
     ·rename_i T sz es hes;split at h
      ·rename_i hl;subst hl;simp only[t7] at h;subst h;refine p7 ho' hu (.inl ⟨e,rfl⟩) hy (fun a w D E hs v hv =>?_);rw[hm] at hv;rcases hs.own hes hv with ⟨rfl,_,rfl⟩ | ⟨b,cap,cs,pre,rest,_,rfl,_,_,_,_,_,k8,k9,_⟩
       ·exact ⟨by simp[maxLen],fun _=>⟨none,0,rfl⟩,fun e=>by cases e⟩
       ·exact ⟨zu0 k8 k9,fun _=>⟨_,_,rfl⟩,fun e=>by cases e⟩
      ·cases h
     ·cases h
    ·rename_i n p sz lo k hm;simp only[t7] at h;subst h;refine p7 ho' hu (.inl ⟨e,rfl⟩) hy (fun a w D E hs v hv =>?_);rw[hm] at hv;obtain ⟨cs,q1,q2⟩:=hv;simp only[ai] at q2;obtain ⟨b,aS,off,l,_,_,_,q2,q3,q4,_⟩:=q2;exact ⟨by omega,fun _=>⟨_,_,by simpa[bM,I.isAgg,q2] using q1.symm⟩,fun e=>by cases e⟩
    ·cases h
   ·rename_i hu;simp only[zz1] at hg;obtain ⟨y',hy,rfl⟩:=hg;simp only[bt] at h;split at h
    ·rename_i s hs';simp only[t7] at h;subst h;refine p7 ho' hu (.inr rfl) hy (fun a w D E hs v hv =>?_);rw[hs'] at hv;obtain ⟨e1,e2⟩:=oa hv;exact ⟨e2,(fun e=>by obtain ⟨_,e⟩:=e;cases e),fun _=>⟨s,e1,rfl⟩⟩
    ·cases h
   ·cases hg
  ·cases hg
 -- append
 ·split at hg
  ·split at hg
   ·split at hg
    ·simp only[zz1] at hg;obtain ⟨z,_,rfl⟩:=hg;simp[bt] at h
    ·split at hg
     ·simp only[zz1] at hg;obtain ⟨z,_,rfl⟩:=hg;simp[bt] at h
     ·cases hg
   ·cases hg
  ·cases hg
 -- cap
 ·rename_i args tys ho;split at hg
  ·rename_i y ty hargs htys;have ho':o.op=.call { callee:=.builtin .cap,args := #[y],argTypes := #[ty] } :=by
    rw[ho];have e1:args = #[y]:=by apply Array.ext';simpa using hargs
    have e2:tys = #[ty]:=by apply Array.ext';simpa using htys
    rw[e1,e2]
   split at hg
   ·rename_i e hu;simp only[zz1] at hg;obtain ⟨y',hy,rfl⟩:=hg;simp only[bt] at h;split at h
    ·rename_i sz hes;simp only[t7] at h;subst h;refine xL ho' hu hy (fun a w D E hs v hv =>?_);rw[hes] at hv;obtain ⟨cs,q1,q2⟩:=hv;simp only[ai] at q2;exact ⟨by simp[maxLen],_,_,by simpa[bM,I.isAgg,q2] using q1.symm⟩
    ·rename_i sz hes;simp only[t7] at h;subst h;refine xL ho' hu hy (fun a w D E hs v hv =>?_);rw[hes] at hv;obtain ⟨cs,q1,q2⟩:=hv;simp only[ai] at q2;obtain ⟨ad,q2⟩:=q2;exact ⟨by simp[maxLen],_,_,by simpa[bM,I.isAgg,q2] using q1.symm⟩
    ·rename_i n p sz lo k hm;split at h
     ·rename_i fs hfs;simp only[t7] at h;subst h;refine xL ho' hu hy (fun a w D E hs v hv =>?_);rw[hm] at hv;obtain ⟨_,b,cs,T,off,c1,c2,c3,_,_,_,_,_,_,_,_,_,_,_,q1,q2⟩:=hs.view hv hfs;exact ⟨by omega,_,_,q2⟩
     ·cases h
    ·cases h
   ·cases hg
  ·cases hg
 -- clear
 ·split at hg
  ·split at hg
   ·simp only[zz1] at hg;obtain ⟨z,_,rfl⟩:=hg;simp[bt] at h
   ·cases hg
  ·cases hg
 -- copy
 ·split at hg
  ·split at hg
   ·split at hg
    ·simp only[t7] at hg;subst hg;simp[bt] at h
    ·cases hg
   ·cases hg
  ·cases hg
 ·cases hg
theorem fW.append{α β:Type}{R:α→β→Prop} : ∀ {xs:List α} {ys:List β} {xs':List α} {ys':List β},fW R xs ys→fW R xs' ys'→fW R (xs++xs') (ys++ys')
 |_,_,_,_,.nil,h=>h
 |_,_,_,_,.cons h1 h2,h=>.cons h1 (h2.append h)
theorem zi{w:World}{D:aT}{E:aW} : ∀ {xs:List I} {vs:List Value},aJ w D E xs vs→fW (aV w D E) xs vs
 | [],vs,h=>by simp only[aJ] at h;subst h;exact .nil
 |x::xs,vs,h=>by
  simp only[aJ] at h;obtain ⟨v,rest,cs,rfl,h1,h2,h3⟩:=h;exact .cons (mW h1 h2) (zi h3)
theorem Sd {P : Program} {f : FuncId} (h : gU P f = true) : ∃ fn, P.funcs[f]? = some fn ∧ ¬ fn.name = "runtime.NumGoroutine" ∧ ¬ fn.body = none := by
 unfold gU at h;cases hf:P.funcs[f]? with
 |none=>simp[hf] at h
 |some fn =>
  simp only[hf,Option.any_some,zz3,bne_iff_ne,ne_eq] at h;refine ⟨fn,rfl,by simpa using h.1,?_⟩;cases hb:fn.body <;>simp_all
theorem ze{P:Program}{w:World}{f:FuncId}{args:Array Value}(h:gU P f=true):(callFunc f args).run P w=.ok (.enter f args) w:=by
 obtain ⟨fn,h1,h2,h3⟩:=Sd h;simp[callFunc,h1,h2,h3]
theorem aB.al8{f:FuncId}{avs cargs:List I}{r:I}{vs:List Value}{a:Act}{w:World}{D:aT}{E:aW}(hs:aU c A a w D E)(h:aB c.P f cargs r)(hf:r.flat=true)(hc:bV true A avs=some cargs)(hv:fW (aV w D E) avs vs) :
  Calls c.P f vs.toArray w fun e w'=>∃ v D',e=.returned v∧aU c A a w' D' E∧aV w' D' E r v:=by
 have hw:iz true A D E (fun b _=>b<w.heap.size):=by
  refine ⟨fun b o ae=>hs.dm b o ae,fun n T sz es b cap hn aw o _=>hs.fX aw rfl,fun _ n x b aS hn aw o _=>hs.fX aw rfl,fun _ n ks vs b hn aw=>hs.fX aw rfl⟩
 have hrv:=lY (E':=dD) hs (fun _ _ h=>h) hw avs cargs vs (mu _ _ hv (pY hc)) hc;refine (h.2 w _ vs (fun _ _ ae=>ae) hrv).mono fun e w' ⟨v,D',he,h1,h2,h3,h4⟩=>⟨v,D,he,?_,aV.flat hf h1⟩
 exact hs.grow h2 (fun _ _ ae=>ae) (fun _ _ ae _=>ae) (fun b o ae=>Nat.lt_of_lt_of_le (hs.dm b o ae) h2.size)
theorem aB.ama{f:FuncId}{avs cargs:List I}{r:I}{vs:List Value}{a:Act}{w:World}{D:aT}{E:aW}(hs:aU c A a w D E)(h:aB c.P f cargs r)(hc:bV false A avs=some cargs)(hv:fW (aV w D E) avs vs) :
  Calls c.P f vs.toArray w fun e w'=>∃ v D',e=.returned v∧aU c A a w' D' E∧aV w' D' E r v:=by
 obtain ⟨hs1,hw⟩:=hs.oc;have hrv:=lY (E':=dD) hs (fun _ _ h=>h) hw avs cargs vs (mu _ _ hv (pY hc)) hc;refine (h.2 w _ vs hs1.dm hrv).mono fun e w' ⟨v,D',he,h1,h2,h3,h4⟩=>⟨v,fun b o=>pc A D E b o∨(w.heap.size≤b∧D' b o),he,?_,?_⟩
 ·refine hs1.grow h2 (fun _ _ ae=>.inl ae) ?_ ?_
  ·rintro b o (ae | ⟨hle,_⟩) hlt
   ·exact ae
   ·omega
  ·rintro b o (ae | ⟨_,ae⟩)
   ·exact Nat.lt_of_lt_of_le (hs1.dm b o ae) h2.size
   ·exact h3 b o ae
 ·refine aV.bN (E:=dD) ⟨fun b o ae =>?_,fun _ _ _ _ h=>h,fun n b aS hn=>by simp[dD] at hn,fun n aE l hn=>by simp[dD] at hn,fun n b hn=>by simp[dD] at hn,fun n b hn=>by simp[dD] at hn,fun _ _ _ _ h=>h⟩ h1;rcases Nat.lt_or_ge b w.heap.size with hlt | hge
  ·exact .inl (h4 b o ae hlt)
  ·exact .inr ⟨hge,ae⟩
theorem Jw(p:Nat→Bool)(os:List (Nat×aj))(n:Nat):ak (os.filter fun q=>p q.1) n=if p n then ak os n else none:=by
 induction os with
 |nil=>simp[ak]
 |cons q os ih =>
  obtain ⟨k,v⟩:=q;simp only[zw1];by_cases hk:p k=true
  ·simp only[hk,if_true,ak,ih];by_cases hn:n=k
   ·subst hn;simp only[hk,if_true]
   ·simp only[if_neg hn]
  ·simp only[hk,zz6,if_false,ih,ak];by_cases hn:n=k
   ·subst hn;simp[hk]
   ·simp only[if_neg hn]
theorem mS(ns:List Nat)(os:List (Nat×aj))(n:Nat):ak (cJ ns os) n=if ns.contains n then none else ak os n:=by
 rw[cJ,Jw (fun n => !ns.contains n)];cases ns.contains n <;>rfl
theorem ma(ns:List Nat)(os:List (Nat×aj))(n:Nat):ak (fR ns os) n=if ns.contains n then ak os n else none:=Jw _ _ _
theorem yF{p:Nat→Bool} : ∀ {os:List (Nat×aj)},bE p os→∀ k x,ak os k=some x→x.only p=true
 | [],_,k,x,hx=>by simp[ak] at hx
 |(j,v)::r,h,k,x,hx=>by
  simp only[bE] at h;simp only[ak] at hx;split at hx
  ·simp only[t7] at hx;subst hx;exact h.1
  ·exact yF h.2 k x hx
theorem Jx(ns:List Nat):∀ (ts:List (Nat×I)) (t:Nat),bO (fF ns ts) t=if (bO ts t).only (fun n => !ns.contains n) then bO ts t else .de
 | [],t=>by simp[fF,bO,I.only]
 |(k,v)::r,t=>by
  simp only[fF,zz9,bO];by_cases h:t=k
  ·simp only[if_pos h]
  ·simp only[if_neg h];exact Jx ns r t
theorem aU.DY{a:Act}{w:World}{D:aT}{E:aW}{ts:List (Nat×I)}{os0:List (Nat×aj)}(h:aU c (au ts os0) a w D E)(ns:List Nat)(ho:bE (fun n => !ns.contains n) (cJ ns os0)) :
  ∃ D' E',aU c (au (fF ns ts) (cJ ns os0)) a w D' E'∧iz true (au ts (fR ns os0)) D E D':=by
 have h1:=h.oc.1;have hw1:=h.oc.2;obtain ⟨D1,hD1⟩:∃ D1,D1=pc (au ts os0) D E:=⟨_,rfl⟩
 rw[←hD1] at h1 hw1;obtain ⟨D2,hD2⟩:∃ D2:aT,D2=fun b o=>D1 b o∨(∃ n x aS,ns.contains n=true∧ak os0 n=some (.box x)∧E n=some (.aD b aS)∧o<x.size)∨∃ n ks vs,ns.contains n=true∧ak os0 n=some (.cC ks vs)∧E n=some (.cC b)∧o=0:=⟨_,rfl⟩
 obtain ⟨E2,hE2⟩:∃ E2:aW,E2=fun n=>if ns.contains n then none else E n:=⟨_,rfl⟩
 have e2:∀ n,(!ns.contains n)=true→E2 n=E n:=fun n hn=>by rw[hE2];simp at hn;simp[hn]
 have hl:dS w D1 E2 w D2 E2:=⟨fun b o ae=>by rw[hD2];exact .inl ae,fun _ _ _ _ h=>h,fun _ _ _ h=>h,fun _ aE l h=>⟨aE,l,h,zz8 _,fun _=>rfl⟩,fun _ _ h=>h,fun _ _ h=>h,fun _ _ _ _ h=>h⟩
 have qh:∀ b o,D2 b o→D1 b o∨∃ n e q,ns.contains n=true∧E n=some e∧e.aE=some b∧c.fo b∧w.heap[b]?=some q:=fun b o ae=>by
  rw[hD2] at ae;rcases ae with ae | ⟨n,x,aS,k1,k2,k3,k4⟩ | ⟨n,ks,vs,k1,k2,k3,_⟩
  ·exact .inl ae
  ·obtain ⟨b',cs,T,q1,q2,q3,_⟩:=h.box (n:=n) (x:=x) (by simpa[au] using k2);rw[k3] at q1;simp only[t7,bS.aD.injEq] at q1;obtain ⟨rfl,rfl⟩:=q1;exact .inr ⟨n,_,_,k1,k3,rfl,q2,q3⟩
  ·obtain ⟨b',es,ck,q1,q2,q3,_⟩:=h.map (n:=n) (ks:=ks) (vs:=vs) (by simpa[au] using k2);rw[k3] at q1;cases q1;exact .inr ⟨n,_,_,k1,k3,rfl,q2,q3⟩
 refine ⟨D2,E2,⟨h1.sz,h1.eT,fun t =>?_,h1.dQ,fun b o ae hm =>?_,fun b o ae =>?_,fun n =>?_,fun n m e e' b g1 g2 g3 g4 =>?_,fun n e hn =>?_,h1.eZ,fun b o ae=>hl.da b o (h1.cN b o ae),h1.fe,h1.fI⟩,?_⟩
 ·simp only[au,Jx];have ht:=h1.ef t;simp only[au] at ht;split
  ·rename_i hp;exact aV.bN hl (aV.dF e2 hp ht)
  ·simp[aV]
 ·rcases qh b o ae with ae | ⟨n,e,q,_,_,_,k,_⟩
  ·exact h1.da b o ae hm
  ·exact absurd k hm
 ·rcases qh b o ae with ae | ⟨n,e,q,_,_,_,_,k⟩
  ·exact h1.dm b o ae
  ·exact gb k
 ·simp only[au,mS];by_cases hn:ns.contains n=true
  ·simp only[hn,if_true,di];rw[hE2];simp only[hn,if_true]
  ·have hnb:(!ns.contains n)=true:=by simpa using hn
   simp only[hn,zz6,if_false];have hob:=h1.bT n;simp only[au] at hob;cases hx:ak os0 n with
   |none=>rw[hx] at hob;simp only[di] at hob ⊢;rw[e2 n hnb];exact hob
   |some x =>
    have hon:=yF ho n x (by rw[mS,if_neg hn];exact hx);have nD:∀ e b,E n=some e→e.aE=some b→∀ o,D2 b o→D1 b o:=fun e b he hb o ae=>by
     rcases qh b o ae with ae | ⟨m,e',q,k1,k3,k2,_⟩
     ·exact ae
     ·have:=h.c4 n m e _ b he k3 hb k2;subst this;exact absurd k1 hn
    rw[hx] at hob;cases x with
    |box x =>
     obtain ⟨b,cs,T,k1,k2,k3,k4,k5⟩:=hob;exact ⟨b,cs,T,(e2 n hnb).trans k1,k2,k3,ai.bN hl _ _ (ai.dF e2 _ _ (by simpa[aj.only] using hon) k4),fun o ae=>k5 o (nD _ b k1 rfl o ae)⟩
    |bR T sz es =>
     obtain ⟨aE,k1,k2,k3⟩:=hob;refine ⟨aE,(e2 n hnb).trans k1,k2,?_⟩;cases aE with
     |none=>exact k3
     |some bc =>
      obtain ⟨b,cap⟩:=bc;obtain ⟨cs,pre,rest,q1,q2,q3,q4,q5,q6,q7,q8⟩:=k3;exact ⟨cs,pre,rest,q1,q2,q3,aL.bN hl _ _ (aL.dF e2 _ _ (by simpa[aj.only] using hon) q4),q5,q6,q7,fun o ae=>q8 o (nD _ b k1 rfl o ae)⟩
    |c5 T xs =>
     obtain ⟨aE,k1,k2,k3⟩:=hob;refine ⟨aE,(e2 n hnb).trans k1,k2,?_⟩;cases aE with
     |none=>exact k3
     |some bc =>
      obtain ⟨b,cap⟩:=bc;obtain ⟨cs,r,q1,q2,q3,q4,q5,q6,q7⟩:=k3;exact ⟨cs,r,q1,q2,q3,q4,q5,q6,fun o ae=>q7 o (nD _ b k1 rfl o ae)⟩
    |dO x =>
     obtain ⟨b,k1,k2,k3,k4,k5⟩:=hob;exact ⟨b,(e2 n hnb).trans k1,k2,k3,k4,fun o ae=>k5 o (nD _ b k1 rfl o ae)⟩
    |cC ks vs =>
     obtain ⟨b,es,ck,k1,k2,k3,k4,k5,k6,k7⟩:=hob;simp only[aj.only,zz3] at hon;exact ⟨b,es,ck,(e2 n hnb).trans k1,k2,k3,k4,aJ.bN hl _ _ (aJ.dF e2 _ _ hon.1 k5),aJ.bN hl _ _ (aJ.dF e2 _ _ hon.2 k6),fun o ae=>k7 o (nD _ b k1 rfl o ae)⟩
    |it ks vs left cur =>
     obtain ⟨r,b,es,ck,si,se,la,k1,k2,k3,k4,k5,k6,k7,k8,k9,k9',k10⟩:=hob;simp only[aj.only,zz3] at hon;exact ⟨r,b,es,ck,si,se,la,(e2 n hnb).trans k1,k2,k3,k4.bN hl,aJ.bN hl _ _ (aJ.dF e2 _ _ hon.1 k5),aJ.bN hl _ _ (aJ.dF e2 _ _ hon.2 k6),k7,k8,k9,k9',fun o ae=>k10 o (nD _ r k1 rfl o ae)⟩
 ·have cut:∀ n e,E2 n=some e→E n=some e:=fun n e he=>by
   rw[hE2] at he;simp only at he;split at he
   ·cases he
   ·exact he
  exact h.c4 n m e e' b (cut n e g1) (cut m e' g2) g3 g4
 ·by_cases hm:ns.contains n=true
  ·left;rw[hE2];simp only[hm,if_true]
  ·rw[e2 n (by simpa using hm)];exact h.dV n e hn
 ·refine ⟨fun b o ae=>by rw[hD2];exact .inl (hw1.da b o ae),fun n T sz es b cap hn aw o hlt =>?_,fun _ n x b aS hn aw o hlt =>?_,fun _ n ks vs b hn aw =>?_⟩
  ·simp only[au,ma] at hn;split at hn
   ·rw[hD2];exact .inl (hw1.bR n T sz es b cap hn aw o hlt)
   ·cases hn
  ·simp only[au,ma] at hn;split at hn
   ·rename_i hk;rw[hD2];exact .inr (.inl ⟨n,x,aS,hk,hn,aw,hlt⟩)
   ·cases hn
  ·simp only[au,ma] at hn;split at hn
   ·rename_i hk;rw[hD2];exact .inr (.inr ⟨n,ks,vs,hk,hn,aw,rfl⟩)
   ·cases hn
theorem aB.al9{f:FuncId}{avs cargs:List I}{r:I}{vs:List Value}{a:Act}{w:World}{D:aT}{E:aW}{ts:List (Nat×I)}{os0:List (Nat×aj)}(hs:aU c (au ts os0) a w D E)(ns:List Nat)(ho:bE (fun n => !ns.contains n) (cJ ns os0))
  (h:aB c.P f cargs r) (hc:bV true (au ts (fR ns os0)) avs=some cargs) (hv:fW (aV w D E) avs vs) :
  Calls c.P f vs.toArray w fun e w'=>∃ v D' E',e=.returned v∧aU c (au (fF ns ts) (cJ ns os0)) a w' D' E'∧aV w' D' E' r v:=by
 obtain ⟨D1,E1,hs1,hw⟩:=hs.DY ns ho;have hu:ep (au ts (fR ns os0)) (au ts os0):=fun n x hx=>by
  simp only[au,ma] at hx ⊢;split at hx
  ·exact hx
  ·cases hx
 have hrv:=lY (E':=dD) hs hu hw avs cargs vs (mu _ _ hv (pY hc)) hc;refine (h.2 w _ vs hs1.dm hrv).mono fun e w' ⟨v,D',he,h1,h2,h3,h4⟩=>⟨v,fun b o=>D1 b o∨(w.heap.size≤b∧D' b o),E1,he,?_,?_⟩
 ·refine hs1.grow h2 (fun _ _ ae=>.inl ae) ?_ ?_
  ·rintro b o (ae | ⟨hle,_⟩) hlt
   ·exact ae
   ·omega
  ·rintro b o (ae | ⟨_,ae⟩)
   ·exact Nat.lt_of_lt_of_le (hs1.dm b o ae) h2.size
   ·exact h3 b o ae
 ·refine aV.bN (E:=dD) ⟨fun b o ae =>?_,fun _ _ _ _ h=>h,fun n b aS hn=>by simp[dD] at hn,fun n aE l hn=>by simp[dD] at hn,fun n b hn=>by simp[dD] at hn,fun n b hn=>by simp[dD] at hn,fun _ _ _ _ h=>h⟩ h1;rcases Nat.lt_or_ge b w.heap.size with hlt | hge
  ·exact .inl (h4 b o ae hlt)
  ·exact .inr ⟨hge,ae⟩
theorem vD{a:Act}{w:World}{D D1:aT}{E:aW}{ts:List (Nat×I)}{os0 os:List (Nat×aj)}{ρ:List (Nat×Nat)}{aD:Bool}{A0:af}(hs:aU c (au ts os0) a w D E)(hu:ep A0 (au ts os0))(hD:∀ b o,D b o→D1 b o)(hw:iz aD A0 D E D1) :
  ∀ (avs cargs:List I) (vs:List Value),jD aD A0 ρ os avs cargs→fW (aV w D E) avs vs→aJ w D1 (aw ρ os E) cargs vs
 | [],[],vs,_,hv=>by cases hv;simp[aJ]
 | [],_::_,_,h,_=>by simp[jD] at h
 |_::_,[],_,h,_=>by simp[jD] at h
 |x::xs,y::ys,vs,h,hv=>by
  cases hv with
  |cons hv hvs =>
  rename_i v vs;simp only[jD] at h;have ih:=vD hs hu hD hw xs ys vs h.2 hvs;have hl:dS w D (aw ρ os E) w D1 (aw ρ os E):=⟨hD,fun _ _ _ _ h=>h,fun _ _ _ h=>h,fun _ aE l h=>⟨aE,l,h,zz8 _,fun _=>rfl⟩,fun _ _ h=>h,fun _ _ h=>h,fun _ _ _ _ h=>h⟩
  have h1:∃ cs,bM y v cs∧ai w D1 (aw ρ os E) y cs:=by
   rcases h.1 with ⟨k1,k2,k3⟩ | k
   ·rw[k1] at hv;have h2:=aV.bN hl ((aV.aQ (w:=w) (D:=D) (p:=av os) (ρ:=bD ρ) (E:=aw ρ os E) (E':=E) (fun n hn=>by simp only[aw,hn,if_true]) k2).1 hv);cases y <;>simp only[aV] at h2 <;>first | (simp[I.cn] at k3;done) | exact h2
   ·have h2:aJ w D E [x] [v]:=mu [x] [v] (.cons hv .nil) (by
     intro z hz;simp only[zv7] at hz;subst hz;cases z <;>simp_all[a6,I.cn])
    have h3:=lY (E':=aw ρ os E) hs hu hw [x] [y] [v] h2 (by simp[bV,k]);simp only[aJ] at h3;obtain ⟨v',rest,cs,e,k1,k2,_⟩:=h3;simp only[List.cons.injEq] at e;obtain ⟨rfl,_⟩:=e;exact ⟨cs,k1,k2⟩
  obtain ⟨cs,k1,k2⟩:=h1;simp only[aJ];exact ⟨v,vs,cs,rfl,k1,k2,ih⟩
theorem ep.drop(ts:List (Nat×I))(ns:List Nat)(os0:List (Nat×aj)):ep (au ts (cJ ns os0)) (au ts os0):=fun n x hx=>by
 simp only[au,mS] at hx ⊢;split at hx
 ·cases hx
 ·exact hx
theorem qL.use{run:Array Value→World→(Ending→World→Prop)→Prop}{since:World→aT→aW→Prop}{avs cargs:List I}{post:cV}{vs:List Value}{a:Act}{w:World}{D:aT}{E:aW}{ts:List (Nat×I)}{os0 os:List (Nat×aj)}{ρ:List (Nat×Nat)}
  (hs:aU c (au ts os0) a w D E) (h:qL run since cargs os post) (aD:Bool) (hmono:∀ {vs w R R'},run vs w R→(∀ e w,R e w→R' e w)→run vs w R') (hsince:(aD=true→∀ D E,since w D E)∧(aD=false→since w (pc (au ts os0) D E) (aw ρ os E)))
  (hg:gh ρ os os0) (ha:jD aD (au ts (cJ (kb ρ os) os0)) ρ os avs cargs) (hb:∀ r os',post r os'→eK aD ρ os os0 r os') (hv:fW (aV w D E) avs vs) :
  run vs.toArray w fun e w'=>∃ v r os' D2 E2,e=.returned v∧post r os'∧aU c (au ts (dL ρ os'++os0)) a w' D2 E2∧aV w' D2 E2 (r.aQ (bD ρ)) v∧∀ m e,aw ρ os E m=some e→av os' m=true→∃ e',E2 (bD ρ m)=some e'∧e.le e':=by
 have notName:∀ n,(kb ρ os).contains n=false→∀ m,av os m=true→bD ρ m≠n:=fun n hn m hm he=>by
  obtain ⟨q,hq,rfl⟩:=x1.1 hm;have:(kb ρ os).contains n=true:=by simp only[kb,List.contains_iff_mem,zx2];exact ⟨q,hq,he⟩
  rw[this] at hn;cases hn
 have other:∀ {D:aT},aU c (au ts os0) a w D E→∀ n e b x,ak (cJ (kb ρ os) os0) n=some x→E n=some e→e.aE=some b→¬ dC (aw ρ os E) b:=fun hs n e b x hx he hb ho=>by
  obtain ⟨m,e',h1,h2,hb',_⟩:=hs.tw hg ho;rw[mS] at hx;split at hx
  ·cases hx
  ·rename_i hc;have:=hs.c4 n (bD ρ m) e _ b he h2 hb hb';exact notName n (by simpa using hc) m h1 this.symm
 cases aD with
 |true =>
  obtain ⟨D1,hD1⟩:∃ D1:aT,D1=fun b o=>D b o∨(b<w.heap.size∧¬ dC (aw ρ os E) b):=⟨_,rfl⟩
  have hD:∀ b o,D b o→D1 b o:=fun b o ae=>by rw[hD1];exact .inl ae
  have hw:iz true (au ts (cJ (kb ρ os) os0)) D E D1:=by
   refine ⟨hD,fun n T sz es b cap hn aw o _ =>?_,fun _ n x b aS hn aw o _ =>?_,fun _ n ks vs b hn aw =>?_⟩
   ·rw[hD1];exact .inr ⟨hs.fX aw rfl,other hs n _ b _ hn aw rfl⟩
   ·rw[hD1];exact .inr ⟨hs.fX aw rfl,other hs n _ b _ hn aw rfl⟩
   ·rw[hD1];exact .inr ⟨hs.fX aw rfl,other hs n _ b _ hn aw rfl⟩
  have hrv:=vD hs (ep.drop ts _ os0) hD hw avs cargs vs ha hv;refine hmono (h w D1 (aw ρ os E) vs (hsince.1 rfl _ _) (fun b o ae=>by
   rw[hD1] at ae;rcases ae with ae | ae
   ·exact hs.dm b o ae
   ·exact ae.1) (hs.IU hg hD fun b o ae ho=>by
    rw[hD1] at ae;rcases ae with ae | ae
    ·exact ae
    ·exact absurd ho ae.2) hrv) ?_
  rintro e w' ⟨v,D',E',r,os',he,hp,h1,h2,h3,h4,h5,h6,h7,h8⟩;obtain ⟨D2,E2,k1,k2⟩:=hs.nt hg hD (fun h=>by cases h) (hb r os' hp) h1 h2 h3 h5 h4 h8 h6 h7;exact ⟨v,r,os',D2,E2,he,hp,k1,k2⟩
 |false =>
  obtain ⟨hs1,hw⟩:=hs.oc;have hw':iz false (au ts (cJ (kb ρ os) os0)) D E (pc (au ts os0) D E):=⟨hw.da,fun n T sz es b cap hn aw o hlt=>hw.bR n T sz es b cap (ep.drop ts _ os0 n _ hn) aw o hlt,(fun hb=>by cases hb),fun hb=>by cases hb⟩
  have hrv:=vD hs (ep.drop ts _ os0) hw.da hw' avs cargs vs ha hv;refine hmono (h w _ (aw ρ os E) vs (hsince.2 rfl) hs1.dm (hs1.IU hg (fun _ _ h=>h) fun b o ae _=>ae) hrv) ?_;rintro e w' ⟨v,D',E',r,os',he,hp,h1,h2,h3,h4,h5,h6,h7,h8⟩;obtain ⟨D2,E2,k1,k2⟩:=hs1.nt hg (fun _ _ h=>h) (fun _ _ _ h=>h) (hb r os' hp) h1 h2 h3 h5 h4 h8 h6 h7;exact ⟨v,r,os',D2,E2,he,hp,k1,k2⟩
theorem aU.since{A:af}{a:Act}{w:World}{D:aT}{E E':aW}(h:aU c A a w D E)(aw:∀ n,E' n=E n∨E' n=none):Al c w D E' :=
 ⟨h.dQ,h.cN,h.da,fun n e hn=>by
  rcases aw n with k | k
  ·rw[k];exact h.dV n e hn
  ·exact .inl k,h.fI⟩
theorem oG(c:cO)(f:FuncId):c.bp.fn f:=by unfold cO.bp;split <;>trivial
theorem Dd(c:cO):c.bp.depth.isSome=true→1≤9:=fun _=>by omega
theorem mE{a:Act}{w:World} : ∀ f,o.about c.P w a.eval=some f→c.bp.fn f:=fun f _=>oG c f
theorem nc{g:b9}(hg:dz c.P o=some g)(r:Option Nat)(ρ:Operand→Value):o.semAt r ρ=execOp ρ o:=by
 cases r with
 |none=>rfl
 |some l =>
  refine Oper.semAt_some l ρ o fun cl h =>?_;unfold dz at hg;rw[h] at hg;simp at hg
theorem Sf{f:FuncId}{args:Array Value}{w:World}{R:Ending→World→Prop}(h:Calls c.P f args w R):CallsIn c.bp (9-1) c.P f args w R:=by
 have h1:CallsIn Fence.wide (9-1) c.P f args w R:=callsIn_wide.2 h;unfold cO.bp;split
 ·exact h1
 ·exact h1
theorem sy.mono{P:Program}{v:Value}{vs:Array Value}{w:World}{R R':Ending→World→Prop}(h:sy P v vs w R)(hr:∀ e w,R e w→R' e w):sy P v vs w R':=by
 obtain ⟨l,h1,fn,tmps,assign,body,h2,h3⟩:=h;exact ⟨l,h1,fn,tmps,assign,body,h2,h3.mono hr⟩
theorem ala{l:Nat}{f:FuncId}{tmps:Array Value}{assign body:Code}{w:World}{R:Ending→World→Prop}(h:RoundIn Fence.wide 9 c.P l f tmps assign body w R):RoundIn c.bp (9-1) c.P l f tmps assign body w R:=by
 have h1:RoundIn Fence.wide (9-1) c.P l f tmps assign body w R:=⟨h.1,fun cc cs _=>h.2 cc cs (room_wide _)⟩
 unfold cO.bp;split
 ·exact h1
 ·exact h1
theorem iw.wp{B:af}{g:b9}(hg:dz c.P o=some g)(h:iw c A o B){a:Act}{w:World}{K:Act→World→Prop}{Q:Exit→Act→World→Prop}(hs:ct c A a w)(hK:∀ a w,ct c B a w→K a w):o.wpIn c.bp 9 c.P a w K Q:=by
 obtain ⟨D,E,hs⟩:=hs;obtain ⟨w',h⟩:=h a w D E hs;refine ⟨mE,?_⟩;rw[nc hg];rcases h with ⟨v,h1,h2⟩ | ⟨h1,h2⟩
 ·rw[h1];exact hK _ _ h2
 ·rw[h1];exact hK _ _ h2
theorem CN{dr:Bool}{K:af→Prop}{f:FuncId}{avs:List I}{a1 a2:Option (List I)}{vs:List Value}{dst:Option Nat}{rest:List aC}{a:Act}{w:World}{Kw:Act→World→Prop}{Q:Exit→Act→World→Prop}{g:b9}(hg:dz c.P o=some g)(h1:bV true A avs=a1)(h2:bV false A avs=a2)
  (hs:∀ D E,aU c A a w D E→fW (aV w D E) avs vs) (hsim:ct c A a w) (hwp:bh c.P c.Y dr K (.call f avs a1 a2 dst rest A)) (ae:o.dst=dst) (hdn:∀ k,dst=some k→k<c.n)
  (hrun:gU c.P f=true→(execOp a.eval o).run c.P w=.ok (.enter f vs.toArray) w)
  (hK:∀ B a' w',bh c.P c.Y dr K (aA rest B)→ct c B a' w'→Kw a' w'):o.wpIn c.bp 9 c.P a w Kw Q:=by
 obtain ⟨D,E,hsw⟩:=hsim;have po:∀ {R:Ending→World→Prop},gU c.P f=true→Calls c.P f vs.toArray w R→(∀ e w',R e w'→∃ v,e=.returned v∧Kw (a.put o.dst v) w')→o.wpIn c.bp 9 c.P a w Kw Q:=fun {R} hc hcl hR=>by
  refine ⟨mE,?_⟩;rw[nc hg,hrun hc,Oper.uponIn_enter];refine ⟨Dd c,Sf (hcl.mono fun e w' he =>?_)⟩;obtain ⟨v,rfl,hv⟩:=hR e w' he;exact hv
 cases hwp with
 |flat r hspec hflat hrest =>
  refine po hspec.1 (hspec.al8 hsw hflat h1 (hs D E hsw)) ?_;rintro e w' ⟨v,D',he,hs',hv⟩;refine ⟨v,he,?_⟩;rw[ae];exact hK _ _ _ hrest ⟨D',E,hs'.aP hdn hv⟩
 |lead r hspec hrest =>
  refine po hspec.1 (hspec.ama hsw h2 (hs D E hsw)) ?_;rintro e w' ⟨v,D',he,hs',hv⟩;refine ⟨v,he,?_⟩;rw[ae];exact hK _ _ _ hrest ⟨D',E,hs'.aP hdn hv⟩
 |gN ns r hdr hspec hf ho hrest =>
  refine po hspec.1 (hspec.al9 hsw ns ho hf (hs D E hsw)) ?_;rintro e w' ⟨v,D',E',he,hs',hv⟩;refine ⟨v,he,?_⟩;rw[ae];exact hK _ _ _ hrest ⟨D',E',hs'.aP hdn hv⟩
 |bT aD ρ os cargs post hdr hspec hgv ha hb hrest =>
  refine po hspec.1 (hspec.2.use hsw aD (fun h=>h.mono) ⟨fun _ _ _=>trivial,fun _=>trivial⟩ hgv ha hb (hs D E hsw)) ?_;rintro e w' ⟨v,r,os',D2,E2,he,hp,hs',hv,_⟩;refine ⟨v,he,?_⟩;rw[ae];exact hK _ _ _ (hrest r os' hp) ⟨D2,E2,hs'.aP hdn hv⟩
theorem Se{dr:Bool}{K:af→Prop}{v:Value}{avs:List I}{vs:List Value}{dst:Option Nat}{rest:List aC}{a:Act}{w:World}{Kw:Act→World→Prop}{Q:Exit→Act→World→Prop}{g:b9}(hg:dz c.P o=some g)
  (hs:∀ D E,aU c A a w D E→fW (aV w D E) avs vs) (hsim:ct c A a w) (hwp:bh c.P c.Y dr K (.pO v avs dst rest A)) (ae:o.dst=dst) (hdn:∀ k,dst=some k→k<c.n)
  (hrun:∀ l,v=.func (.yield l) #[] #[]→(execOp a.eval o).run c.P w=(Instr.yield l vs.toArray).run c.P w)
  (hK:∀ B a' w',bh c.P c.Y dr K (aA rest B)→ct c B a' w'→Kw a' w'):o.wpIn c.bp 9 c.P a w Kw Q:=by
 obtain ⟨D,E,hsw⟩:=hsim;cases hwp with
 |zI os cargs post hdr hY hgv ha hb hrest =>
  have hyr:=(hsw.fe _ _ _ _ hY).use (ρ:=[]) hsw false (fun h=>h.mono) ⟨(fun h=>by cases h),fun _=>hsw.oc.1.since (fun n=>by simp only[aw,bD];split <;>simp)⟩ hgv ha hb (hs D E hsw);obtain ⟨l,rfl,fn,tmps,assign,body,h2,h3⟩:=hyr;refine ⟨mE,?_⟩;rw[nc hg,hrun l rfl,h2,Oper.uponIn_round];refine ⟨Dd c,ala (h3.mono fun e w' he =>?_)⟩;obtain ⟨v,r,os',D2,E2,rfl,hp,hs',hv,_⟩:=he;rw[ae];exact hK _ _ _ (hrest r os' hp) ⟨D2,E2,hs'.aP hdn hv⟩
end
section
variable {c:cO} {A:af} {o:Oper}
theorem pM{P:Program}{n:Nat}{bd:Array Oper}{g:aC}(h:oB P n bd o=some g):dz P o=some g.op∧g.dst=o.dst∧(∀ k,o.dst=some k→k<n) ∧
  ((o.guard=none∧g.guard=none)∨∃ j b t,o.guard=some (j,b)∧(bd[j]?).bind (·.dst)=some t∧g.guard=some (t,b)):=by
 unfold oB at h;split at h
 ·cases h
 rename_i g' hg';split at h
 case isFalse=>cases h
 rename_i ae;have hdst:∀ k,o.dst=some k→k<n:=by
  intro k hk;rw[hk] at ae;simpa[Dg] using ae
 split at h
 ·rename_i hgd;simp only[t7] at h;subst h;exact ⟨hg',rfl,hdst,.inl ⟨hgd,rfl⟩⟩
 ·rename_i j b hgd;split at h
  ·rename_i t ht;simp only[t7] at h;subst h;exact ⟨hg',rfl,hdst,.inr ⟨j,b,t,hgd,ht,rfl⟩⟩
  ·cases h
theorem IJ{dr:Bool}{K:af→Prop}{op:b9}{dst:Option Nat}{rest:List aC}{a:Act}{w:World}{Kw:Act→World→Prop}{Q:Exit→Act→World→Prop}(hop:dz c.P o=some op)(ae:o.dst=dst)(hdn:∀ k,dst=some k→k<c.n)
  (hsim:ct c A a w) (hK:∀ B a' w',bh c.P c.Y dr K (aA rest B)→ct c B a' w'→Kw a' w') (h:bh c.P c.Y dr K (cY (bt A op) fun v=>aA rest (A.aP dst v))):o.wpIn c.bp 9 c.P a w Kw Q:=by
 cases hv:bt A op with
 |some v =>
  rw[hv] at h;exact ((yR hop hv).does (by rw[ae];exact hdn)).wp hop hsim (fun a' w' hs=>by rw[ae] at hs;exact hK _ a' w' h hs)
 |none=>rw[hv] at h;cases h
theorem agR{dr:Bool}{K:af→Prop}{dst:Option Nat}{rest:List aC}{a:Act}{w:World}{Kw:Act→World→Prop}{Q:Exit→Act→World→Prop}{z:I}(hop:dz c.P o=some (.alloc z))(ae:o.dst=dst)(hdn:∀ k,dst=some k→k<c.n)
  (hwp:bh c.P c.Y dr K (bn A dst (.alloc z) rest (aA rest))) (hsim:ct c A a w) (hK:∀ B a' w',bh c.P c.Y dr K (aA rest B)→ct c B a' w'→Kw a' w'):o.wpIn c.bp 9 c.P a w Kw Q:=by
 have hop0:=hop;simp only[bn] at hwp;split at hwp
 case h_2=>cases hwp
 rename_i d;split at hwp
 case h_2=>cases hwp
 rename_i hf;unfold dz at hop;split at hop <;>try (first | (simp at hop;done) | ((repeat' split at hop) <;>simp at hop;done))
 rename_i t ho;simp only[zz1,b9.alloc.injEq] at hop;obtain ⟨z',hz,rfl⟩:=hop;exact (Xe ho hz ae (hdn d rfl) hf).wp hop0 hsim (fun a' w' hs=>hK _ a' w' hwp hs)
theorem agU{dr:Bool}{K:af→Prop}{dst:Option Nat}{rest:List aC}{a:Act}{w:World}{Kw:Act→World→Prop}{Q:Exit→Act→World→Prop}{x:aM}(hop:dz c.P o=some (.box x))(ae:o.dst=dst)(hdn:∀ k,dst=some k→k<c.n)
  (hwp:bh c.P c.Y dr K (bn A dst (.box x) rest (aA rest))) (hsim:ct c A a w) (hK:∀ B a' w',bh c.P c.Y dr K (aA rest B)→ct c B a' w'→Kw a' w'):o.wpIn c.bp 9 c.P a w Kw Q:=by
 have hop0:=hop;simp only[bn] at hwp;split at hwp
 case h_2=>cases hwp
 rename_i d;split at hwp
 case h_2=>cases hwp
 rename_i hf;split at hwp
 case isFalse=>cases hwp
 rename_i hv;unfold dz at hop;split at hop <;>try (first | (simp at hop;done) | ((repeat' split at hop) <;>simp at hop;done))
 rename_i t y ho;simp only[zz1,b9.box.injEq] at hop;obtain ⟨z',hz,rfl⟩:=hop;exact (Xj ho hz hv ae (hdn d rfl) hf).wp hop0 hsim (fun a' w' hs=>hK _ a' w' hwp hs)
theorem ag5{dr:Bool}{K:af→Prop}{dst:Option Nat}{rest:List aC}{a:Act}{w:World}{Kw:Act→World→Prop}{Q:Exit→Act→World→Prop}{s:Option Nat}{x v:aM}(hop:dz c.P o=some (.br s x v))(ae:o.dst=dst)(hdn:∀ k,dst=some k→k<c.n)
  (hwp:bh c.P c.Y dr K (bn A dst (.br s x v) rest (aA rest))) (hsim:ct c A a w) (hK:∀ B a' w',bh c.P c.Y dr K (aA rest B)→ct c B a' w'→Kw a' w'):o.wpIn c.bp 9 c.P a w Kw Q:=by
 have hop0:=hop;simp only[bn] at hwp;split at hwp
 case h_2=>cases hwp
 split at hwp
 case h_2=>cases hwp
 rename_i n p hp;split at hwp
 case h_2=>cases hwp
 rename_i b hb;split at hwp
 case h_2=>cases hwp
 rename_i old hat;split at hwp
 case isFalse=>cases hwp
 rename_i hok;unfold dz at hop;split at hop <;>try (first | (simp at hop;done) | ((repeat' split at hop) <;>simp at hop;done))
 rename_i t y z ho;split at hop
 case h_2=>cases hop
 rename_i s' x' v' h1 h2 h3;split at hop
 case isFalse=>cases hop
 rename_i hk;simp only[t7,b9.br.injEq] at hop;obtain ⟨rfl,rfl,rfl⟩:=hop;exact (Xq ho h1 hk h2 h3 hp hb hat hok.1 hok.2.1 hok.2.2 ae).wp hop0 hsim (fun a' w' hs=>hK _ a' w' hwp hs)
theorem agV{dr:Bool}{K:af→Prop}{dst:Option Nat}{rest:List aC}{a:Act}{w:World}{Kw:Act→World→Prop}{Q:Exit→Act→World→Prop}{f:FuncId}{args:List aM}(hop:dz c.P o=some (.call f args))(ae:o.dst=dst)(hdn:∀ k,dst=some k→k<c.n)
  (hwp:bh c.P c.Y dr K (bn A dst (.call f args) rest (aA rest))) (hsim:ct c A a w) (hK:∀ B a' w',bh c.P c.Y dr K (aA rest B)→ct c B a' w'→Kw a' w'):o.wpIn c.bp 9 c.P a w Kw Q:=by
 have hop0:=hop;simp only[bn] at hwp;unfold dz at hop;split at hop <;>try (first | (simp at hop;done) | ((repeat' split at hop) <;>simp at hop;done))
 rename_i f' xs ts ho;split at hop
 case isFalse=>simp at hop
 simp only[zz1,b9.call.injEq] at hop;obtain ⟨ys,hys,rfl,rfl⟩:=hop;refine CN (vs:=xs.toList.map a.eval) hop0 rfl rfl (fun D E hs=>pH hs xs.toList ts.toList ys hys) hsim hwp ae hdn (fun hc =>?_) hK;have e:xs.map a.eval=(xs.toList.map a.eval).toArray:=by apply Array.ext';simp
 simp only[execOp,ho,resolve,Act.eval,Deferred.ofValue,Sem.run_bind,Sem.run_pure,Result.andThen_ok,invoke,Array.append_empty,Array.empty_append,ze hc];rw[←e]
theorem ag6{dr:Bool}{K:af→Prop}{dst:Option Nat}{rest:List aC}{a:Act}{w:World}{Kw:Act→World→Prop}{Q:Exit→Act→World→Prop}{f:FuncId}{args:List aM}(hop:dz c.P o=some (.kN f args))(ae:o.dst=dst)(hdn:∀ k,dst=some k→k<c.n)
  (hwp:bh c.P c.Y dr K (bn A dst (.kN f args) rest (aA rest))) (hsim:ct c A a w) (hK:∀ B a' w',bh c.P c.Y dr K (aA rest B)→ct c B a' w'→Kw a' w'):o.wpIn c.bp 9 c.P a w Kw Q:=by
 have hop0:=hop;simp only[bn] at hwp;unfold dz at hop;split at hop <;>try (first | (simp at hop;done) | ((repeat' split at hop) <;>simp at hop;done))
 rename_i f' xs ts ho;split at hop
 case isTrue=>simp at hop
 simp only[zz1,b9.kN.injEq] at hop;obtain ⟨ys,hys,rfl,rfl⟩:=hop;obtain ⟨D,E,hs⟩:=hsim;cases hwp with
 |ext r hdr hx hw =>
  obtain ⟨v,g1,g2⟩:=hx c a w D E (xs.toList.map a.eval) rfl hs (pH hs xs.toList ts.toList ys hys);have e:xs.map a.eval=(xs.toList.map a.eval).toArray:=by apply Array.ext';simp
  have hrun:(execOp a.eval o).run c.P w=.ok (.value v) w:=by
   simp only[execOp,ho,resolve,Act.eval,Deferred.ofValue,Sem.run_bind,Sem.run_pure,Result.andThen_ok,invoke,Array.append_empty,Array.empty_append];rw[←e] at g1;exact g1
  refine ⟨mE,?_⟩;rw[nc hop0,hrun,Oper.uponIn_value];exact hK _ _ _ hw ⟨D,E,by rw[ae];exact hs.aP hdn g2⟩
theorem agZ{dr:Bool}{K:af→Prop}{dst:Option Nat}{rest:List aC}{a:Act}{w:World}{Kw:Act→World→Prop}{Q:Exit→Act→World→Prop} (hop:dz c.P o=some (.jM))(ae:o.dst=dst)(hdn:∀ k,dst=some k→k<c.n)
  (hwp:bh c.P c.Y dr K (bn A dst (.jM) rest (aA rest))) (hsim:ct c A a w) (hK:∀ B a' w',bh c.P c.Y dr K (aA rest B)→ct c B a' w'→Kw a' w'):o.wpIn c.bp 9 c.P a w Kw Q:=by
 have hop0:=hop;simp only[bn] at hwp;split at hwp
 case h_2=>cases hwp
 rename_i d;split at hwp
 case h_2=>cases hwp
 rename_i hf;unfold dz at hop;split at hop <;>try (first | (simp at hop;done) | ((repeat' split at hop) <;>simp at hop;done))
 rename_i t ho;exact (Xn ho ae (hdn d rfl) hf).wp hop0 hsim (fun a' w' hs=>hK _ a' w' hwp hs)
theorem ag0{dr:Bool}{K:af→Prop}{dst:Option Nat}{rest:List aC}{a:Act}{w:World}{Kw:Act→World→Prop}{Q:Exit→Act→World→Prop}{e:TypeId}{bytes:Nat}{z:I}{n:aM}(hop:dz c.P o=some (.ka e bytes z n))(ae:o.dst=dst)(hdn:∀ k,dst=some k→k<c.n)
  (hwp:bh c.P c.Y dr K (bn A dst (.ka e bytes z n) rest (aA rest))) (hsim:ct c A a w) (hK:∀ B a' w',bh c.P c.Y dr K (aA rest B)→ct c B a' w'→Kw a' w'):o.wpIn c.bp 9 c.P a w Kw Q:=by
 have hop0:=hop;simp only[bn] at hwp;split at hwp
 case h_2=>cases hwp
 rename_i d;split at hwp
 case h_2=>cases hwp
 rename_i hf;split at hwp
 case h_2=>cases hwp
 rename_i k m hn;split at hwp
 case isFalse=>cases hwp
 rename_i hc;unfold dz at hop;split at hop <;>try (first | (simp at hop;done) | ((repeat' split at hop) <;>simp at hop;done))
 rename_i t l l' ho;split at hop
 case h_2=>cases hop
 rename_i e' n' hu hl;split at hop
 case h_2=>cases hop
 rename_i z' hz;split at hop
 case isFalse=>cases hop
 rename_i hc2;simp only[t7,b9.ka.injEq] at hop;obtain ⟨rfl,rfl,rfl,rfl⟩:=hop;obtain ⟨j,rfl⟩:=Int.eq_ofNat_of_zero_le hc.1;simp only[Int.toNat_natCast] at hc hwp;exact (Xo ho (alh hc2.1) hu hl hn hz hc2.2.1 hc2.2.2 hc.2.1 hc.2.2 ae (hdn d rfl) hf).wp hop0 hsim (fun a' w' hs=>hK _ a' w' hwp hs)
theorem ag1{dr:Bool}{K:af→Prop}{dst:Option Nat}{rest:List aC}{a:Act}{w:World}{Kw:Act→World→Prop}{Q:Exit→Act→World→Prop}{ty:cS}{m k v:aM}(hop:dz c.P o=some (.gB ty m k v))(ae:o.dst=dst)(hdn:∀ k,dst=some k→k<c.n)
  (hwp:bh c.P c.Y dr K (bn A dst (.gB ty m k v) rest (aA rest))) (hsim:ct c A a w) (hK:∀ B a' w',bh c.P c.Y dr K (aA rest B)→ct c B a' w'→Kw a' w'):o.wpIn c.bp 9 c.P a w Kw Q:=by
 have hop0:=hop;simp only[bn] at hwp;split at hwp
 case h_2=>cases hwp
 split at hwp
 case h_2=>cases hwp
 rename_i n hm;split at hwp
 case h_2=>cases hwp
 rename_i ks vs hn;split at hwp
 case h_2=>cases hwp
 rename_i ks' vs' hl;unfold dz at hop;split at hop <;>try (first | (simp at hop;done) | ((repeat' split at hop) <;>simp at hop;done))
 all_goals
  rename_i t mo ko vo ho;split at hop
  case h_2=>cases hop
  rename_i kt et m' k' hu h1 h2;split at hop
  case h_2=>cases hop
  rename_i ty' v' hk h3;simp only[t7,b9.gB.injEq] at hop;obtain ⟨rfl,rfl,rfl,rfl⟩:=hop
 ·exact (Df (.inl ho) hu hk h1 h2 h3 hm hn hl ae).wp hop0 hsim (fun a' w' hs=>hK _ a' w' hwp hs)
 ·exact (Df (.inr ho) hu hk h1 h2 h3 hm hn hl ae).wp hop0 hsim (fun a' w' hs=>hK _ a' w' hwp hs)
theorem ag4{dr:Bool}{K:af→Prop}{dst:Option Nat}{rest:List aC}{a:Act}{w:World}{Kw:Act→World→Prop}{Q:Exit→Act→World→Prop}{x:aM}(hop:dz c.P o=some (.kg x))(ae:o.dst=dst)(hdn:∀ k,dst=some k→k<c.n)
  (hwp:bh c.P c.Y dr K (bn A dst (.kg x) rest (aA rest))) (hsim:ct c A a w) (hK:∀ B a' w',bh c.P c.Y dr K (aA rest B)→ct c B a' w'→Kw a' w'):o.wpIn c.bp 9 c.P a w Kw Q:=by
 have hop0:=hop;simp only[bn] at hwp;split at hwp
 case h_2=>cases hwp
 rename_i d;split at hwp
 case h_2=>cases hwp
 rename_i hf;split at hwp
 case h_2=>cases hwp
 rename_i ks vs hx;unfold dz at hop;split at hop <;>try (first | (simp at hop;done) | ((repeat' split at hop) <;>simp at hop;done))
 rename_i t y ho;split at hop
 case h_2=>cases hop
 rename_i kt et hu;simp only[zz1,b9.kg.injEq] at hop;obtain ⟨z,hz,rfl⟩:=hop;exact (Xp ho hu hz hx ae (hdn d rfl) hf).wp hop0 hsim (fun a' w' hs=>hK _ a' w' hwp hs)
theorem ag3{dr:Bool}{K:af→Prop}{dst:Option Nat}{rest:List aC}{a:Act}{w:World}{Kw:Act→World→Prop}{Q:Exit→Act→World→Prop}{x:aM}(hop:dz c.P o=some (.iH x))(ae:o.dst=dst)(hdn:∀ k,dst=some k→k<c.n)
  (hwp:bh c.P c.Y dr K (bn A dst (.iH x) rest (aA rest))) (hsim:ct c A a w) (hK:∀ B a' w',bh c.P c.Y dr K (aA rest B)→ct c B a' w'→Kw a' w'):o.wpIn c.bp 9 c.P a w Kw Q:=by
 have hop0:=hop;simp only[bn] at hwp;split at hwp
 case h_2=>cases hwp
 rename_i n hx;split at hwp
 case h_2=>cases hwp
 rename_i ks vs left cur hn;unfold dz at hop;split at hop <;>try (first | (simp at hop;done) | ((repeat' split at hop) <;>simp at hop;done))
 rename_i y ho;simp only[zz1,b9.iH.injEq] at hop;obtain ⟨z,hz,rfl⟩:=hop;obtain ⟨D,E,hs⟩:=hsim;obtain ⟨w',v,hrun,hor⟩:=ai0 ho hz hx hn (by rw[ae];exact hdn) hs;refine ⟨mE,?_⟩;rw[nc hop0,hrun,Oper.uponIn_value];rw[ae] at hor;split at hwp
 ·rename_i hl;rcases hor with ⟨_,hor⟩ | ⟨i,k,x,hi,_⟩
  ·exact hK _ _ _ hwp (by rw[ae];exact hor)
  ·rw[hl] at hi;cases hi
 ·rename_i hl;rcases hor with ⟨h,_⟩ | ⟨i,k,x,hi,hk,hx,hor⟩
  ·exact absurd h hl
  ·cases hwp with
   |any hdr hall =>
    have:=hall i hi;simp only[hk,hx] at this;exact hK _ _ _ this (by rw[ae];exact hor)
theorem agW{dr:Bool}{K:af→Prop}{dst:Option Nat}{rest:List aC}{a:Act}{w:World}{Kw:Act→World→Prop}{Q:Exit→Act→World→Prop}{x:aM}{args:List aM}(hop:dz c.P o=some (.eF x args))(ae:o.dst=dst)(hdn:∀ k,dst=some k→k<c.n)
  (hwp:bh c.P c.Y dr K (bn A dst (.eF x args) rest (aA rest))) (hsim:ct c A a w) (hK:∀ B a' w',bh c.P c.Y dr K (aA rest B)→ct c B a' w'→Kw a' w'):o.wpIn c.bp 9 c.P a w Kw Q:=by
 have hop0:=hop;simp only[bn] at hwp;unfold dz at hop;split at hop <;>try (first | (simp at hop;done) | ((repeat' split at hop) <;>simp at hop;done))
 rename_i y xs ts _ ho;split at hop
 case h_2=>cases hop
 rename_i y' ys h1 h2;simp only[t7,b9.eF.injEq] at hop;obtain ⟨rfl,rfl⟩:=hop;obtain ⟨D,E,hs⟩:=hsim;have hv:=ca hs h1;split at hwp
 ·rename_i f caps hx;rw[hx] at hv;obtain ⟨cs,q1,q2⟩:=hv;simp only[ai] at q2;obtain ⟨vs,q3,q4⟩:=q2;have hval:a.eval y=.func (.func f) #[] vs.toArray:=by simpa[bM,I.isAgg,q3] using q1.symm
  refine CN (vs:=xs.toList.map a.eval++vs) hop0 rfl rfl (fun D' E' hs'=>(pH hs' xs.toList ts.toList ys h2).append ?_) ⟨D,E,hs⟩ hwp ae hdn (fun hc =>?_) hK
  ·have hv':=ca hs' h1;rw[hx] at hv';obtain ⟨cs',q1',q2'⟩:=hv';simp only[ai] at q2';obtain ⟨vs',q3',q4'⟩:=q2';have hval':a.eval y=.func (.func f) #[] vs'.toArray:=by simpa[bM,I.isAgg,q3'] using q1'.symm
   rw[hval] at hval';simp only[Value.func.injEq,true_and,Array.mk.injEq] at hval';subst hval';exact zi q4'
  ·have e:xs.map a.eval=(xs.toList.map a.eval).toArray:=by apply Array.ext';simp
   simp only[execOp,ho,resolve,hval,Deferred.ofValue,Sem.run_bind,Sem.run_pure,Result.andThen_ok,invoke,Array.empty_append,ze hc];rw[e];simp
 ·rename_i u hx;rw[hx] at hv;obtain ⟨cs,q1,q2⟩:=hv;simp only[ai] at q2;have hval:a.eval y=u:=by simpa[bM,I.isAgg,q2.1] using q1.symm
  refine Se (vs:=xs.toList.map a.eval) hop0 (fun D' E' hs'=>pH hs' xs.toList ts.toList ys h2) ⟨D,E,hs⟩ hwp ae hdn (fun l hl =>?_) hK;subst hl;have e:xs.map a.eval=(xs.toList.map a.eval).toArray:=by apply Array.ext';simp
  simp only[execOp,ho,resolve,hval,Deferred.ofValue,Sem.run_bind,Sem.run_pure,Result.andThen_ok,invoke,Array.empty_append];rw[e]
 ·cases hwp
theorem ag2{dr:Bool}{K:af→Prop}{dst:Option Nat}{rest:List aC}{a:Act}{w:World}{Kw:Act→World→Prop}{Q:Exit→Act→World→Prop}{neg:Bool}{x:aM}(hop:dz c.P o=some (.nilS neg x))(ae:o.dst=dst)(hdn:∀ k,dst=some k→k<c.n)
  (hwp:bh c.P c.Y dr K (bn A dst (.nilS neg x) rest (aA rest))) (hsim:ct c A a w) (hK:∀ B a' w',bh c.P c.Y dr K (aA rest B)→ct c B a' w'→Kw a' w'):o.wpIn c.bp 9 c.P a w Kw Q:=by
 have hop0:=hop;simp only[bn] at hwp;split at hwp
 case isFalse=>exact IJ hop ae hdn hsim hK hwp
 rename_i hu;cases hwp with
 |any hdr hall =>
 unfold dz at hop;split at hop <;>try (first | (simp at hop;done) | ((repeat' split at hop) <;>simp at hop;done))
 rename_i bop t y z yt ho;split at hop
 ·simp at hop
 ·simp at hop
 ·rename_i e y' z' hut h1 h2;split at hop
  ·rename_i s;split at hop
   ·rename_i hopp;simp only[t7,b9.nilS.injEq] at hop;obtain ⟨rfl,rfl⟩:=hop;have ho':o.op=.binOp (if (bop==.neq)=true then .neq else .eql) t y z yt:=by
     rcases hopp with rfl | rfl <;>simpa using ho
    obtain ⟨D,E,hs⟩:=hsim;have hund:∃ sz,ah A y'=.slice sz []∨ah A y'=.c0 sz:=by
     generalize ah A y'=q at hu;cases q <;>simp only[kj,zz6,List.isEmpty_iff] at hu
     ·rename_i sz;exact ⟨sz,.inr rfl⟩
     ·rename_i sz es;subst hu;exact ⟨sz,.inl rfl⟩
    obtain ⟨b,hrun⟩:=ai2 ho' hut h1 h2 hund hs;refine ⟨mE,?_⟩;rw[nc hop0,hrun,Oper.uponIn_value];have hb:=hall (if b then 0 else 1) (by cases b <;>simp);refine hK _ _ _ hb ⟨D,E,?_⟩;rw[ae];have e:((if b=true then (0:Nat) else 1)==0)=b:=by cases b <;>rfl
    rw[e];exact hs.aP hdn (oW b)
   ·cases hop
  ·cases hop
 ·split at hop <;>simp at hop
 ·split at hop <;>simp at hop
 ·cases hop
theorem agS{dr:Bool}{K:af→Prop}{dst:Option Nat}{rest:List aC}{a:Act}{w:World}{Kw:Act→World→Prop}{Q:Exit→Act→World→Prop}{e:TypeId}{esz bytes:Nat}{z:I}{s x:aM}(hop:dz c.P o=some (.c7 e esz bytes z s x))(ae:o.dst=dst)(hdn:∀ k,dst=some k→k<c.n)
  (hwp:bh c.P c.Y dr K (bn A dst (.c7 e esz bytes z s x) rest (aA rest))) (hsim:ct c A a w) (hK:∀ B a' w',bh c.P c.Y dr K (aA rest B)→ct c B a' w'→Kw a' w'):o.wpIn c.bp 9 c.P a w Kw Q:=by
 have hop0:=hop;simp only[bn] at hwp;unfold dz at hop;split at hop <;>try (first | (simp at hop;done) | ((repeat' split at hop) <;>simp at hop;done))
 rename_i args tys ho;split at hop
 case h_2=>cases hop
 rename_i y q t t' ha ht;split at hop
 case h_2=>cases hop
 rename_i e' s' x' k1 k2 k3;split at hop
 case isFalse=>split at hop <;>simp at hop
 rename_i hk;simp only[zz1,b9.c7.injEq] at hop;obtain ⟨zz,hz1,rfl,rfl,rfl,rfl,rfl,rfl⟩:=hop;obtain ⟨rfl,hk2,hk3⟩:=hk;have ha':args = #[y,q]:=by apply Array.ext';simpa using ha
 have ht':tys = #[t,t]:=by apply Array.ext';simpa using ht
 subst ha' ht';rw[hz1] at hk3;simp only[zy5,t7] at hk3;have hinfo:(c.P.info? e').isSome=true:=by
  obtain ⟨ti,_,hti,_⟩:=mA hz1;rw[hti];rfl
 have grow:∀ es ys,eD A (c.P.cellsOf e') (ah A s')=some es→eD A (c.P.cellsOf e') (ah A x')=some ys→ys≠[]→(∀ a w D E,aU c A a w D E→∀ ad l cp,a.eval y=.slice ad l cp→cp<l+ys.length) →
   bh c.P c.Y dr K (gu A dst (c.P.cellsOf e') (c.P.bytesOf e') zz es ys (aA rest))→o.wpIn c.bp 9 c.P a w Kw Q:=fun es ys hse hsx hne hfull h=>by
  simp only[gu] at h;split at h
  case h_2=>cases h
  rename_i d;split at h
  case h_2=>cases h
  rename_i hf;split at h
  case isFalse=>cases h
  rename_i hb;cases h with
  |any hdr hall =>
   obtain ⟨D,E,hs⟩:=hsim;obtain ⟨v,w',m,g1,g2,g3⟩:=PF ho k1 k2 k3 hz1 hk3 hse hsx hb.1 ae (hdn d rfl) hf hne hs (hfull a w D E hs) hb.2;refine ⟨mE,?_⟩;rw[nc hop0,g1,Oper.uponIn_value,ae];rw[ae] at g3;exact hK _ _ _ (hall m g2) g3
 split at hwp
 ·rename_i n l hs';split at hwp
  case h_2=>cases hwp
  rename_i sz ys hx';split at hwp
  case h_3=>cases hwp
  case h_2 =>
   rename_i T xs hn;split at hwp
   case isFalse=>cases hwp
   rename_i hok;obtain ⟨h1,h2,h3,h4,h5,h6,h7,h8⟩:=hok;subst h3 h4;have hl5:ys.length=(rr ys).length:=(congrArg List.length h5).trans (by simp);rw[hl5] at h7 h8 hwp;rw[h5] at hx';have hd':=Xg (o:=o) ho k1 k2 k3 hz1 h2 hs' hn h1 hx' (fun e=>h6 (by rw[h5,e];rfl)) h7 h8 (by rw[ae];exact hdn);exact hd'.wp hop0 hsim (fun a' w' hs=>by rw[ae] at hs;exact hK _ a' w' hwp hs)
  rename_i T sz' es hn;split at hwp
  case isFalse=>cases hwp
  rename_i hok;obtain ⟨h1,h2,h3,h4,h5,h6,h7⟩:=hok;subst h2 h3 h4;have hd':=Xf (o:=o) ho k1 k2 k3 hz1 hk3 hk2 hs' hn h1 hx' rfl h5 h6 h7 (by rw[ae];exact hdn);exact hd'.wp hop0 hsim (fun a' w' hs=>by rw[ae] at hs;exact hK _ a' w' hwp hs)
 ·simp only[fq] at hwp;split at hwp
  case h_2=>cases hwp
  rename_i es ys hse hsx;split at hwp
  ·rename_i hne;subst hne;exact ((Xi ho k1 hinfo k2 k3 hse hsx).does (by rw[ae];exact hdn)).wp hop0 hsim (fun a' w' hs=>by rw[ae] at hs;exact hK _ a' w' hwp hs)
  ·rename_i hne;have hpos:0<ys.length:=List.length_pos_iff.2 hne;split at hwp
   ·rename_i z0 hsv;refine grow es ys hse hsx hne (fun a w D E hs ad l cp hv =>?_) hwp;have h0:=ca hs k2;rw[hsv] at h0;obtain ⟨cs,q1,q2⟩:=h0;simp only[ai] at q2;have:a.eval y=.slice none 0 0:=by simpa[bM,I.isAgg,q2] using q1.symm
    rw[this] at hv;simp only[Value.slice.injEq] at hv;omega
   ·rename_i z0 hsv;refine grow es ys hse hsx hne (fun a w D E hs ad l cp hv =>?_) hwp;have h0:=ca hs k2;rw[hsv] at h0;obtain ⟨cs,q1,q2⟩:=h0;simp only[ai] at q2;obtain ⟨ad',q2⟩:=q2;have:a.eval y=.slice ad' 0 0:=by simpa[bM,I.isAgg,q2] using q1.symm
    rw[this] at hv;simp only[Value.slice.injEq] at hv;omega
   ·rename_i n p sz lo l hsv;split at hwp
    case h_2=>cases hwp
    rename_i b hn;split at hwp
    case h_2=>cases hwp
    rename_i fs hat;split at hwp
    ·rename_i hroom;split at hwp
     case isFalse=>cases hwp
     rename_i hok;obtain ⟨rfl,hsh⟩:=hok;exact (Xh ho k1 hinfo k2 k3 hsv hn hat hsx hroom hsh (by rw[ae];exact hdn)).wp hop0 hsim (fun a' w' hs=>by rw[ae] at hs;exact hK _ a' w' hwp hs)
    ·rename_i hroom;refine grow es ys hse hsx hne (fun a w D E hs ad l' cp hv =>?_) hwp;have h0:=ca hs k2;rw[hsv] at h0;obtain ⟨_,bb,cs,T,off,c1,c2,c3,_,_,_,_,_,_,_,_,_,_,r1,dP,qz⟩:=hs.view (fs:=fs) h0 (by simp only[cD,hn,hat]);rw[qz] at hv;simp only[Value.slice.injEq] at hv;omega
   ·cases hwp
theorem agT{dr:Bool}{K:af→Prop}{dst:Option Nat}{rest:List aC}{a:Act}{w:World}{Kw:Act→World→Prop}{Q:Exit→Act→World→Prop}{e:TypeId}{esz bytes:Nat}{z:I}{s n:aM}(hop:dz c.P o=some (.mF e esz bytes z s n))(ae:o.dst=dst)(hdn:∀ k,dst=some k→k<c.n)
  (hwp:bh c.P c.Y dr K (bn A dst (.mF e esz bytes z s n) rest (aA rest))) (hsim:ct c A a w) (hK:∀ B a' w',bh c.P c.Y dr K (aA rest B)→ct c B a' w'→Kw a' w'):o.wpIn c.bp 9 c.P a w Kw Q:=by
 have hop0:=hop;simp only[bn] at hwp;unfold dz at hop;split at hop <;>try (first | (simp at hop;done) | ((repeat' split at hop) <;>simp at hop;done))
 rename_i args tys ho;split at hop
 case h_2=>cases hop
 rename_i y q t t' ha ht;split at hop
 case h_2=>cases hop
 rename_i e' s' x' k1 k2 k3;split at hop
 case isTrue=>simp at hop
 split at hop
 case isFalse=>cases hop
 rename_i hk;simp only[zz1,b9.mF.injEq] at hop;obtain ⟨zz,hz1,rfl,rfl,rfl,rfl,rfl,rfl⟩:=hop;obtain ⟨hint,hk2,hk3⟩:=hk;have ha':args = #[y,q]:=by apply Array.ext';simpa using ha
 have ht':tys = #[t,t']:=by apply Array.ext';simpa using ht
 subst ha' ht';rw[hz1] at hk3;simp only[zy5,t7] at hk3;obtain ⟨kt,hkt⟩:∃ kt,c.P.underlying t'=some (.int kt):=by
  cases hu:c.P.underlying t' with
  |none=>rw[hu] at hint;cases hint
  |some dsc=>cases dsc <;>rw[hu] at hint <;>first | exact ⟨_,rfl⟩ | cases hint
 split at hwp
 case h_2=>cases hwp
 rename_i kx aX hx';simp only[vB] at hwp;split at hwp
 case h_2=>cases hwp
 rename_i es hse;split at hwp
 case h_2=>cases hwp
 rename_i nn p sz lo l hsv;split at hwp
 case h_2=>cases hwp
 rename_i bb hn;split at hwp
 case h_2=>cases hwp
 rename_i fs hat;split at hwp
 case isFalse=>cases hwp
 rename_i hroom;simp only[gu] at hwp;split at hwp
 case h_2=>cases hwp
 rename_i d;split at hwp
 case h_2=>cases hwp
 rename_i hf;split at hwp
 case isFalse=>cases hwp
 rename_i hb;rw[List.length_replicate] at hb;cases hwp with
 |any hdr hall =>
  obtain ⟨D,E,hs⟩:=hsim;obtain ⟨v,w',m,g1,g2,g3⟩:=PL ho k1 k2 k3 hkt hx' rfl hroom.1 hk2 hz1 hk3 hse hb.1 ae (hdn d rfl) hf hs (fun ad l' cp hv=>by
   have h0:=ca hs k2;rw[hsv] at h0;have hsv':=hse;obtain ⟨_,b1,cs,T,off,c1,c2,c3,_,_,_,_,_,_,_,_,_,_,r1,dP,qz⟩:=hs.view (fs:=fs) h0 (by simp only[cD,hn,hat]);rw[qz] at hv;simp only[Value.slice.injEq] at hv;have hel:es.length=l:=by
    rw[hsv] at hse;simp only[eD,cD,hn,hat] at hse;split at hse
    ·simp only[t7] at hse;rw[←hse,zy8,zy9];omega
    ·cases hse
   omega) hb.2
  refine ⟨mE,?_⟩;rw[nc hop0,g1,Oper.uponIn_value,ae];rw[ae] at g3;have:=hall m (by rw[List.length_replicate];exact g2);rw[List.length_replicate] at this;exact hK _ _ _ this g3
theorem agX{dr:Bool}{K:af→Prop}{dst:Option Nat}{rest:List aC}{a:Act}{w:World}{Kw:Act→World→Prop}{Q:Exit→Act→World→Prop}{esz:Nat}{z:I}{x:aM}(hop:dz c.P o=some (.jH esz z x))(ae:o.dst=dst)(hdn:∀ k,dst=some k→k<c.n)
  (hwp:bh c.P c.Y dr K (bn A dst (.jH esz z x) rest (aA rest))) (hsim:ct c A a w) (hK:∀ B a' w',bh c.P c.Y dr K (aA rest B)→ct c B a' w'→Kw a' w'):o.wpIn c.bp 9 c.P a w Kw Q:=by
 have hop0:=hop;simp only[bn] at hwp;split at hwp
 case h_2=>cases hwp
 unfold dz at hop;split at hop <;>try (first | (simp at hop;done) | ((repeat' split at hop) <;>simp at hop;done))
 rename_i args tys ho;split at hop
 case h_2=>cases hop
 rename_i y t ha ht;split at hop
 case h_2=>cases hop
 rename_i e' x' k1 k2;simp only[zz1,b9.jH.injEq] at hop;obtain ⟨zz,hz1,rfl,rfl,rfl⟩:=hop;have ha':args = #[y]:=by apply Array.ext';simpa using ha
 have ht':tys = #[t]:=by apply Array.ext';simpa using ht
 subst ha' ht';have nothing:bh c.P c.Y dr K (aA rest A)→(∀ a w D E,aU c A a w D E→∃ ad cp,a.eval y=.slice ad 0 cp)→o.wpIn c.bp 9 c.P a w Kw Q:=fun h hv=>by
  obtain ⟨D,E,hs⟩:=hsim;obtain ⟨ad,cp,hv⟩:=hv a w D E hs;refine ⟨mE,?_⟩;have hrun:(execOp a.eval o).run c.P w=.ok (.value (.tuple #[])) w:=by
   cases ad <;>simp[execOp,ho,resolve,invoke,builtin,Builtin.clear_,run_underlying k1,hv]
  rw[nc hop0,hrun,Oper.uponIn_value,ae];exact hK _ _ _ h ⟨D,E,hs⟩
 unfold ny at hwp;split at hwp
 ·rename_i n p sz lo l hv;split at hwp
  case h_2=>cases hwp
  rename_i b hn;split at hwp
  case h_2=>cases hwp
  rename_i fs hat;split at hwp
  case isFalse=>cases hwp
  rename_i hok;obtain ⟨rfl,hsh⟩:=hok;exact (Xl ho k1 k2 hz1 hv hn hat hsh ae).wp hop0 hsim (fun a' w' hs=>hK _ a' w' hwp hs)
 ·rename_i z0 hv;refine nothing hwp fun a w D E hs =>?_;have h0:=ca hs k2;rw[hv] at h0;obtain ⟨cs,q1,q2⟩:=h0;simp only[ai] at q2;exact ⟨none,0,by simpa[bM,I.isAgg,q2] using q1.symm⟩
 ·rename_i z0 hv;refine nothing hwp fun a w D E hs =>?_;have h0:=ca hs k2;rw[hv] at h0;obtain ⟨cs,q1,q2⟩:=h0;simp only[ai] at q2;obtain ⟨ad,q2⟩:=q2;exact ⟨ad,0,by simpa[bM,I.isAgg,q2] using q1.symm⟩
 ·cases hwp
theorem agY{dr:Bool}{K:af→Prop}{dst:Option Nat}{rest:List aC}{a:Act}{w:World}{Kw:Act→World→Prop}{Q:Exit→Act→World→Prop}{esz:Nat}{x y:aM}(hop:dz c.P o=some (.lR esz x y))(ae:o.dst=dst)(hdn:∀ k,dst=some k→k<c.n)
  (hwp:bh c.P c.Y dr K (bn A dst (.lR esz x y) rest (aA rest))) (hsim:ct c A a w) (hK:∀ B a' w',bh c.P c.Y dr K (aA rest B)→ct c B a' w'→Kw a' w'):o.wpIn c.bp 9 c.P a w Kw Q:=by
 have hop0:=hop;simp only[bn] at hwp;unfold dz at hop;split at hop <;>try (first | (simp at hop;done) | ((repeat' split at hop) <;>simp at hop;done))
 rename_i args tys ho;split at hop
 case h_2=>cases hop
 rename_i u v t t' ha ht;split at hop
 case h_2=>cases hop
 rename_i e' x' y' k1 k2 k3;split at hop
 case isFalse=>cases hop
 rename_i hk;simp only[t7,b9.lR.injEq] at hop;obtain ⟨rfl,rfl,rfl⟩:=hop;obtain ⟨rfl,hinfo⟩:=hk;have ha':args = #[u,v]:=by apply Array.ext';simpa using ha
 have ht':tys = #[t,t]:=by apply Array.ext';simpa using ht
 subst ha' ht';unfold sS at hwp;split at hwp
 ·rename_i n p sz lo l ys hv hsx;split at hwp
  case h_2=>cases hwp
  rename_i b hn;split at hwp
  case h_2=>cases hwp
  rename_i fs hat;split at hwp
  case isFalse=>cases hwp
  rename_i hok;obtain ⟨rfl,hsh⟩:=hok;exact (Xm ho k1 hinfo k2 k3 hv hn hat hsx rfl hsh (by rw[ae];exact hdn)).wp hop0 hsim (fun a' w' hs=>by rw[ae] at hs;exact hK _ a' w' hwp hs)
 ·cases hwp
theorem xH{dr:Bool}{K:af→Prop}{op:b9}{dst:Option Nat}{rest:List aC}{a:Act}{w:World}{Kw:Act→World→Prop}{Q:Exit→Act→World→Prop}(hop:dz c.P o=some op)(ae:o.dst=dst)(hdn:∀ k,dst=some k→k<c.n)
  (hwp:bh c.P c.Y dr K (bn A dst op rest (aA rest))) (hsim:ct c A a w) (hK:∀ B a' w',bh c.P c.Y dr K (aA rest B)→ct c B a' w'→Kw a' w'):o.wpIn c.bp 9 c.P a w Kw Q:=by
 cases op with
 |alloc z=>exact agR hop ae hdn hwp hsim hK
 |box x=>exact agU hop ae hdn hwp hsim hK
 |br s x v=>exact ag5 hop ae hdn hwp hsim hK
 |call f args=>exact agV hop ae hdn hwp hsim hK
 |kN f args=>exact ag6 hop ae hdn hwp hsim hK
 |jM=>exact agZ hop ae hdn hwp hsim hK
 |ka e bytes z n=>exact ag0 hop ae hdn hwp hsim hK
 |gB ty m k v=>exact ag1 hop ae hdn hwp hsim hK
 |kg x=>exact ag4 hop ae hdn hwp hsim hK
 |iH x=>exact ag3 hop ae hdn hwp hsim hK
 |eF x args=>exact agW hop ae hdn hwp hsim hK
 |nilS neg x=>exact ag2 hop ae hdn hwp hsim hK
 |c7 e esz bytes z s x=>exact agS hop ae hdn hwp hsim hK
 |mF e esz bytes z s n=>exact agT hop ae hdn hwp hsim hK
 |jH esz z x=>exact agX hop ae hdn hwp hsim hK
 |lR esz x y=>exact agY hop ae hdn hwp hsim hK
 |_=>exact IJ hop ae hdn hsim hK (by simpa only[bn] using hwp)
theorem xO{j t:Nat}{bd:Array Oper}{a:Act}{w:World}{b b':Bool}(hs:ct c A a w)(hg:o.guard=some (j,b))(ht:(bd[j]?).bind (·.dst)=some t)(hv:A.t t=.bool b'):Region.wanted o (yielded bd a.tmps)=(b'==b):=by
 obtain ⟨D,E,hs⟩:=hs;have h:=hs.ef t;rw[hv] at h;have h:=mq h;have hy:yielded bd a.tmps j=some b':=by
  unfold yielded;rw[ht];simp only[Option.bind_some];simp only[Array.getD_eq_getD_getElem?] at h;cases hh:a.tmps[t]? with
  |none=>simp[hh,undef] at h
  |some v=>simp only[hh,Option.getD_some] at h;subst h;rfl
 unfold Region.wanted;rw[hg];simp only[hy];cases b <;>cases b' <;>rfl
theorem xP{j t:Nat}{bd:Array Oper}{a:Act}{w:World}{b:Bool}(hs:ct c A a w)(hg:o.guard=some (j,b))(ht:(bd[j]?).bind (·.dst)=some t)(hv:A.t t=.undef):Region.wanted o (yielded bd a.tmps)=false:=by
 obtain ⟨D,E,hs⟩:=hs;have h:=hs.ef t;rw[hv] at h;simp only[aV] at h;have hy:yielded bd a.tmps j=none:=by
  unfold yielded;rw[ht];simp only[Option.bind_some];simp only[Array.getD_eq_getD_getElem?] at h;cases hh:a.tmps[t]? with
  |none=>rfl
  |some v=>simp only[hh,Option.getD_some] at h;subst h;rfl
 unfold Region.wanted;rw[hg];simp only[hy];rfl
theorem ct.qx{a:Act}{w:World}(h:ct c A a w){d:Option Nat}(ae:∀ k,d=some k→k<c.n):ct c (A.aP d .undef) (a.put d undef) w:=by
 obtain ⟨D,E,h⟩:=h;exact ⟨D,E,h.aP ae (by simp[aV])⟩
theorem tx{dr:Bool}{K:af→Prop}{bd:Array Oper}{Q:Exit→Act→World→Prop}(hQ:∀ B a w,K B→ct c B a w→Q .normal a w):∀ (l:List Oper) (gs:List aC) (A:af) (a:Act) (w:World),gJ c.P c.n bd l=some gs→bh c.P c.Y dr K (aA gs A) →
  ct c A a w→wpListIn c.bp 9 c.P bd Q l a w
 | [],gs,A,a,w,hc,hwp,hs=>by
  simp only[gJ,t7] at hc;subst hc;simp only[aA] at hwp;cases hwp with
  |done hk=>exact hQ A a w hk hs
 |o::l,gs,A,a,w,hc,hwp,hs=>by
  simp only[gJ] at hc;split at hc
  case h_2=>cases hc
  rename_i g gs' hg hgs;simp only[t7] at hc;subst hc;obtain ⟨h1,h2,h3,h4⟩:=pM hg;have step:bh c.P c.Y dr K (bn A g.dst g.op gs' (aA gs'))→o.wpIn c.bp 9 c.P a w (wpListIn c.bp 9 c.P bd Q l) Q:=fun h =>
   xH h1 h2.symm (by rw[h2];exact h3) h hs (fun B a' w' hw hs'=>tx hQ l gs' B a' w' hgs hw hs')
  simp only[wpListIn];simp only[aA] at hwp;rcases h4 with ⟨h5,h6⟩ | ⟨j,b,t,h5,h6,h7⟩
  ·rw[h6] at hwp;have hw:Region.wanted o (yielded bd a.tmps)=true:=by simp[Region.wanted,h5]
   rw[hw,if_pos rfl];exact step hwp
  ·rw[h7] at hwp;simp only at hwp;split at hwp
   ·rename_i b' hb';rw[xO hs h5 h6 hb'];split at hwp
    ·rename_i hbb;subst hbb;simp only[BEq.rfl,if_true];exact step hwp
    ·rename_i hbb;have:(b'==b)=false:=by simpa using hbb
     rw[this];simp only[zz6,if_false];exact ⟨fun f _=>oG c f,tx hQ l gs' _ _ w hgs hwp (by rw[h2];exact hs.qx h3)⟩
   ·rename_i hb';rw[xP hs h5 h6 hb'];simp only[zz6,if_false];exact ⟨fun f _=>oG c f,tx hQ l gs' _ _ w hgs hwp (by rw[h2];exact hs.qx h3)⟩
   ·cases hwp
end
def aM.sl:aM→List Nat
 | .t n=>[n]
 | .c _=>[]
def uc:Option aM→List Nat
 |some x=>x.sl
 |none=>[]
def kh(l:List aM):List Nat:=l.flatMap aM.sl
def b9.db:b9→List Nat
 | .mv x=>x.sl
 | .pick c a b=>c.sl++(a.sl++b.sl)
 | .bin _ x y=>x.sl++y.sl
 | .eqv _ _ x y=>x.sl++y.sl
 | .nilS _ x=>x.sl
 | .conv _ x=>x.sl
 | .un _ x=>x.sl
 | .ld _ x=>x.sl
 | .fa _ _ x=>x.sl
 | .fl _ _ _ x=>x.sl
 | .ia _ _ x i=>x.sl++i.sl
 | .is _ x i=>x.sl++i.sl
 | .ix _ _ _ x i=>x.sl++i.sl
 | .len x=>x.sl
 | .lenT x=>x.sl
 | .va _ _ x=>x.sl
 | .sl _ x lo hi mx=>x.sl++(uc lo++(uc hi++uc mx))
 | .bld _ ps=>kh (ps.map (·.2))
 | .bs _ _ ps=>kh ps
 | .ext x _=>x.sl
 | .mk _ caps=>kh caps
 | .alloc _=>[]
 | .box x=>x.sl
 | .br _ x v=>x.sl++v.sl
 | .c7 _ _ _ _ s x=>s.sl++x.sl
 | .mF _ _ _ _ s x=>s.sl++x.sl
 | .cap x=>x.sl
 | .bs0 _=>[]
 | .jH _ _ x=>x.sl
 | .lR _ x y=>x.sl++y.sl
 | .call _ args=>kh args
 | .eF x args=>x.sl++kh args
 | .kN _ args=>kh args
 | .nilC x=>x.sl
 | .ptrE _ x y=>x.sl++y.sl
 | .ka _ _ _ n=>n.sl
 | .jM=>[]
 | .lk _ _ _ m k=>m.sl++k.sl
 | .gB _ m k v=>m.sl++(k.sl++v.sl)
 | .kg x=>x.sl
 | .iH x=>x.sl
 | .ent x=>x.sl
def aC.db(g:aC):List Nat:=g.op.db++(match g.guard with | some (t,_)=>[t] | none=>[])
def b9.gK:b9→Nat
 | .mv _ | .pick .. | .bin .. | .eqv .. | .nilS .. | .conv .. | .un .. | .fl .. | .ix .. | .lenT _ | .bld .. | .ext .. | .mk .. | .nilC _ | .ptrE .. =>0
 | .ld .. | .fa .. | .ia .. | .is .. | .len _ | .va .. | .bs .. | .sl .. | .cap _ | .bs0 _ | .lk .. | .ent _=>1
 | .call .. | .eF .. =>2
 | .alloc _ | .box _=>3
 | .br .. =>4
 | .c7 .. | .mF .. | .jH .. | .lR .. | .kN .. | .ka .. | .jM | .gB .. | .kg _ | .iH _=>5
def vW(a b:Nat):Bool:=(decide (a≤2)&&decide (b≤3))||(a==0&&b==4)
def nM(g h:aC):Bool:=vW g.op.gK h.op.gK&&(match g.dst with
  |some d => !h.db.contains d&&h.dst != some d
  |none=>true)&&(match h.dst with
  |some d => !g.db.contains d
  |none=>true)
def eg(A A':af)(l:List Nat):Prop:=∀ k∈l,A'.t k=A.t k
section
variable {A A':af}
theorem dq{x:aM}(h:eg A A' x.sl):ah A' x=ah A x:=by
 cases x with
 |t n=>exact h n (by simp[aM.sl])
 |c x=>rfl
theorem eg.l{l m:List Nat}(h:eg A A' (l++m)):eg A A' l:=fun k hk=>h k (List.mem_append_left _ hk)
theorem eg.r{l m:List Nat}(h:eg A A' (l++m)):eg A A' m:=fun k hk=>h k (List.mem_append_right _ hk)
theorem mN:∀ {l:List aM},eg A A' (kh l)→l.map (ah A')=l.map (ah A)
 | [],_=>rfl
 |x::l,h=>by
  simp only[kh,List.flatMap_cons] at h;simp only[zz9,dq h.l,mN (l:=l) h.r]
theorem pW{x:Option aM}(h:eg A A' (uc x)):x.map (ah A')=x.map (ah A):=by
 cases x with
 |none=>rfl
 |some x=>simp only[zy5,dq (x:=x) h]
theorem Dv:∀ {l:List (Nat×aM)},eg A A' (kh (l.map (·.2)))→(l.map fun p=>(p.1,ah A' p.2))=l.map fun p=>(p.1,ah A p.2)
 | [],_=>rfl
 |x::l,h=>by
  simp only[kh,zz9,List.flatMap_cons] at h;simp only[zz9,dq h.l,Dv (l:=l) h.r]
theorem rF{f g:I→Option I}(h:∀ x v,f x=some v→g x=some v):∀ {xs vs:List I},fy f xs=some vs→fy g xs=some vs
 | [],vs,hx=>by simpa only[fy] using hx
 |x::xs,vs,hx=>by
  simp only[fy] at hx ⊢;cases h1:f x with
  |none=>rw[h1] at hx;cases hx
  |some y=>cases h2:fy f xs with
   |none=>rw[h1,h2] at hx;cases hx
   |some ys=>rw[h1,h2] at hx;rw[h x y h1,rF h h2];exact hx
theorem wH(hu:ep A A'):∀ (k:Nat) (x v:I),df A k x=some v→df A' k x=some v
 |0,_,_,h=>by simp[df] at h
 |k+1,x,v,h=>by
  have ih:=wH hu k;simp only[df] at h ⊢;split at h
  ·rename_i hc;rw[if_pos hc];exact h
  ·rename_i hc;rw[if_neg hc];cases x <;>simp only[] at h ⊢ <;>try (cases h;done)
   case agg fs =>
    simp only[zz1] at h ⊢;obtain ⟨a,h1,h2⟩:=h;exact ⟨a,rF ih h1,h2⟩
   case func f fs =>
    simp only[zz1] at h ⊢;obtain ⟨a,h1,h2⟩:=h;exact ⟨a,rF ih h1,h2⟩
   case ptr n p =>
    cases ae:cD A (.ptr n p) with
    |none=>rw[ae] at h;cases h
    |some y =>
     rw[ae] at h;rw[j6 hu ae];simp only[zz1] at h ⊢;obtain ⟨a,h1,h2⟩:=h;exact ⟨a,ih _ _ h1,h2⟩
   case view n p sz lo l =>
    cases ae:cD A (.ptr n p) with
    |none=>rw[ae] at h;cases h
    |some y=>rw[ae] at h;rw[j6 hu ae];exact h
   case mref n =>
    cases ho:A.o n with
    |none=>rw[ho] at h;cases h
    |some y =>
     rw[ho] at h;rw[hu n y ho];cases y <;>try (cases h;done)
     simp only at h ⊢;split at h
     ·rename_i hk;rw[if_pos hk];simp only[zz1] at h ⊢;obtain ⟨a,h1,h2⟩:=h;exact ⟨a,rF ih h1,h2⟩
     ·cases h
   case own n l =>
    cases ho:A.o n with
    |none=>rw[ho] at h;cases h
    |some y=>rw[ho] at h;rw[hu n y ho];exact h
mutual
theorem DK(hu:ep A A'){aD:Bool} : ∀ {x v:I},a6 aD A x=some v→a6 aD A' x=some v
 | .ptr n p,v,h=>by
  simp only[a6] at h ⊢;cases aD <;>simp only[zz6,if_false,if_true] at h ⊢
  ·exact h
  ·cases ae:cD A (.ptr n p) with
   |none=>rw[ae] at h;cases h
   |some y =>
    rw[ae] at h;rw[j6 hu ae];simp only at h ⊢;split at h
    ·rename_i hc;rw[if_pos hc];exact h
    ·rename_i hc;rw[if_neg hc];simp only[zz1] at h ⊢;obtain ⟨a,h1,h2⟩:=h;exact ⟨a,wH hu 9 _ _ h1,h2⟩
 | .mref n,v,h=>by
  simp only[a6] at h ⊢;cases aD <;>simp only[zz6,if_false,if_true] at h ⊢
  ·exact h
  ·cases ho:A.o n with
   |none=>rw[ho] at h;cases h
   |some y =>
    rw[ho] at h;rw[hu n y ho];cases y <;>try (cases h;done)
    simp only at h ⊢;split at h
    ·rename_i hk;rw[if_pos hk];simp only[zz1] at h ⊢;obtain ⟨a,h1,h2⟩:=h;exact ⟨a,rF (wH hu 9) h1,h2⟩
    ·cases h
 | .dx _,_,h=>by simp[a6] at h
 | .cM _ _,_,h=>by simpa only[a6] using h
 | .own n k,v,h=>by
  simp only[a6] at h ⊢;cases ho:A.o n with
  |none=>rw[ho] at h;cases h
  |some y=>rw[ho] at h;rw[hu n y ho];exact h
 | .view n p sz lo k,v,h=>by
  simp only[a6] at h ⊢;cases aD <;>simp only[zz6,if_false,if_true] at h ⊢
  ·exact h
  ·cases ae:cD A (.ptr n p) with
   |none=>rw[ae] at h;cases h
   |some y=>rw[ae] at h;rw[j6 hu ae];exact h
 | .func f caps,v,h=>by
  simp only[a6,zz1] at h ⊢;obtain ⟨a,h1,h2⟩:=h;exact ⟨a,lZ hu h1,h2⟩
 | .agg fs,v,h=>by
  simp only[a6,zz1] at h ⊢;obtain ⟨a,h1,h2⟩:=h;exact ⟨a,lZ hu h1,h2⟩
 | .nils _,_,h | .c0 _,_,h | .tuple _,_,h | .undef,_,h | .de,_,h | .bool _,_,h | .int _ _,_,h | .c6 _,_,h | .nilp,_,h | .dh,_,h | .dW,_,h | .raw _,_,h | .slice _ _,_,h | .ref _,_,h | .iface _ _,_,h=>by simpa only[a6] using h
theorem lZ(hu:ep A A'){aD:Bool} : ∀ {xs vs:List I},bV aD A xs=some vs→bV aD A' xs=some vs
 | [],vs,h=>by simpa only[bV] using h
 |x::xs,vs,h=>by
  simp only[bV] at h ⊢;cases h1:a6 aD A x with
  |none=>rw[h1] at h;cases h
  |some y=>cases h2:bV aD A xs with
   |none=>rw[h1,h2] at h;cases h
   |some ys=>rw[h1,h2] at h;rw[DK hu h1,lZ hu h2];exact h
end
theorem yQ{op:b9}(hc:op.gK=0)(h:eg A A' op.db):bt A' op=bt A op:=by
 cases op <;>simp only[b9.gK] at hc <;>try (cases hc;done)
 all_goals simp only[b9.db] at h
 case mv x=>simp only[bt,dq h]
 case pick c a b=>simp only[bt,dq h.l,dq h.r.l,dq h.r.r]
 case bin _ x y=>simp only[bt,dq h.l,dq h.r]
 case eqv _ _ x y=>simp only[bt,dq h.l,dq h.r]
 case nilS x=>simp only[bt,dq h]
 case conv x=>simp only[bt,dq h]
 case un x=>simp only[bt,dq h]
 case fl x=>simp only[bt,dq h]
 case ix x i=>simp only[bt,dq h.l,dq h.r]
 case lenT x=>simp only[bt,dq h]
 case bld zs ps=>simp only[bt,Dv h]
 case ext x i=>simp only[bt,dq h]
 case mk f caps=>simp only[bt,mN h]
 case nilC x=>simp only[bt,dq h]
 case ptrE neg x y=>simp only[bt,dq h.l,dq h.r]
theorem aiI(hu:ep A A'){m:I}{q:List I×List I}(h:gA A m=some q):gA A' m=some q:=by
 cases m with
 |mref n =>
  simp only[gA] at h ⊢;cases ae:A.o n with
  |none=>simp only[ae] at h;cases h
  |some y=>simp only[ae] at h;simp only[hu n y ae];exact h
 |raw v=>cases v <;>first | (cases h;done) | (rename_i m;cases m <;>first | exact h | cases h)
 |cM ks vs=>exact h
 |_=>simp only[gA] at h;cases h
theorem Kp{op:b9}(hu:ep A A')(h:eg A A' op.db){v:I}(hv:bt A op=some v):bt A' op=some v:=by
 by_cases hc:op.gK=0
 ·rw[yQ hc h];exact hv
 cases op <;>try (exact absurd rfl hc)
 all_goals simp only[b9.db] at h
 case ld s x =>
  simp only[bt,dq h] at hv ⊢;cases ae:cD A (ah A x) with
  |none=>rw[ae] at hv;cases hv
  |some y=>rw[ae] at hv;rw[j6 hu ae];exact hv
 case fa f off x =>
  simp only[bt,dq h] at hv ⊢;generalize ah A x=z at *;cases z <;>try (first | exact hv | (rename_i y;cases y <;>exact hv))
  rename_i n p;cases ae:cD A (.ptr n p) with
  |none=>simp only[ae] at hv;cases hv
  |some y=>simp only[ae] at hv;simp only[j6 hu ae];exact hv
 case ia n esz x i =>
  simp only[bt,dq h.l,dq h.r] at hv ⊢;generalize ah A x=z at *;cases z <;>try (first | exact hv | (rename_i y;cases y <;>exact hv))
  rename_i n p;cases ae:cD A (.ptr n p) with
  |none=>simp only[ae] at hv;(repeat' split at hv) <;>cases hv
  |some y=>simp only[ae] at hv;simp only[j6 hu ae];exact hv
 case is esz x i =>
  simp only[bt,dq h.l,dq h.r] at hv ⊢;generalize ah A i=q at *;cases q <;>try (exact hv)
  simp only at hv ⊢;generalize ah A x=z at *;cases z <;>try (first | exact hv | (rename_i y;cases y <;>exact hv))
  ·rename_i n p;cases ae:A.o n with
   |none=>simp only[ae] at hv;cases hv
   |some y=>simp only[ae] at hv;simp only[hu n y ae];exact hv
  ·rename_i n p sz lo k;simp only at hv ⊢;cases ae:cD A (.ptr n p) with
   |none=>simp only[ae] at hv;cases hv
   |some y=>simp only[ae] at hv;simp only[j6 hu ae];exact hv
 case len x =>
  simp only[bt,dq h] at hv ⊢;generalize ah A x=z at *;cases z <;>try (first | exact hv | (rename_i y;cases y <;>exact hv))
  rename_i n p;cases ae:A.o n with
  |none=>simp only[ae] at hv;cases hv
  |some y=>simp only[ae] at hv;simp only[hu n y ae];exact hv
 case cap x =>
  simp only[bt,dq h] at hv ⊢;generalize ah A x=z at *;cases z <;>try (first | exact hv | (rename_i y;cases y <;>exact hv))
  rename_i n p sz lo k;simp only at hv ⊢;cases ae:cD A (.ptr n p) with
  |none=>simp only[ae] at hv;cases hv
  |some y=>simp only[ae] at hv;simp only[j6 hu ae];exact hv
 case bs0 esz=>exact hv
 case sl esz x lo hi mx =>
  simp only[bt,dq h.l,pW h.r.l,pW h.r.r.l,pW h.r.r.r] at hv ⊢;generalize ah A x=z at *;cases z <;>try (first | exact hv | (rename_i y;cases y <;>exact hv))
  rename_i n p sz l0 k;simp only at hv ⊢;cases ae:cD A (.ptr n p) with
  |none=>simp only[ae] at hv;cases hv
  |some y=>simp only[ae] at hv;simp only[j6 hu ae];exact hv
 case va n esz x =>
  simp only[bt,dq h] at hv ⊢;generalize ah A x=z at *;cases z <;>try (first | exact hv | (rename_i y;cases y <;>exact hv))
  rename_i n p;cases ae:cD A (.ptr n p) with
  |none=>simp only[ae] at hv;cases hv
  |some y=>simp only[ae] at hv;simp only[j6 hu ae];exact hv
 case lk ty z ok m k =>
  simp only[bt,dq h.l,dq h.r] at hv ⊢;cases ae:gA A (ah A m) with
  |none=>rw[ae] at hv;cases hv
  |some y=>rw[ae] at hv;rw[aiI hu ae];exact hv
 case ent x =>
  simp only[bt,dq h] at hv ⊢;generalize ah A x=z at *;cases z <;>try (exact hv)
  rename_i n;simp only at hv ⊢;cases ae:A.o n with
  |none=>simp only[ae] at hv;cases hv
  |some y=>simp only[ae] at hv;simp only[hu n y ae];exact hv
 case bs esz ps =>
  simp only[bt,mN h] at hv ⊢;cases ae:bV false A (ps.map (ah A)) with
  |none=>rw[ae] at hv;cases hv
  |some y=>rw[ae] at hv;rw[lZ hu ae];exact hv
 all_goals (simp only[bt] at hv;cases hv)
end
def pass(A:af)(g:aC):Prop:=match g.guard with | none=>True | some (t,b)=>A.t t=.bool b
def gC(A:af)(g:aC):Prop:=match g.guard with | none=>False | some (t,b)=>A.t t=.bool (!b)∨A.t t=.undef
inductive jW (P:Program) (A:af):b9→I→Prop where
 |pure {op:b9} {v:I} : bt A op=some v→jW P A op v
 |flat {f:FuncId} {args:List aM} {cargs:List I} {r:I} : bV true A (args.map (ah A))=some cargs→aB P f cargs r→r.flat=true→jW P A (.call f args) r
 |lead {f:FuncId} {args:List aM} {cargs:List I} {r:I} : bV false A (args.map (ah A))=some cargs→aB P f cargs r→jW P A (.call f args) r
 |uV {x:aM} {f:FuncId} {caps:List I} {args:List aM} {cargs:List I} {r:I} : ah A x=.func f caps→bV true A (args.map (ah A)++caps)=some cargs→aB P f cargs r→r.flat=true→jW P A (.eF x args) r
 |uW {x:aM} {f:FuncId} {caps:List I} {args:List aM} {cargs:List I} {r:I} : ah A x=.func f caps→bV false A (args.map (ah A)++caps)=some cargs→aB P f cargs r→jW P A (.eF x args) r
def sv(A:af)(op:b9)(x:I):Prop:=op=.alloc x∨∃ y,op=.box y∧(ah A y).cn=true∧x=ah A y
def sw(A:af)(op:b9)(n:Nat)(z:aj):Prop:=∃ s x v p b old,op=.br s x v∧ah A x=.ptr n p∧A.o n=some (.box b)∧b.at p=some old∧yE s (ah A v) old∧z=.box (b.dM p (ah A v))
def O7(A:af)(dst:Option Nat)(op:b9)(B:af):Prop:=op.gK=5∧∀ (rest:List aC) (k:af→cQ),bn A dst op rest k=k B
theorem al6{A:af}{neg:Bool}{x:aM}{v:I}(h:bt A (.nilS neg x)=some v):kj (ah A x)=false:=by
 simp only[bt] at h;generalize ah A x=q at *;cases q <;>simp only[kj] <;>simp only at h <;>try (cases h;done)
 rename_i sz es;cases es with
 |nil=>simp at h
 |cons=>rfl
inductive fv (P:Program) (g:aC) (A:af):af→Prop where
 |skip:gC A g→fv P g A (A.aP g.dst .undef)
 |val {v:I} : pass A g→jW P A g.op v→fv P g A (A.aP g.dst v)
 |iF {d:Nat} {x:I} : pass A g→g.dst=some d→sv A g.op x→A.o d=none→fv P g A ((A.aO d (.box x)).put d (.ptr d []))
 |br {n:Nat} {z:aj} : pass A g→g.dst=none→sw A g.op n z→fv P g A (A.aO n z)
 |iC {B:af} : pass A g→O7 A g.dst g.op B→fv P g A B
theorem vH{b' b:Bool}(h:b'≠b):b' = !b:=by cases b <;>cases b' <;>simp_all
section
variable {P:Program} {Y:Value→List I→List (Nat×aj)→cV→Prop} {K:af→Prop}
theorem fv.JR{A:af}{g:aC}{rest:List aC}(hp:pass A g)(h:bh P Y true K (bn A g.dst g.op rest (aA rest))):∃ B,fv P g A B∧bh P Y true K (aA rest B):=by
 have pure:bh P Y true K (cY (bt A g.op) fun v=>aA rest (A.aP g.dst v))→∃ B,fv P g A B∧bh P Y true K (aA rest B):=by
  intro h;cases hv:bt A g.op with
  |none=>rw[hv] at h;cases h
  |some v=>rw[hv] at h;exact ⟨_,.val hp (.pure hv),h⟩
 obtain ⟨dst,op,gd⟩:=g;cases op with
 |alloc z =>
  simp only[bn] at h;split at h
  case h_2=>cases h
  split at h
  case h_2=>cases h
  rename_i ae _ ho;exact ⟨_,.iF hp rfl (.inl rfl) ho,h⟩
 |box x =>
  simp only[bn] at h;split at h
  case h_2=>cases h
  split at h
  case h_2=>cases h
  rename_i ae _ ho;split at h
  case isFalse=>cases h
  rename_i hv;exact ⟨_,.iF hp rfl (.inr ⟨x,rfl,hv,rfl⟩) ho,h⟩
 |br s x v =>
  simp only[bn] at h;split at h
  case h_2=>cases h
  split at h
  case h_2=>cases h
  rename_i n p hx;split at h
  case h_2=>cases h
  rename_i b hb;split at h
  case h_2=>cases h
  rename_i old hat;split at h
  case isFalse=>cases h
  rename_i hok;exact ⟨_,.br hp rfl ⟨s,x,v,p,b,old,rfl,hx,hb,hat,hok,rfl⟩,h⟩
 |nilS neg x =>
  simp only[bn] at h;split at h
  ·cases h with | any hdr=>cases hdr
  ·exact pure h
 |c7 e esz bytes z s x =>
  simp only[bn] at h;split at h
  ·rename_i n l hs';split at h
   case h_2=>cases h
   rename_i sz ys hx';split at h
   case h_3=>cases h
   case h_2 =>
    rename_i T xs hn;split at h
    case isFalse=>cases h
    rename_i hok;exact ⟨_,.iC hp ⟨rfl,fun rest k=>by simp only[bn,hs',hx',hn,if_pos hok]⟩,h⟩
   rename_i T sz' es hn;split at h
   case isFalse=>cases h
   rename_i hok;exact ⟨_,.iC hp ⟨rfl,fun rest k=>by simp only[bn,hs',hx',hn,if_pos hok]⟩,h⟩
  ·rename_i hno;have hg:∀ (rest:List aC) (k:af→cQ),bn A dst (.c7 e esz bytes z s x) rest k=fq A dst esz bytes z (ah A s) (eD A esz (ah A s)) (eD A esz (ah A x)) k:=fun rest k=>by
    simp only[bn]
   simp only[fq] at h hg;split at h
   case h_2=>cases h
   rename_i es ys hse hsx;simp only[hse,hsx] at hg;have grow:¬ bh P Y true K (gu A dst esz bytes z es ys (aA rest)):=fun h=>by
    simp only[gu] at h;split at h
    case h_2=>cases h
    split at h
    case h_2=>cases h
    split at h
    case isFalse=>cases h
    cases h with | any hdr=>cases hdr
   split at h
   ·rename_i hne;simp only[if_pos hne] at hg;exact ⟨_,.iC hp ⟨rfl,hg⟩,h⟩
   ·rename_i hne;simp only[if_neg hne] at hg;split at h
    ·exact absurd h grow
    ·exact absurd h grow
    ·rename_i n p sz lo l hsv;split at h
     case h_2=>cases h
     rename_i b hn;split at h
     case h_2=>cases h
     rename_i fs hat;split at h
     ·rename_i hroom;split at h
      case isFalse=>cases h
      rename_i hok;simp only[hsv,hn,hat,if_pos hroom,if_pos hok] at hg;exact ⟨_,.iC hp ⟨rfl,hg⟩,h⟩
     ·exact absurd h grow
    ·cases h
 |kN f args =>
  simp only[bn] at h;cases h with | ext r hdr=>cases hdr
 |mF e esz bytes z s n =>
  exfalso
  simp only[bn] at h;split at h
  case h_2=>cases h
  simp only[vB] at h;split at h
  case h_2=>cases h
  split at h
  case h_2=>cases h
  split at h
  case h_2=>cases h
  split at h
  case h_2=>cases h
  split at h
  case isFalse=>cases h
  simp only[gu] at h;split at h
  case h_2=>cases h
  split at h
  case h_2=>cases h
  split at h
  case isFalse=>cases h
  cases h with | any hdr=>cases hdr
 |jM =>
  simp only[bn] at h;split at h
  case h_2=>cases h
  rename_i d;split at h
  case h_2=>cases h
  rename_i hf;exact ⟨_,.iC hp ⟨rfl,fun rest k=>by simp only[bn,hf]⟩,h⟩
 |ka e bytes z n =>
  simp only[bn] at h;split at h
  case h_2=>cases h
  rename_i d;split at h
  case h_2=>cases h
  rename_i hf;split at h
  case h_2=>cases h
  rename_i k m hn;split at h
  case isFalse=>cases h
  rename_i hc;exact ⟨_,.iC hp ⟨rfl,fun rest k=>by simp only[bn,hf,hn,if_pos hc]⟩,h⟩
 |gB ty m key v =>
  simp only[bn] at h;split at h
  case h_2=>cases h
  split at h
  case h_2=>cases h
  rename_i n hm;split at h
  case h_2=>cases h
  rename_i ks vs hn;split at h
  case h_2=>cases h
  rename_i ks' vs' hl;exact ⟨_,.iC hp ⟨rfl,fun rest k=>by simp only[bn,hm,hn,hl]⟩,h⟩
 |kg x =>
  simp only[bn] at h;split at h
  case h_2=>cases h
  rename_i d;split at h
  case h_2=>cases h
  rename_i hf;split at h
  case h_2=>cases h
  rename_i ks vs hx;exact ⟨_,.iC hp ⟨rfl,fun rest k=>by simp only[bn,hf,hx]⟩,h⟩
 |iH x =>
  simp only[bn] at h;split at h
  case h_2=>cases h
  rename_i n hx;split at h
  case h_2=>cases h
  rename_i ks vs left cur hn;split at h
  ·rename_i hl;exact ⟨_,.iC hp ⟨rfl,fun rest k=>by simp only[bn,hx,hn,if_pos hl]⟩,h⟩
  ·cases h with | any hdr=>cases hdr
 |jH esz z x =>
  simp only[bn] at h;split at h
  case h_2=>cases h
  have hg:∀ (rest:List aC) (k:af→cQ),bn A none (.jH esz z x) rest k=ny A esz z k (ah A x):=fun rest k=>rfl;simp only[ny] at h hg;split at h
  ·rename_i n p sz lo l hv;split at h
   case h_2=>cases h
   rename_i b hn;split at h
   case h_2=>cases h
   rename_i fs hat;split at h
   case isFalse=>cases h
   rename_i hok;simp only[hv,hn,hat,if_pos hok] at hg;exact ⟨_,.iC hp ⟨rfl,hg⟩,h⟩
  ·rename_i z0 hv;simp only[hv] at hg;exact ⟨_,.iC hp ⟨rfl,hg⟩,h⟩
  ·rename_i z0 hv;simp only[hv] at hg;exact ⟨_,.iC hp ⟨rfl,hg⟩,h⟩
  ·cases h
 |lR esz x y =>
  have hg:∀ (rest:List aC) (k:af→cQ),bn A dst (.lR esz x y) rest k=sS A dst esz k (ah A x) (eD A esz (ah A y)):=fun rest k=>rfl;simp only[bn] at h;simp only[sS] at h hg;split at h
  ·rename_i n p sz lo l ys hv hsx;split at h
   case h_2=>cases h
   rename_i b hn;split at h
   case h_2=>cases h
   rename_i fs hat;split at h
   case isFalse=>cases h
   rename_i hok;simp only[hv,hsx,hn,hat,if_pos hok] at hg;exact ⟨_,.iC hp ⟨rfl,hg⟩,h⟩
  ·cases h
 |call f args =>
  simp only[bn] at h;generalize h1:bV true A (args.map (ah A))=a1 at h;generalize h2:bV false A (args.map (ah A))=a2 at h;cases h with
  |flat r hc hf hw=>exact ⟨_,.val hp (.flat h1 hc hf),hw⟩
  |lead r hc hw=>exact ⟨_,.val hp (.lead h2 hc),hw⟩
  |gN ns r hdr=>cases hdr
  |bT aD ρ os cargs post hdr=>cases hdr
 |eF x args =>
  simp only[bn] at h;split at h
  case h_3=>cases h
  case h_2=>cases h with | zI os cargs post hdr=>cases hdr
  rename_i f caps hx;generalize h1:bV true A (args.map (ah A)++caps)=a1 at h;generalize h2:bV false A (args.map (ah A)++caps)=a2 at h;cases h with
  |flat r hc hf hw=>exact ⟨_,.val hp (.uV hx h1 hc hf),hw⟩
  |lead r hc hw=>exact ⟨_,.val hp (.uW hx h2 hc),hw⟩
  |gN ns r hdr=>cases hdr
  |bT aD ρ os cargs post hdr=>cases hdr
 |_=>exact pure (by simpa only[bn] using h)
theorem fv.yr{A:af}{g:aC}{rest:List aC}(h:bh P Y true K (aA (g::rest) A)):∃ B,fv P g A B∧bh P Y true K (aA rest B):=by
 simp only[aA] at h;split at h
 ·rename_i hg;exact fv.JR (by simp only[pass,hg]) h
 ·rename_i t b hg;split at h
  ·rename_i b' hb;split at h
   ·rename_i hbb;subst hbb;exact fv.JR (by simp only[pass,hg];exact hb) h
   ·rename_i hbb;refine ⟨_,.skip (by simp only[gC,hg];exact .inl (by rw[hb,vH hbb])),h⟩
  ·rename_i hb;exact ⟨_,.skip (by simp only[gC,hg];exact .inr hb),h⟩
  ·cases h
theorem ov{A:af}{g:aC}{rest:List aC}(hp:pass A g):aA (g::rest) A=bn A g.dst g.op rest (aA rest):=by
 simp only[aA];cases hg:g.guard with
 |none=>rfl
 |some tb =>
  obtain ⟨t,b⟩:=tb;simp only[pass,hg] at hp;simp only[hp,if_true]
theorem fv.zH{A B:af}{g:aC}{rest:List aC}(h:fv P g A B)(hw:bh P Y true K (aA rest B)):bh P Y true K (aA (g::rest) A):=by
 cases h with
 |skip hn =>
  simp only[aA];cases hg:g.guard with
  |none=>simp only[gC,hg] at hn
  |some tb =>
   obtain ⟨t,b⟩:=tb;simp only[gC,hg] at hn;rcases hn with hn | hn
   ·simp only[hn];rw[if_neg (by cases b <;>simp)];exact hw
   ·simp only[hn];exact hw
 |val hp hv =>
  rw[ov hp];obtain ⟨dst,op,gd⟩:=g;cases hv with
  |pure hv =>
   have hv':bt A op=some _:=hv;cases op <;>try (simp only[bn,hv',cY] <;>first | exact hw | (simp only[bt] at hv';cases hv');done)
   all_goals first
    |(simp only[bt] at hv';cases hv';done)
    |(simp only[bn,al6 hv',zz6,if_false,hv',cY];exact hw)
  |flat h1 h2 h3=>simp only[bn,h1];exact .flat _ h2 h3 hw
  |lead h1 h2=>simp only[bn,h1];exact .lead _ h2 hw
  |uV h0 h1 h2 h3=>simp only[bn,h0,h1];exact .flat _ h2 h3 hw
  |uW h0 h1 h2=>simp only[bn,h0,h1];exact .lead _ h2 hw
 |iF hp ae hm ho =>
  rw[ov hp];obtain ⟨dst,op,gd⟩:=g;simp only at ae;subst ae;rcases hm with hm | ⟨y,hm,hv,rfl⟩ <;>simp only at hm <;>subst hm
  ·simp only[bn,ho];exact hw
  ·simp only[bn,ho,hv,if_true];exact hw
 |br hp ae hm =>
  rw[ov hp];obtain ⟨dst,op,gd⟩:=g;simp only at ae;subst ae;obtain ⟨s,x,v,p,b,old,h1,h2,h3,h4,h5,rfl⟩:=hm;simp only at h1;subst h1;simp only[bn,h2,h3,h4,if_pos h5];exact hw
 |iC hp hm =>
  rw[ov hp,hm.2];exact hw
theorem jW.cN{A A':af}{op:b9}{v:I}(h:jW P A op v)(hu:ep A A')(ha:eg A A' op.db):jW P A' op v:=by
 cases h with
 |pure h=>exact .pure (Kp hu ha h)
 |flat h1 h2 h3=>exact .flat (by rw[mN ha];exact lZ hu h1) h2 h3
 |lead h1 h2=>exact .lead (by rw[mN ha];exact lZ hu h1) h2
 |uV h0 h1 h2 h3=>simp only[b9.db] at ha;exact .uV (by rw[dq ha.l];exact h0) (by rw[mN ha.r];exact lZ hu h1) h2 h3
 |uW h0 h1 h2=>simp only[b9.db] at ha;exact .uW (by rw[dq ha.l];exact h0) (by rw[mN ha.r];exact lZ hu h1) h2
theorem jW.gN{A A':af}{op:b9}{v:I}(h:jW P A op v)(hc:op.gK=0)(ha:eg A A' op.db):jW P A' op v:=by
 cases h with
 |pure h=>exact .pure (by rw[yQ hc ha];exact h)
 |_=>simp[b9.gK] at hc
theorem nW{A A':af}{g:aC}(ha:eg A A' g.db)(h:pass A g):pass A' g:=by
 unfold pass at *;cases hg:g.guard with
 |none=>trivial
 |some tb=>simp only[hg] at h ⊢;rw[ha tb.1 (by simp[aC.db,hg])];exact h
theorem qk{A A':af}{g:aC}(ha:eg A A' g.db)(h:gC A g):gC A' g:=by
 unfold gC at *;cases hg:g.guard with
 |none=>simp only[hg] at h
 |some tb=>simp only[hg] at h ⊢;rw[ha tb.1 (by simp[aC.db,hg])];exact h
theorem aC.kJ{A A':af}{g:aC}(ha:eg A A' g.db):eg A A' g.op.db:=fun k hk=>ha k (List.mem_append_left _ hk)
def lI(P:Program)(g:aC)(A:af)(v:I):Prop:=(gC A g∧v=.undef)∨(pass A g∧jW P A g.op v)
theorem lI.step{A:af}{g:aC}{v:I}(h:lI P g A v):fv P g A (A.aP g.dst v):=by
 rcases h with ⟨h,rfl⟩ | ⟨h,k⟩
 ·exact .skip h
 ·exact .val h k
theorem lI.cN{A A':af}{g:aC}{v:I}(h:lI P g A v)(hu:ep A A')(ha:eg A A' g.db):lI P g A' v:=by
 rcases h with ⟨h,rfl⟩ | ⟨h,k⟩
 ·exact .inl ⟨qk ha h,rfl⟩
 ·exact .inr ⟨nW ha h,k.cN hu (aC.kJ ha)⟩
theorem lI.gN{A A':af}{g:aC}{v:I}(h:lI P g A v)(hc:g.op.gK=0)(ha:eg A A' g.db):lI P g A' v:=by
 rcases h with ⟨h,rfl⟩ | ⟨h,k⟩
 ·exact .inl ⟨qk ha h,rfl⟩
 ·exact .inr ⟨nW ha h,k.gN hc (aC.kJ ha)⟩
theorem fv.zD{A B:af}{g:aC}(h:fv P g A B)(hc:g.op.gK≤2):∃ v,lI P g A v∧B=A.aP g.dst v:=by
 cases h with
 |skip h=>exact ⟨_,.inl ⟨h,rfl⟩,rfl⟩
 |val h k=>exact ⟨_,.inr ⟨h,k⟩,rfl⟩
 |iF h1 h2 h3 h4=>rcases h3 with h3 | ⟨y,h3,_⟩ <;>(rw[h3] at hc;simp[b9.gK] at hc)
 |br h1 h2 h3=>obtain ⟨s,x,v,p,b,old,h4,_⟩:=h3;rw[h4] at hc;simp[b9.gK] at hc
 |iC h1 h3=>rw[h3.1] at hc;omega
theorem qy{A:af}{a b:Option Nat}{v u:I}(h:∀ d,a=some d→b≠some d):(A.aP a v).aP b u=(A.aP b u).aP a v:=by
 cases a with
 |none=>rfl
 |some d=>cases b with
  |none=>rfl
  |some e =>
   have hne:d≠e:=fun he=>h d rfl (by rw[he]);simp only[af.aP,af.put,af.mk.injEq,and_true]
   funext k
   by_cases h1:k=e <;>by_cases h2:k=d <;>simp_all
theorem iN{A:af}{d:Option Nat}{v:I} : (A.aP d v).o=A.o:=by cases d <;>rfl
theorem m3{A:af}{d:Option Nat}{v:I}{l:List Nat}(h:∀ k,d=some k→k∉l):eg A (A.aP d v) l:=by
 cases d with
 |none=>exact fun _ _=>rfl
 |some e =>
  intro k hk;have:k≠e:=fun he=>h e rfl (he▸hk);simp[af.aP,af.put,this]
theorem eg.symm{A A':af}{l:List Nat}(h:eg A A' l):eg A' A l:=fun k hk=>(h k hk).symm
theorem sv.same{A A':af}{op:b9}{x:I}(h:sv A op x)(ha:eg A A' op.db):sv A' op x:=by
 rcases h with h | ⟨y,h1,h2,h3⟩
 ·exact .inl h
 ·subst h1;have:=dq (x:=y) ha;exact .inr ⟨y,rfl,by rw[this];exact h2,by rw[this];exact h3⟩
theorem sw.same{A A':af}{op:b9}{n:Nat}{z:aj}(h:sw A op n z)(ho:A'.o=A.o)(ha:eg A A' op.db):sw A' op n z:=by
 obtain ⟨s,x,v,p,b,old,h1,h2,h3,h4,h5,h6⟩:=h;subst h1;simp only[b9.db] at ha;have e1:=dq ha.l;have e2:=dq ha.r;exact ⟨s,x,v,p,b,old,rfl,by rw[e1];exact h2,by rw[ho];exact h3,h4,by rw[e2];exact h5,by rw[e2];exact h6⟩
theorem ahO{g h:aC}(hi:nM g h=true):vW g.op.gK h.op.gK=true∧(∀ d,g.dst=some d→d∉h.db)∧(∀ d,g.dst=some d→h.dst≠some d)∧(∀ d,h.dst=some d→d∉g.db):=by
 simp only[nM,zz3] at hi;obtain ⟨⟨h1,h2⟩,h3⟩:=hi;refine ⟨h1,fun d ae =>?_,fun d ae =>?_,fun d ae =>?_⟩
 ·rw[ae] at h2;simp at h2;exact h2.1
 ·rw[ae] at h2;simp at h2;exact h2.2
 ·rw[ae] at h3;simpa using h3
theorem fv.swap{A B C:af}{g h:aC}(hi:nM g h=true)(h1:fv P g A B)(h2:fv P h B C):∃ B',fv P h A B'∧fv P g B' C:=by
 obtain ⟨hc,i1,i2,i3⟩:=ahO hi;simp only[vW,Bool.or_eq_true,zz3,decide_eq_true_eq,beq_iff_eq] at hc;have hg2:g.op.gK≤2:=by rcases hc with hc | hc <;>omega
 obtain ⟨v,hv,rfl⟩:=h1.zD hg2;have ag:eg (A.aP g.dst v) A h.db:=(m3 i1).symm;have cN:ep (A.aP g.dst v) A:=fun n x hx=>by rwa [iN] at hx
 cases h2 with
 |skip hn =>
  exact ⟨_,.skip (qk ag hn),by
   rw[qy i2];exact (hv.cN (by intro n x hx;rwa [iN]) (m3 i3)).step⟩
 |val hp hu =>
  exact ⟨_,.val (nW ag hp) (hu.cN cN (aC.kJ ag)),by
   rw[qy i2];exact (hv.cN (by intro n x hx;rwa [iN]) (m3 i3)).step⟩
 |iF hp ae hm ho =>
  rename_i d x;rw[iN] at ho;refine ⟨_,.iF (nW ag hp) ae (hm.same (aC.kJ ag)) ho,?_⟩;have e:((A.aP g.dst v).aO d (.box x)).put d (.ptr d [])=((A.aO d (.box x)).put d (.ptr d [])).aP g.dst v:=by
   cases hgd:g.dst with
   |none=>rfl
   |some e =>
    have hne:e≠d:=fun he=>i2 e hgd (by rw[ae,he]);simp only[af.aP,af.put,af.aO,af.mk.injEq,and_true]
    funext k
    by_cases h1:k=e <;>by_cases h2:k=d <;>simp_all
  rw[e];refine (hv.cN (fun n y hy =>?_) (fun k hk =>?_)).step
  ·have:n≠d:=fun he=>by rw[he,ho] at hy;cases hy
   simp only[af.put,af.aO,this,if_false];exact hy
  ·have:k≠d:=fun he=>i3 d ae (he▸hk);simp only[af.put,af.aO,this,if_false]
 |br hp ae hm =>
  rename_i n z;have hc0:g.op.gK=0:=by
   obtain ⟨s,x,v,p,b,old,h4,_⟩:=hm;rcases hc with hc | hc
   ·rw[h4] at hc;exact absurd hc.2 (by simp[b9.gK])
   ·exact hc.1
  refine ⟨_,.br (nW ag hp) ae (hm.same iN.symm (aC.kJ ag)),?_⟩;have e:(A.aP g.dst v).aO n z=(A.aO n z).aP g.dst v:=by cases g.dst <;>rfl
  rw[e];exact (lI.gN (A':=A.aO n z) hv hc0 (fun _ _=>rfl)).step
 |iC hp hm =>
  exfalso
  rw[hm.1] at hc;omega
theorem bh.swap{A:af}{g h:aC}{rest:List aC}(hi:nM g h=true)(hw:bh P Y true K (aA (g::h::rest) A)):bh P Y true K (aA (h::g::rest) A):=by
 obtain ⟨B,h1,h2⟩:=fv.yr hw;obtain ⟨C,h3,h4⟩:=fv.yr h2;obtain ⟨B',h5,h6⟩:=fv.swap hi h1 h3;exact h5.zH (h6.zH h4)
theorem bh.pK{g:aC} : ∀ {l:List aC} {r:List aC} {A:af},(∀ j∈l,nM j g=true)→bh P Y true K (aA (l++g::r) A)→bh P Y true K (aA (g::(l++r)) A)
 | [],r,A,_,h=>h
 |j::l,r,A,hi,h=>by
  obtain ⟨B,h1,h2⟩:=fv.yr (g:=j) (rest:=l++g::r) h;have h3:=bh.pK (l:=l) (r:=r) (fun k hk=>hi k (by simp[hk])) h2;exact bh.swap (hi j (by simp)) (h1.zH h3)
end
def c9(o:Oper):List Nat:=(o.after.toList.filter fun e=>Region.binds .any e).map (·.on)
def oi(cl:List Nat):List Nat→Nat
 | []=>0
 |k::ks=>(2^k ||| cl.getD k 0) ||| oi cl ks
def sU(on:List (List Nat))(gs:List aC)(cl:List Nat):Bool :=
 (List.range gs.length).all fun i=>(on.getD i []).all (fun k=>decide (k<i))&&Nat.beq (cl.getD i 0) (oi cl (on.getD i [])) &&
  (List.range i).all fun j=>(cl.getD i 0).testBit j||nM (gs.getD j default) (gs.getD i default)
theorem uU{cl:List Nat}{j:Nat} : ∀ {l:List Nat},(oi cl l).testBit j=true→j∈l∨∃ k∈l,(cl.getD k 0).testBit j=true
 | [],h=>by simp[oi] at h
 |k::ks,h=>by
  simp only[oi,Nat.testBit_or,Bool.or_eq_true,Nat.testBit_two_pow,decide_eq_true_eq] at h;rcases h with (h | h) | h
  ·exact .inl (by simp[h])
  ·exact .inr ⟨k,by simp,h⟩
  ·rcases uU h with h | ⟨m,h1,h2⟩
   ·exact .inl (by simp[h])
   ·exact .inr ⟨m,by simp[h1],h2⟩
structure u7 (l:List Oper) (gs:List aC):Prop where
 nt:∀ i o,l[i]?=some o→∀ k∈c9 o,k<i
 rq:∀ (S:Nat→Prop),(∀ i o,l[i]?=some o→S i→∀ k∈c9 o,S k)→∀ i o g j,l[i]?=some o→gs[i]?=some g→(∀ k∈c9 o,S k)→j<i→¬ S j→nM (gs.getD j default) g=true
theorem Xt{l:List Oper}{gs:List aC}{cl:List Nat}(hlen:gs.length=l.length)(h:sU (l.map c9) gs cl=true):u7 l gs:=by
 simp only[sU,zx9,zw7] at h;have dp:∀ i o,l[i]?=some o→∃ g,gs[i]?=some g∧(∀ k∈c9 o,k<i)∧(∀ j,(cl.getD i 0).testBit j=true→j∈c9 o∨∃ k∈c9 o,(cl.getD k 0).testBit j=true)∧∀ j,j<i→(cl.getD i 0).testBit j=true∨nM (gs.getD j default) g=true:=by
  intro i o ho;have hi:i<l.length:=(zy4.1 ho).1;have h1:=h i (by omega);have hon:(l.map c9).getD i []=c9 o:=by simp[zz2,ho]
  have hgi:i<gs.length:=by omega
  have hg:gs[i]?=some gs[i]:=zy0 hgi;have hgd:gs.getD i default=gs[i]:=by simp[zz2,hg]
  rw[hon,hgd] at h1;simp only[zz3,zx9,decide_eq_true_eq,Bool.or_eq_true,zw7] at h1;have hb:=Nat.eq_of_beq_eq_true h1.1.2;exact ⟨_,hg,h1.1.1,fun j hj=>uU (by rw[←hb];exact hj),h1.2⟩
 refine ⟨fun i o ho=>(dp i o ho).choose_spec.2.1,?_⟩;intro S hS i o g j ho hg hon hj hnj;have key:∀ n i o,i≤n→l[i]?=some o→(∀ k∈c9 o,S k)→∀ j,(cl.getD i 0).testBit j=true→S j:=by
  intro n
  induction n with
  |zero =>
   intro i o hi ho hon j hj;obtain ⟨g,_,h1,h2,_⟩:=dp i o ho;rcases h2 j hj with h | ⟨k,hk,_⟩
   ·exact hon j h
   ·have:=h1 k hk;omega
  |succ n ih =>
   intro i o hi ho hon j hj;obtain ⟨g,_,h1,h2,_⟩:=dp i o ho;rcases h2 j hj with h | ⟨k,hk,hjk⟩
   ·exact hon j h
   ·have hki:=h1 k hk;have hkl:k<l.length:=Nat.lt_trans hki (zy4.1 ho).1;obtain ⟨ok,hok⟩:∃ ok,l[k]?=some ok:=⟨l[k],zy0 hkl⟩
    exact ih k ok (by omega) hok (hS k ok hok (hon k hk)) j hjk
 obtain ⟨g',hg',_,_,h3⟩:=dp i o ho;rw[hg,t7] at hg';subst hg';rcases h3 j hj with h | h
 ·exact absurd (key i i o (zz8 _) ho hon j h) hnj
 ·exact h
def ju(listed:Array Bool)(n:Nat):List Nat:=(List.range n).filter fun i => !listed.getD i true
def o8(gs:List aC)(listed:Array Bool)(n:Nat):List aC:=(ju listed n).map fun i=>gs.getD i default
theorem Mg{i n:Nat}(h:i<n):List.range n=List.range i++i::(List.range (n-(i+1))).map (i+1 + ·):=by
 conv=>lhs;rw[show n=(i+1)+(n-(i+1)) by omega,List.range_add]
 rw[List.range_succ];simp
theorem akS{listed:Array Bool}{i n:Nat}(h:i<n)(hs:listed.size=n)(hu:listed.getD i true=false):∃ l1 l2,ju listed n=l1++i::l2∧ju (listed.setIfInBounds i true) n=l1++l2∧∀ j∈l1,j<i∧listed.getD j true=false:=by
 have same:∀ j,j≠i→(listed.setIfInBounds i true).getD j true=listed.getD j true:=fun j hj=>getD_set_ne true (Ne.symm hj);have hit:(listed.setIfInBounds i true).getD i true=true:=by simp[hs,h]
 refine ⟨(List.range i).filter fun j => !listed.getD j true,((List.range (n-(i+1))).map (i+1 + ·)).filter fun j => !listed.getD j true,?_,?_,?_⟩
 ·simp only[ju];rw[Mg h,List.filter_append,zw1];simp only[hu,Bool.not_false,if_true]
 ·simp only[ju];rw[Mg h,List.filter_append,zw1];simp only[hit,Bool.not_true,zz6,if_false]
  congr 1
  ·refine List.filter_congr fun j hj =>?_;rw[same j (by have:=zw7.1 hj;omega)]
  ·refine List.filter_congr fun j hj =>?_;obtain ⟨k,_,rfl⟩:=zx2.1 hj;rw[same _ (by omega)]
 ·intro j hj;simp only[zw4,zw7,Bool.not_eq_true'] at hj;exact hj
theorem Mm{n:Nat} : ju (Array.replicate n false) n=List.range n:=by
 simp only[ju];refine List.filter_eq_self.2 fun i hi =>?_;have:=zw7.1 hi;simp[this]
theorem aiJ(gs:List aC):((List.range gs.length).map fun i=>gs.getD i default)=gs:=by
 apply List.ext_getElem
 ·simp
 ·intro i h1 h2;simp[zz2,h2]
section
variable {c:cO}
theorem ku{P:Program}{n:Nat}{bd:Array Oper} : ∀ {l:List Oper} {gs:List aC},gJ P n bd l=some gs→gs.length=l.length∧∀ (i:Nat) (o:Oper),l[i]?=some o→∃ g,gs[i]?=some g∧oB P n bd o=some g
 | [],gs,h=>by simp only[gJ,t7] at h;subst h;exact ⟨rfl,fun i o ho=>by simp at ho⟩
 |o::l,gs,h=>by
  simp only[gJ] at h;split at h
  case h_2=>cases h
  rename_i g gs' hg hgs;simp only[t7] at h;subst h;obtain ⟨h1,h2⟩:=ku (l:=l) hgs;refine ⟨by simp[h1],fun i o' ho =>?_⟩;cases i with
  |zero=>simp only[List.getElem?_cons_zero,t7] at ho;subst ho;exact ⟨g,rfl,hg⟩
  |succ i=>simpa using h2 i o' (by simpa using ho)
theorem agQ{K:af→Prop}{bd:Array Oper}{Q:Exit→Act→World→Prop}{o:Oper}{g:aC}{rest:List aC}{A:af}{a:Act}{w:World}{Kw:Act→World→Prop}(hg:oB c.P c.n bd o=some g)(hwp:bh c.P c.Y true K (aA (g::rest) A))(hs:ct c A a w)
  (hK:∀ B a' w',bh c.P c.Y true K (aA rest B)→ct c B a' w'→Kw a' w'):if Region.wanted o (yielded bd a.tmps) then o.wpIn c.bp 9 c.P a w Kw Q else (∀ f,o.about c.P w a.eval=some f→c.bp.fn f)∧Kw (a.put o.dst undef) w:=by
 obtain ⟨h1,h2,h3,h4⟩:=pM hg;have step:bh c.P c.Y true K (bn A g.dst g.op rest (aA rest))→o.wpIn c.bp 9 c.P a w Kw Q:=fun h =>
  xH h1 h2.symm (by rw[h2];exact h3) h hs (fun B a' w' hw hs'=>hK B a' w' hw hs')
 simp only[aA] at hwp;rcases h4 with ⟨h5,h6⟩ | ⟨j,b,t,h5,h6,h7⟩
 ·rw[h6] at hwp;have hw:Region.wanted o (yielded bd a.tmps)=true:=by simp[Region.wanted,h5]
  rw[hw,if_pos rfl];exact step hwp
 ·rw[h7] at hwp;simp only at hwp;split at hwp
  ·rename_i b' hb';rw[xO hs h5 h6 hb'];split at hwp
   ·rename_i hbb;subst hbb;simp only[BEq.rfl,if_true];exact step hwp
   ·rename_i hbb;have:(b'==b)=false:=by simpa using hbb
    rw[this];simp only[zz6,if_false];exact ⟨fun f _=>oG c f,hK _ _ _ hwp (by rw[h2];exact hs.qx h3)⟩
  ·rename_i hb';rw[xP hs h5 h6 hb'];simp only[zz6,if_false];exact ⟨fun f _=>oG c f,hK _ _ _ hwp (by rw[h2];exact hs.qx h3)⟩
  ·cases hwp
theorem Pv{K:af→Prop}{bd:Array Oper}{gs:List aC}{Q:Exit→Act→World→Prop}(hQ:∀ B a w,K B→ct c B a w→Q .normal a w)(hgs:gJ c.P c.n bd bd.toList=some gs)(ae:u7 bd.toList gs) :
  ∀ (fuel:Nat) (listed:Array Bool) (A:af) (a:Act) (w:World),listed.size=bd.size→(∀ i o,bd.toList[i]?=some o→listed.getD i false=true→∀ k∈c9 o,listed.getD k false=true)→(ju listed bd.size).length≤fuel →
   bh c.P c.Y true K (aA (o8 gs listed bd.size) A)→ct c A a w→wpAnyIn c.bp 9 c.P .any bd Q fuel listed a w:=by
 obtain ⟨hlen,hat⟩:=ku hgs;have onOf_mem:∀ (o:Oper) (e:Edge),e∈o.after→Region.binds .any e=true→e.on∈c9 o:=fun o e he hb=>by
  simp only[c9,zx2,zw4];exact ⟨e,⟨by simpa using he,hb⟩,rfl⟩
 have of_onOf:∀ (o:Oper) (k:Nat),k∈c9 o→∃ e∈o.after,Region.binds .any e=true∧e.on=k:=fun o k hk=>by
  simp only[c9,zx2,zw4] at hk;obtain ⟨e,⟨h1,h2⟩,h3⟩:=hk;exact ⟨e,by simpa using h1,h2,h3⟩
 have last:∀ (listed:Array Bool) (A:af) (a:Act) (w:World),listed.size=bd.size→Region.ready .any bd listed=[]→bh c.P c.Y true K (aA (o8 gs listed bd.size) A)→ct c A a w→Q .normal a w:=by
  intro listed A a w hsz hr hwp hs;have hnone:ju listed bd.size=[]:=by
   have all:∀ n,∀ i,i<n→i<bd.size→listed.getD i true=true:=by
    intro n
    induction n with
    |zero=>intro i hi;omega
    |succ n ih =>
     intro i hi his;cases hb:listed.getD i true with
     |true=>rfl
     |false =>
      exfalso
      have ho:bd[i]?=some bd[i]:=Array.getElem?_eq_getElem his;have:i∈Region.ready .any bd listed:=mem_ready.2 ⟨hb,bd[i],ho,fun e he hbd=>by
       have hlt:=ae.nt i bd[i] (by simp) e.on (onOf_mem _ e he hbd);have h1:=ih e.on (by omega) (by omega);have h2:e.on<listed.size:=by omega
       simpa[Array.getD_eq_getD_getElem?,h2] using h1⟩
      rw[hr] at this;cases this
   simp only[ju];refine List.filter_eq_nil_iff.2 fun i hi =>?_;have:=all (i+1) i (by omega) (zw7.1 hi);simp only[this,Bool.not_true,zz6,not_false_eq_true]
  simp only[o8,hnone,zx3,aA] at hwp;cases hwp with
  |done hk=>exact hQ A a w hk hs
 intro fuel
 induction fuel with
 |zero =>
  intro listed A a w hsz hcl hcnt hwp hs;have hnone:ju listed bd.size=[]:=zv4.1 (by omega);have hr:Region.ready .any bd listed=[]:=by
   refine List.eq_nil_iff_forall_not_mem.2 fun i hi =>?_;obtain ⟨h1,o,ho,_⟩:=mem_ready.1 hi;have:i∈ju listed bd.size:=by
    simp only[ju,zw4,zw7,h1,Bool.not_false,and_true];exact (zx7.1 ho).1
   rw[hnone] at this;cases this
  exact ⟨hr,last listed A a w hsz hr hwp hs⟩
 |succ fuel ih =>
  intro listed A a w hsz hcl hcnt hwp hs;refine ⟨fun hr=>last listed A a w hsz hr hwp hs,fun i hi =>?_⟩;obtain ⟨hun,o,ho,hall⟩:=mem_ready.1 hi;have hin:i<bd.size:=(zx7.1 ho).1;obtain ⟨l1,l2,e1,e2,hl1⟩:=akS hin hsz hun;have hol:bd.toList[i]?=some o:=by simpa using ho
  obtain ⟨g,hgi,hcg⟩:=hat i o hol;have hon:∀ k∈c9 o,listed.getD k false=true:=fun k hk=>by
   obtain ⟨e,h1,h2,h3⟩:=of_onOf o k hk;exact h3▸hall e h1 h2
  have hgd:gs.getD i default=g:=by simp[zz2,hgi]
  have hwp':bh c.P c.Y true K (aA (g::o8 gs (listed.setIfInBounds i true) bd.size) A):=by
   simp only[o8,e1,zx4,zz9,hgd] at hwp;simp only[o8,e2,zx4];refine bh.pK (fun j hj =>?_) hwp;obtain ⟨k,hk,rfl⟩:=zx2.1 hj;obtain ⟨hk1,hk2⟩:=hl1 k hk;refine ae.rq (fun k=>listed.getD k false=true) hcl i o g k hol hgi hon hk1 ?_;have hks:k<listed.size:=by omega
   simp[Array.getD_eq_getD_getElem?,hks] at hk2 ⊢;exact hk2
  unfold wpOpIn;rw[ho];refine agQ hcg hwp' hs fun B a' w' hw hs'=>ih _ B a' w' (by simpa using hsz) ?_ ?_ hw hs'
  ·intro m om hom hm k hk;by_cases hmi:m=i
   ·subst hmi;rw[hol,t7] at hom;subst hom;exact getD_set_true (hon k hk)
   ·rw[getD_set_ne false (Ne.symm hmi)] at hm;exact getD_set_true (hcl m om hom hm k hk)
  ·have:(ju listed bd.size).length=(ju (listed.setIfInBounds i true) bd.size).length+1:=by
    rw[e1,e2];simp;omega
   omega
theorem akR{K:af→Prop}{bd:Array Oper}{gs:List aC}{Q:Exit→Act→World→Prop}{id:Nat}{A:af}{a:Act}{w:World}(hm:c.P.follows .mixedOrders=true)(hQ:∀ B a w,K B→ct c B a w→Q .normal a w)(hgs:gJ c.P c.n bd bd.toList=some gs)(ae:u7 bd.toList gs)
  (hwp:bh c.P c.Y true K (aA gs A)) (hs:ct c A a w):(Code.region id bd true).wpIn c.bp 9 c.P Q a w:=by
 refine wpIn_region_any hm (Pv hQ hgs ae bd.size (Array.replicate bd.size false) A a _ (by simp) ?_ ?_ ?_ ?_)
 ·intro i o _ h
  exfalso
  simp only[Array.getD_eq_getD_getElem?,Array.getElem?_replicate] at h;split at h <;>simp at h
 ·rw[Mm];simp
 ·have hl:=(ku hgs).1;simp only[zv0] at hl;simp only[o8,Mm];rw[←hl,aiJ];exact hwp
 ·obtain ⟨D,E,hs⟩:=hs;exact ⟨D,E,hs.grow (w' := { w with drawn:=w.drawn+1 }) ⟨rfl,rfl,rfl,zz8 _,fun _ _=>rfl⟩ (fun _ _ h=>h) (fun _ _ h _=>h) (fun b o h=>hs.dm b o h)⟩
end
inductive aR where
 |bW (on:Option (List (List Nat))) (gs:List aC)
 |seq (x y:aR)
 |cond (b:aM) (x y:aR)
 |block (id:Nat) (x:aR)
 |loop (x:aR)
 |exit (id:Nat)
 |ret
 |skip
 |scope (x:aR)
 |label
 |nu
 |ly (f:aM) (ps:List Nat) (x y:aR)
 deriving Inhabited
def eV(P:Program)(n:Nat):Code→Option aR
 | .region _ bd draw=>match gJ P n bd bd.toList with
  |some gs=>if (!draw||P.follows .mixedOrders)=true then some (.bW (bif draw then some (bd.toList.map c9) else none) gs) else none
  |none=>some .nu
 | .seq x y=>match eV P n x,eV P n y with
  |some x,some y=>some (.seq x y)
  |_,_=>none
 | .cond b x y=>match bH P 0 b,eV P n x,eV P n y with
  |some b,some x,some y=>some (.cond b x y)
  |_,_,_=>none
 | .block id x=>match eV P n x with
  |some x=>some (.block id x)
  |none=>none
 | .loop x=>match eV P n x with
  |some x=>some (.loop x)
  |none=>none
 | .exit id=>some (.exit id)
 | .ret=>some .ret
 | .skip=>some .skip
 | .scope x=>match eV P n x with
  |some x=>some (.scope x)
  |none=>none
 | .label _=>some .label
 | .rangeFunc f ps x y=>match bH P 0 f,eV P n x,eV P n y with
  |some f,some x,some y=>if (ps.toList.all fun p=>p<n)=true then some (.ly f ps.toList x y) else none
  |_,_,_=>none
 |_=>none
def Jr(c:cO)(Q:Exit→af→Prop):Exit→Act→World→Prop:=fun e a w=>∃ A,Q e A∧ct c A a w
def J(c:cO)(x:aR)(Q:Exit→af→Prop)(A:af):Prop :=
 ∀ code,eV c.P c.n code=some x→∀ a w,ct c A a w→code.wpIn c.bp 9 c.P (Jr c Q) a w
def aG(k:af→Prop)(Q:Exit→af→Prop):Exit→af→Prop
 | .normal,A=>k A
 |e,A=>Q e A
def cj(id:Nat)(Q:Exit→af→Prop):Exit→af→Prop
 | .exit id',A=>if id'=id then Q .normal A else Q (.exit id') A
 |e,A=>Q e A
section
variable {c:cO} {A:af} {Q:Exit→af→Prop}
def W8(d:Option (List (List Nat)))(gs:List aC)(cl:List Nat):Bool:=match d with
 |none=>true
 |some on=>sU on gs cl
theorem J.bW{d:Option (List (List Nat))}{gs:List aC}{cl:List Nat}(ae:W8 d gs cl=true)(h:∀ K:af→Prop,(∀ B,Q .normal B→K B)→bh c.P c.Y d.isSome K (aA gs A)):J c (.bW d gs) Q A:=by
 intro code hc a w hs;cases code <;>simp only[eV] at hc <;>try (first | (cases hc;done) | ((repeat' split at hc) <;>cases hc;done))
 rename_i id bd draw;split at hc
 ·rename_i gs' hgs;split at hc
  case isFalse=>cases hc
  rename_i hok;simp only[t7,aR.bW.injEq] at hc;obtain ⟨rfl,rfl⟩:=hc;cases draw with
  |false=>exact wpIn_region_list (tx (K:=Q .normal) (fun B a w hk hs=>⟨B,hk,hs⟩) bd.toList gs' A a w hgs (h _ fun _ hb=>hb) hs)
  |true =>
   simp only[Bool.not_true,Bool.false_or] at hok;exact akR (K:=Q .normal) hok (fun B a w hk hs=>⟨B,hk,hs⟩) hgs (Xt (ku hgs).1 ae) (h _ fun _ hb=>hb) hs
 ·cases hc
theorem J.seq{x y:aR}(h:J c x (aG (fun B=>J c y Q B) Q) A):J c (.seq x y) Q A:=by
 intro code hc a w hs;cases code <;>simp only[eV] at hc <;>try (first | (cases hc;done) | ((repeat' split at hc) <;>cases hc;done))
 rename_i cx cy;split at hc
 ·rename_i x' y' hx hy;simp only[t7,aR.seq.injEq] at hc;obtain ⟨rfl,rfl⟩:=hc;refine wpIn_seq (wpIn_mono (h cx hx a w hs) ?_);rintro e a' w' ⟨B,hq,hs'⟩;cases e <;>simp only[aG,Exit.then] at * <;>first | exact hq cy hy a' w' hs' | exact ⟨B,hq,hs'⟩
 ·cases hc
theorem J.cond{b:aM}{x y:aR}{t:Bool}(hb:ah A b=.bool t)(h1:t=true→J c x Q A)(h2:t=false→J c y Q A):J c (.cond b x y) Q A:=by
 intro code hc a w hs;cases code <;>simp only[eV] at hc <;>try (first | (cases hc;done) | ((repeat' split at hc) <;>cases hc;done))
 rename_i cb cx cy;split at hc
 ·rename_i b' x' y' hb' hx hy;simp only[t7,aR.cond.injEq] at hc;obtain ⟨rfl,rfl,rfl⟩:=hc;obtain ⟨D,E,hs'⟩:=hs;have hv:=ca hs' hb';rw[hb] at hv;exact wpIn_cond_split (mq hv) (fun ht=>h1 ht cx hx a w ⟨D,E,hs'⟩) (fun ht=>h2 ht cy hy a w ⟨D,E,hs'⟩)
 ·cases hc
theorem J.block{id:Nat}{x:aR}(h:J c x (cj id Q) A):J c (.block id x) Q A:=by
 intro code hc a w hs;cases code <;>simp only[eV] at hc <;>try (first | (cases hc;done) | ((repeat' split at hc) <;>cases hc;done))
 rename_i id' cx;split at hc
 ·rename_i x' hx;simp only[t7,aR.block.injEq] at hc;obtain ⟨rfl,rfl⟩:=hc;refine wpIn_block (wpIn_mono (h cx hx a w hs) ?_);rintro e a' w' ⟨B,hq,hs'⟩;cases e <;>simp only[cj,Exit.inBlock] at * <;>first
   |exact ⟨B,hq,hs'⟩
   |(split at hq
     ·rename_i he;rw[if_pos he];exact ⟨B,hq,hs'⟩
     ·rename_i he;rw[if_neg he];exact ⟨B,hq,hs'⟩)
 ·cases hc
theorem J.exit{id:Nat}(h:Q (.exit id) A):J c (.exit id) Q A:=by
 intro code hc a w hs;cases code <;>simp only[eV] at hc <;>try (first | (cases hc;done) | ((repeat' split at hc) <;>cases hc;done))
 simp only[t7,aR.exit.injEq] at hc;subst hc;exact wpIn_exit ⟨A,h,hs⟩
theorem J.ret(h:Q .ret A):J c .ret Q A:=by
 intro code hc a w hs;cases code <;>simp only[eV] at hc <;>try (first | (cases hc;done) | ((repeat' split at hc) <;>cases hc;done))
 exact wpIn_ret ⟨A,h,hs⟩
theorem J.skip(h:Q .normal A):J c .skip Q A:=by
 intro code hc a w hs;cases code <;>simp only[eV] at hc <;>try (first | (cases hc;done) | ((repeat' split at hc) <;>cases hc;done))
 exact wpIn_skip ⟨A,h,hs⟩
theorem Dw{p:Nat→Prop}(h:∃ n,p n):∃ n,p n∧∀ m,p m→n≤m:=by
 obtain ⟨n,hn⟩:=h
 induction n using Nat.strongRecOn with
 |_ n ih =>
  by_cases hm:∃ m,m<n∧p m
  ·obtain ⟨m,h1,h2⟩:=hm;exact ih m h1 h2
  ·exact ⟨n,hn,fun m hp=>Nat.le_of_not_lt fun hlt=>hm ⟨m,hlt,hp⟩⟩
open Classical in
noncomputable def least(p:Nat→Prop):Nat:=if h:∃ n,p n then (Dw h).choose else 0
theorem Jm{p:Nat→Prop}(h:∃ n,p n):p (least p)∧∀ m,p m→least p≤m:=by
 simp only[least,dif_pos h];exact (Dw h).choose_spec
theorem ame{bp:Fence}{N:Nat}{P:Program}{code:Code}{QQ:Exit→Act→World→Prop}(al:Nat→Act→World→Prop)(round:∀ n a w,al n a w→code.wpIn bp N P (Exit.then (fun a' w'=>∃ m,m<n∧al m a' w') QQ) a w) :
  ∀ n a w,al n a w→(Code.loop code).wpIn bp N P QQ a w:=by
 intro n a w h;refine wpIn_loop (fun a w=>∃ n,al n a w) (fun a w=>least fun n=>al n a w) ⟨n,h⟩ ?_;intro a w hI;have hm:=(Jm hI).1;refine wpIn_mono (round _ a w hm) ?_;intro e a' w' hq;cases e <;>simp only[Exit.then] at hq ⊢ <;>try exact hq
 obtain ⟨m,h1,h2⟩:=hq;exact ⟨⟨m,h2⟩,Nat.lt_of_le_of_lt ((Jm ⟨m,h2⟩).2 m h2) h1⟩
def aF(A B:af):Prop:=∀ (c:cO) (a:Act) (w:World),ct c A a w→ct c B a w
theorem aF.refl(A:af):aF A A:=fun _ _ _ h=>h
theorem aF.trans{A B C:af}(h:aF A B)(k:aF B C):aF A C:=fun c a w hs=>k c a w (h c a w hs)
theorem J.sub{x:aR}{B:af}(hsub:aF A B)(h:J c x Q B):J c x Q A:=fun code hc a w hs=>h code hc a w (hsub c a w hs)
theorem J.mono{x:aR}{Q':Exit→af→Prop}(h:J c x Q A)(hq:∀ e B,Q e B→Q' e B):J c x Q' A :=
 fun code hc a w hs=>wpIn_mono (h code hc a w hs) fun e a' w' ⟨B,h1,h2⟩=>⟨B,hq e B h1,h2⟩
theorem J.loop{σ:Type}(S:σ→af)(C:σ→Prop)(m:σ→Nat)(s0:σ){x:aR}(h0:C s0)(hsub:aF A (S s0))
  (round:∀ s,C s→J c x (aG (fun B=>∃ s',C s'∧m s'<m s∧aF B (S s')) Q) (S s)):J c (.loop x) Q A:=by
 intro code hc a w hs;cases code <;>simp only[eV] at hc <;>try (first | (cases hc;done) | ((repeat' split at hc) <;>cases hc;done))
 rename_i cx;split at hc
 ·rename_i x' hx;simp only[t7,aR.loop.injEq] at hc;subst hc;refine ame (fun n a w=>∃ s,C s∧m s=n∧ct c (S s) a w) ?_ (m s0) a w ⟨s0,h0,rfl,hsub c a w hs⟩;rintro n a w ⟨s,hC,rfl,hs⟩;refine wpIn_mono (round s hC cx hx a w hs) ?_;rintro e a' w' ⟨B,hq,hs'⟩;cases e <;>simp only[aG,Exit.then] at * <;>first
   |exact ⟨B,hq,hs'⟩
   |(obtain ⟨s',h1,h2,h3⟩:=hq;exact ⟨m s',h2,s',h1,rfl,h3 c a' w' hs'⟩)
 ·cases hc
end
inductive bg where
 |tmp (t:Nat)
 |cell (a:Nat) (s:Option Nat)
def iV(P:Program):List ResultVar→Option (List bg)
 | []=>some []
 | .tmp t::l=>(iV P l).map (.tmp t :: ·)
 | .cell a t::l=>match fS P t,iV P l with
  |some s,some l=>some (.cell a s::l)
  |_,_=>none
def uE(A:af):bg→Option I
 | .tmp t=>a6 true A (A.t t)
 | .cell a s=>match cD A (A.t a) with
  |some x=>if b8 s x then a6 true A x else none
  |none=>none
def fj(A:af):List bg→Option (List I)
 | []=>some []
 |r::rs=>match uE A r,fj A rs with
  |some x,some xs=>some (x::xs)
  |_,_=>none
def jq:List I→I
 | [x]=>x
 |xs=>.tuple xs
def po(args:List I):af:=⟨fun t=>args.getD t .undef,fun _=>none⟩
def jS(rs:List bg)(r:I):Exit→af→Prop
 | .ret,A=>∃ xs,fj A rs=some xs∧jq xs=r
 | .normal,A=>∃ xs,fj A rs=some xs∧jq xs=r
 |_,_=>False
def qH(args:List I)(os:List (Nat×aj)):af:=⟨fun t=>args.getD t .undef,ak os⟩
theorem alP{P:Program}{n:Nat}{w:World}{D:aT}{E:aW}{Y:Value→List I→List (Nat×aj)→cV→Prop}{args:List I}{os:List (Nat×aj)}{vs:List Value}(hD:∀ b o,D b o→b<w.heap.size)(ho:lG (fun _=>True) w D E (ak os))
  (hv:aJ w D E args vs) (hn:vs.length≤n) (hos:∀ m,av os m=true→n≤m∧1000000≤m) (hy:pB ⟨P,w,D,n,dC E,E,Y,none⟩) :
  aU ⟨P,w,D,n,dC E,E,Y,none⟩ (qH args os) { tmps:=vs.toArray++Array.replicate (n-vs.toArray.size) undef,defers:=[] } w D E:=by
 refine ⟨by simp;omega,⟨[],rfl,.nil,fun _ h=>by simp at h⟩,fun t =>?_,fN.refl _ _,fun _ _ h _=>h,hD,fun m =>?_,ho.c4,fun m e h=>.inr ⟨e,h,.refl e⟩,fun m hm =>?_,fun _ _ h=>h,hy,.refl _ _⟩
 ·have key:∀ (args:List I) (vs:List Value) (t:Nat),aJ w D E args vs→aV w D E (args.getD t .undef) (vs.getD t undef):=by
   intro args
   induction args with
   |nil=>intro vs t h;simp only[aJ] at h;subst h;simp[aV]
   |cons x xs ih =>
    intro vs t h;simp only[aJ] at h;obtain ⟨v,rest,cs,rfl,h1,h2,h3⟩:=h;cases t with
    |zero=>simpa using mW h1 h2
    |succ t=>simpa using ih rest t h3
  have:=key args vs t hv;have e:(vs.toArray++Array.replicate (n-vs.toArray.size) undef).getD t undef=vs.getD t undef:=by
   simp only[Array.getD_eq_getD_getElem?,zz2];rcases Nat.lt_or_ge t vs.length with h | h
   ·rw[Array.getElem?_append_left (by simpa using h)];simp
   ·rw[Array.getElem?_append_right (by simpa using h),List.getElem?_eq_none h];simp only[Array.getElem?_replicate];split <;>rfl
  simp only[qH];rw[e];exact this
 ·have h:=ho.bT m;simp only[qH];cases hx:ak os m with
  |none=>rw[hx] at h;exact h
  |some x =>
   rw[hx] at h;cases x with
   |box x =>
    obtain ⟨b,cs,T,k1,_,k3⟩:=h;exact ⟨b,cs,T,k1,.inr ⟨m,_,k1,rfl⟩,k3⟩
   |bR T sz es =>
    obtain ⟨aE,k1,k2,k3⟩:=h;refine ⟨aE,k1,k2,?_⟩;cases aE with
    |none=>exact k3
    |some bc =>
     obtain ⟨b,cap⟩:=bc;obtain ⟨cs,pre,rest,_,k4⟩:=k3;exact ⟨cs,pre,rest,.inr ⟨m,_,k1,rfl⟩,k4⟩
   |c5 T xs =>
    obtain ⟨aE,k1,k2,k3⟩:=h;refine ⟨aE,k1,k2,?_⟩;cases aE with
    |none=>exact k3
    |some bc =>
     obtain ⟨b,cap⟩:=bc;obtain ⟨cs,rest,_,k4⟩:=k3;exact ⟨cs,rest,.inr ⟨m,_,k1,rfl⟩,k4⟩
   |dO x =>
    obtain ⟨b,k1,_,k3⟩:=h;exact ⟨b,k1,.inr ⟨m,_,k1,rfl⟩,k3⟩
   |cC ks vs =>
    obtain ⟨b,es,ck,k1,_,k3⟩:=h;exact ⟨b,es,ck,k1,.inr ⟨m,_,k1,rfl⟩,k3⟩
   |it ks vs left cur =>
    obtain ⟨r,b,es,ck,si,se,la,k1,_,k3⟩:=h;exact ⟨r,b,es,ck,si,se,la,k1,.inr ⟨m,_,k1,rfl⟩,k3⟩
 ·have h:=ho.bT m;refine hos m ?_;cases hx:ak os m with
  |none=>rw[hx] at h;exact absurd h hm
  |some x=>simp[av,hx]
def rX(tmps:Array Value):ResultVar→Sem Value
 | .tmp t=>pure (tmps.getD t undef)
 | .cell a t=>do loadVar t (←asAddr (tmps.getD a undef))
theorem ak2(fn:Func)(tmps:Array Value):results fn tmps=(do
  let vs ←fn.results.mapM (rX tmps)
  pure (if h:vs.size=1 then vs[0] else .tuple vs)):=by
 unfold results;rfl
def uv(A:af):bg→Option I
 | .tmp t=>some (A.t t)
 | .cell a s=>match cD A (A.t a) with
  |some x=>if b8 s x then some x else none
  |none=>none
def m7(A A0:af)(os:List (Nat×aj)):List bg→List I→Prop
 | [],[]=>True
 |r::rs,y::ys=>(∃ x,uv A r=some x∧((y=x∧x.cn=true∧x.only (av os)=true)∨a6 true A0 x=some y))∧m7 A A0 os rs ys
 |_,_=>False
def af.lB(A:af)(os:List (Nat×aj)):af:=⟨A.t,fun n=>if av os n then none else A.o n⟩
def kR(rs:List bg)(post:cV)(A:af):Prop :=
 ∃ (os:List (Nat×aj)) (xs:List I),(∀ n x,ak os n=some x→A.o n=some x∧x.only (av os)=true∧x.eR=true)∧m7 A (A.lB os) os rs xs∧post (jq xs) os
def nY(rs:List bg)(post:cV):Exit→af→Prop
 | .ret,A=>kR rs post A
 | .normal,A=>kR rs post A
 |_,_=>False
theorem y9{c:cO}{A:af}{a:Act}{w:World}{D:aT}{E:aW}(hs:aU c A a w D E){A0:af}(hu:ep A0 A){os:List (Nat×aj)}{D':aT}{E':aW}(hw:iz true A0 D E D')(aw:∀ n,av os n=true→E' n=E n)(hE':∀ n,av os n=false→E' n=none) :
  ∀ (rs:List ResultVar) (ls:List bg) (xs:List I),iV c.P rs=some ls→m7 A A0 os ls xs→∃ vs:List Value,(rs.mapM (rX a.tmps)).run c.P w=.ok vs w∧aJ w D' E' xs vs
 | [],ls,xs,hc,hr=>by
  simp only[iV,t7] at hc;subst hc;cases xs with
  |nil=>exact ⟨[],by simp,by simp[aJ]⟩
  |cons x xs=>simp[m7] at hr
 |r::rs,ls,xs,hc,hr=>by
  have hl:dS w D E' w D' E':=⟨hw.da,fun _ _ _ _ h=>h,fun _ _ _ h=>h,fun _ aE l h=>⟨aE,l,h,zz8 _,fun _=>rfl⟩,fun _ _ h=>h,fun _ _ h=>h,fun _ _ _ _ h=>h⟩
  have fin1:∀ {x y:I} {v:Value},aV w D E x v→((y=x∧x.cn=true∧x.only (av os)=true)∨a6 true A0 x=some y)→∃ cs,bM y v cs∧ai w D' E' y cs:=by
   intro x y v hv hf;rcases hf with ⟨rfl,h1,h2⟩ | hf
   ·have h3:=aV.bN hl (aV.dF aw h2 hv);cases y <;>simp only[aV] at h3 <;>first | (simp[I.cn] at h1;done) | exact h3
   ·have h1:aJ w D E [x] [v]:=mu [x] [v] (.cons hv .nil) (by
     intro z hz;simp only[zv7] at hz;subst hz;cases z <;>simp_all[a6,I.cn])
    have h2:=lY (E':=E') hs hu hw [x] [y] [v] h1 (by simp[bV,hf]);simp only[aJ] at h2;obtain ⟨v',rest,cs,e,k1,k2,_⟩:=h2;simp only[List.cons.injEq] at e;obtain ⟨rfl,_⟩:=e;exact ⟨cs,k1,k2⟩
  cases r with
  |tmp t =>
   simp only[iV,zz1] at hc;obtain ⟨ls',hl',rfl⟩:=hc;cases xs with
   |nil=>simp[m7] at hr
   |cons y ys =>
    simp only[m7] at hr;obtain ⟨⟨x,h1,h2⟩,h3⟩:=hr;simp only[uv,t7] at h1;subst h1;obtain ⟨vs,k1,k2⟩:=y9 hs hu hw aw hE' rs ls' ys hl' h3;obtain ⟨cs,k3,k4⟩:=fin1 (hs.ef t) h2;refine ⟨a.tmps.getD t undef::vs,?_,?_⟩
    ·simp only[List.mapM_cons,Sem.run_bind,rX,Sem.run_pure,Result.andThen_ok,k1]
    ·simp only[aJ];exact ⟨_,vs,cs,rfl,k3,k4,k2⟩
  |cell ad t =>
   simp only[iV] at hc;split at hc
   ·rename_i s ls' hk hl';simp only[t7] at hc;subst hc;cases xs with
    |nil=>simp[m7] at hr
    |cons y ys =>
     simp only[m7] at hr;obtain ⟨⟨x,h1,h2⟩,h3⟩:=hr;obtain ⟨vs,k1,k2⟩:=y9 hs hu hw aw hE' rs ls' ys hl' h3;simp only[uv] at h1;split at h1
     ·rename_i z hz;split at h1
      ·rename_i hok;simp only[t7] at h1;subst h1;obtain ⟨b,off,cs,q1,q2,q3⟩:=hs.AE (hs.ef ad) hz;obtain ⟨v,q4,q5⟩:=MH hk hok q2 q3;obtain ⟨cs',k3,k4⟩:=fin1 q5 h2;refine ⟨v::vs,?_,?_⟩
       ·have e:(rX a.tmps (.cell ad t)).run c.P w=.ok v w:=by
         simp only[rX,Sem.run_bind,q1,asAddr,Sem.run_pure,Result.andThen_ok,q4]
        simp only[List.mapM_cons,Sem.run_bind,Sem.run_pure,Result.andThen_ok,k1,e]
       ·simp only[aJ];exact ⟨_,vs,cs',rfl,k3,k4,k2⟩
      ·cases h1
     ·cases h1
   ·cases hc
theorem aU.Ub{c:cO}{A:af}{a:Act}{w:World}{D:aT}{E:aW}(h:aU c A a w D E){B:Nat}{bC:List Deferred}(ae:a.defers = { target:=.collected B,args := #[] } :: bC) :
  w.heap[B]?=some (.deferred (some []))∧aU c A { a with defers:=bC } (w.putObj B (.deferred none)) D E:=by
 obtain ⟨Bs,h1,h2,h3⟩:=h.eT;rw[ae] at h1;cases Bs with
 |nil=>cases h1
 |cons B' Bs =>
  simp only[zz9,List.cons.injEq,Deferred.mk.injEq,Target.collected.injEq,and_true] at h1;obtain ⟨rfl,rfl⟩:=h1;have hB:=h3 B (by simp);have hlt:B<w.heap.size:=(zx7.1 hB.2).1;have hl:dS w D E (w.putObj B (.deferred none)) D E :=
   ⟨fun _ _ h=>h,fun b o v _ hv=>vS hB.2 rfl hv,fun _ _ _ h=>h,fun _ aE l h=>⟨aE,l,h,zz8 _,fun _=>rfl⟩,fun _ _ h=>h,fun _ _ h=>h,fun b es ck _ hm=>(World.putObj_heap_other (fun e=>by rw[e,hB.2] at hm;cases hm)).trans hm⟩
  have hne:∀ {b:Nat} {cs:Array Value} {T:TypeId},w.heap[b]?=some (.cells cs T (0,0))→(w.putObj B (.deferred none)).heap[b]?=w.heap[b]?:=fun {b cs T} hb =>
   World.putObj_heap_other (fun e=>by rw[e,hB.2] at hb;cases hb)
  refine ⟨hB.2,h.sz,⟨Bs,rfl,(List.nodup_cons.1 h2).2,fun B2 hB2=>⟨(h3 B2 (by simp[hB2])).1,?_⟩⟩,fun t=>aV.bN hl (h.ef t),h.dQ.trans ⟨rfl,rfl,rfl,by simp,fun k hk =>?_⟩,h.da,fun b o ae=>by have:=h.dm b o ae;simpa using this,fun n =>?_,h.c4,h.dV,h.eZ,h.cN,h.fe,h.lC hl⟩
  ·rw[World.putObj_heap_other (fun e=>(List.nodup_cons.1 h2).1 (by rw[←e];exact hB2))];exact (h3 B2 (by simp[hB2])).2
  ·exact World.putObj_heap_other (fun e=>hk (e▸.inl hB.1))
  ·refine (h.bT n).bN hl rfl fun e b he hb=>⟨?_,fun _ h=>h⟩
   have hob:=h.bT n;unfold di at hob;split at hob
   ·rw[hob] at he;cases he
   ·obtain ⟨b',cs,T,k1,_,k3,_⟩:=hob;rw[k1,t7] at he;subst he;simp only[bS.aE,t7] at hb;subst hb;exact hne k3
   ·obtain ⟨aE,k1,_,k3⟩:=hob;rw[k1,t7] at he;subst he;split at k3
    ·simp[bS.aE] at hb
    ·obtain ⟨cs,pre,rest,_,k5,_⟩:=k3;simp only[bS.aE,t7] at hb;subst hb;exact hne k5
   ·obtain ⟨b',k1,_,k3,k4,_⟩:=hob;rw[k1,t7] at he;subst he;simp only[bS.aE,t7] at hb;subst hb;exact World.putObj_heap_other (fun e=>by rw[e,hB.2] at k3;cases k3;cases k4)
   ·obtain ⟨b',es,ck,k1,_,k3,_⟩:=hob;rw[k1,t7] at he;subst he;cases hb;exact World.putObj_heap_other (fun e=>by rw[e,hB.2] at k3;cases k3)
   ·obtain ⟨r,b',es,ck,si,se,la,k1,_,k3,_⟩:=hob;rw[k1,t7] at he;subst he;cases hb;exact World.putObj_heap_other (fun e=>by rw[e,hB.2] at k3;cases k3)
   ·obtain ⟨aE,k1,_,k3⟩:=hob;rw[k1,t7] at he;subst he;split at k3
    ·simp[bS.aE] at hb
    ·obtain ⟨cs,m,_,k5,_⟩:=k3;simp only[bS.aE,t7] at hb;subst hb;exact hne k5
def vp(w:World)(D:aT)(E:aW)(post:cV)(v:Value)(w':World):Prop :=
 ∃ D' E' r os',post r os'∧aV w' D' E' r v∧lG (fun b=>w.heap.size≤b∨dC E b) w' D' E' (ak os') ∧
  fN (fun b=>w.heap.size≤b∨dC E b) w w'∧(∀ b o,D b o→D' b o)∧(∀ b o,D' b o→b<w'.heap.size)∧(∀ b o,D' b o→b<w.heap.size→¬ dC E b→D b o) ∧
  (∀ n e,E n=some e→av os' n=true→∃ e',E' n=some e'∧e.le e')∧iy w D w'
theorem aU.Jn{P:Program}{n:Nat}{w:World}{D:aT}{E:aW}{Y:Value→List I→List (Nat×aj)→cV→Prop}{m8:Option Nat}{A:af}{a:Act}{w':World}{D':aT}{E':aW}
  (hs:aU ⟨P,w,D,n,dC E,E,Y,m8⟩ A a w' D' E') {os:List (Nat×aj)} (h1:∀ n x,ak os n=some x→A.o n=some x∧x.only (av os)=true∧x.eR=true) :
  ∃ D2 E2,iz true (A.lB os) D' E' D2∧(∀ n,av os n=true→E2 n=E' n)∧(∀ n,av os n=false→E2 n=none)∧lG (fun b=>w.heap.size≤b∨dC E b) w' D2 E2 (ak os) ∧
   fN (fun b=>w.heap.size≤b∨dC E b) w w'∧(∀ b o,D b o→D2 b o)∧(∀ b o,D2 b o→b<w'.heap.size)∧(∀ b o,D2 b o→b<w.heap.size→¬ dC E b→D b o) ∧
   (∀ n e,E n=some e→av os n=true→∃ e',E2 n=some e'∧e.le e')∧iy w D w':=by
 obtain ⟨c,hc⟩:∃ c:cO,c=⟨P,w,D,n,dC E,E,Y,m8⟩:=⟨_,rfl⟩
 rw[←hc] at hs;have hM:c.fo=fun b=>w.heap.size≤b∨dC E b:=by rw[hc];rfl
 obtain ⟨E2,hE2⟩:∃ E2:aW,E2=fun n=>if av os n then E' n else none:=⟨_,rfl⟩
 obtain ⟨D2,hD2⟩:∃ D2:aT,D2=fun b o=>b<w'.heap.size∧(D' b o∨(¬ dC E2 b∧c.fo b)):=⟨_,rfl⟩
 have e2:∀ n,av os n=true→E2 n=E' n:=fun n hn=>by rw[hE2];simp only[hn,if_true]
 have cut:∀ n e,E2 n=some e→av os n=true∧E' n=some e:=fun n e he=>by
  rw[hE2] at he;simp only at he;split at he
  ·exact ⟨by assumption,he⟩
  ·cases he
 have up2:∀ b o,D' b o→D2 b o:=fun b o ae=>by
  rw[hD2];exact ⟨hs.dm b o ae,.inl ae⟩
 have down:∀ b o,D2 b o→dC E2 b→D' b o:=fun b o ae hb=>by
  rw[hD2] at ae;rcases ae.2 with h | h
  ·exact h
  ·exact absurd hb h.1
 have hu:ep (A.lB os) A:=fun n x hx=>by
  simp only[af.lB] at hx;split at hx
  ·cases hx
  ·exact hx
 have notOwn:∀ n e b,(A.lB os).o n≠none→E' n=some e→e.aE=some b→¬ dC E2 b:=fun n e b hn he hb ho=>by
  obtain ⟨m,e',k1,k3⟩:=ho;obtain ⟨k1,k2⟩:=cut m e' k1;have:=hs.c4 n m e _ b he k2 hb k3;subst this;simp[af.lB,k1] at hn
 have hw:iz true (A.lB os) D' E' D2:=by
  refine ⟨up2,fun n T sz es b cap hn aw o _ =>?_,fun _ n x b aS hn aw o _ =>?_,fun _ n ks vs b hn aw =>?_⟩
  ·rw[hD2];refine ⟨hs.fX aw rfl,.inr ⟨notOwn n _ b (by rw[hn];simp) aw rfl,?_⟩⟩;obtain ⟨aE,k1,k2,k3⟩:=hs.bR (hu n _ hn);rw[aw] at k1;simp only[t7,bS.rw.injEq,and_true] at k1;subst k1;obtain ⟨_,_,_,k4,_⟩:=k3;exact k4
  ·rw[hD2];refine ⟨hs.fX aw rfl,.inr ⟨notOwn n _ b (by rw[hn];simp) aw rfl,?_⟩⟩;obtain ⟨b',cs,T,k1,k2,_⟩:=hs.box (hu n _ hn);rw[k1] at aw;simp only[t7,bS.aD.injEq] at aw;obtain ⟨rfl,_⟩:=aw;exact k2
  ·rw[hD2];refine ⟨hs.fX aw rfl,.inr ⟨notOwn n _ b (by rw[hn];simp) aw rfl,?_⟩⟩;obtain ⟨b',es,ck,k1,k2,_⟩:=hs.map (hu n _ hn);rw[k1] at aw;cases aw;exact k2
 have hst:iy w D w':=by
  have:=hs.fI;rw[hc] at this;exact this
 refine ⟨D2,E2,hw,e2,fun n hn=>by rw[hE2];simp[hn],⟨fun m =>?_,fun m m' e e' b g1 g2 g3 g4 =>?_⟩,?_,fun b o ae=>up2 b o (hs.cN b o (by rw[hc];exact ae)),fun b o ae=>by rw[hD2] at ae;exact ae.1,fun b o ae hlt hno =>?_,fun m e hm hin =>?_,hst⟩
 ·cases hx:ak os m with
  |none=>simp only[di];rw[hE2];simp[av,hx]
  |some x =>
   have hm:av os m=true:=by simp[av,hx]
   obtain ⟨k1,k2,k3⟩:=h1 m x hx;have ho:=hs.bT m;rw[k1] at ho;have hl2:dS w' D' E2 w' D2 E2:=⟨up2,fun _ _ _ _ h=>h,fun _ _ _ h=>h,fun _ aE l h=>⟨aE,l,h,zz8 _,fun _=>rfl⟩,fun _ _ h=>h,fun _ _ h=>h,fun _ _ _ _ h=>h⟩
   have nD:∀ e b,E' m=some e→e.aE=some b→∀ o,D2 b o→D' b o:=fun e b he hb o ae=>down b o ae ⟨m,e,(e2 m hm).trans he,hb⟩;cases x with
   |bR T sz es =>
    obtain ⟨aE,q1,q2,q3⟩:=ho;refine ⟨aE,(e2 m hm).trans q1,q2,?_⟩;cases aE with
    |none=>exact q3
    |some bc =>
     obtain ⟨b,cap⟩:=bc;obtain ⟨cs,pre,rest,g1,g2,g3,g4,g5,g6,g7,g8⟩:=q3;exact ⟨cs,pre,rest,by rw[←hM];exact g1,g2,g3,aL.bN hl2 _ _ (aL.dF e2 _ _ (by simpa[aj.only] using k2) g4),g5,g6,g7,fun o ae=>g8 o (nD _ b q1 rfl o ae)⟩
   |box y =>
    obtain ⟨b',cs,T,q1,q2,q3,q4,q5⟩:=ho;exact ⟨b',cs,T,(e2 m hm).trans q1,by rw[←hM];exact q2,q3,ai.bN hl2 _ _ (ai.dF e2 _ _ (by simpa[aj.only] using k2) q4),fun o ae=>q5 o (nD _ b' q1 rfl o ae)⟩
   |dO o =>
    obtain ⟨b',q1,q2,q3,q4,q5⟩:=ho;exact ⟨b',(e2 m hm).trans q1,by rw[←hM];exact q2,q3,q4,fun o ae=>q5 o (nD _ b' q1 rfl o ae)⟩
   |cC ks vs =>
    obtain ⟨b',es,ck,q1,q2,q3,q4,q5,q6,q7⟩:=ho;simp only[aj.only,zz3] at k2;exact ⟨b',es,ck,(e2 m hm).trans q1,by rw[←hM];exact q2,q3,q4,aJ.bN hl2 _ _ (aJ.dF e2 _ _ k2.1 q5),aJ.bN hl2 _ _ (aJ.dF e2 _ _ k2.2 q6),fun o ae=>q7 o (nD _ b' q1 rfl o ae)⟩
   |it ks vs left cur=>cases k3
   |c5 T xs =>
    obtain ⟨aE,q1,q2,q3⟩:=ho;refine ⟨aE,(e2 m hm).trans q1,q2,?_⟩;cases aE with
    |none=>exact q3
    |some bc =>
     obtain ⟨b,cap⟩:=bc;obtain ⟨cs,r,g1,g2,g3,g4,g5,g6,g7⟩:=q3;exact ⟨cs,r,by rw[←hM];exact g1,g2,g3,g4,g5,g6,fun o ae=>g7 o (nD _ b q1 rfl o ae)⟩
 ·exact hs.c4 m m' e e' b (cut m e g1).2 (cut m' e' g2).2 g3 g4
 ·rw[←hM];have:=hs.dQ;rw[hc] at this ⊢;exact this
 ·rw[hD2] at ae;have hnm:¬ c.fo b:=by
    rw[hM];rintro (h | h);· omega
    ·exact hno h
  rcases ae.2 with h | h
  ·have:=hs.da b o h hnm;rw[hc] at this;exact this
  ·exact absurd h.2 hnm
 ·rw[e2 m hin];have ho:A.o m≠none:=by
   cases hx:ak os m with
   |none=>simp[av,hx] at hin
   |some x=>rw[(h1 m x hx).1];simp
  rcases hs.dV m e (by rw[hc];exact hm) with h | h
  ·have hob:=hs.bT m;cases hx:A.o m with
   |none=>exact absurd hx ho
   |some x=>rw[hx] at hob;exact absurd h (ud hob)
  ·exact h
theorem aU.aip{P:Program}{n:Nat}{w:World}{D:aT}{E:aW}{Y:Value→List I→List (Nat×aj)→cV→Prop}{rs:List bg}{post:cV}{fn:Func}{A:af}{a:Act}{w':World}{D':aT}{E':aW}
  (hs:aU ⟨P,w,D,n,dC E,E,Y,none⟩ A a w' D' E') (hrs:iV P fn.results.toList=some rs) (h:kR rs post A):∃ v,(results fn a.tmps).run P w'=.ok v w'∧vp w D E post v w':=by
 obtain ⟨os,xs,h1,h2,h3⟩:=h;obtain ⟨D2,E2,hw,e2,e2n,q1,q2,q3,q4,q5,q6⟩:=hs.Jn h1;have hu:ep (A.lB os) A:=fun n x hx=>by
  simp only[af.lB] at hx;split at hx
  ·cases hx
  ·exact hx
 obtain ⟨vs,k1,k2⟩:=y9 hs hu (os:=os) (E':=E2) hw e2 e2n fn.results.toList rs xs hrs h2;have hres:(results fn a.tmps).run P w'=.ok (if h:vs.toArray.size=1 then vs.toArray[0] else .tuple vs.toArray) w':=by
  rw[ak2,Sem.run_bind,Array.mapM_eq_mapM_toList,Sem.run_map,k1];rfl
 refine ⟨_,hres,D2,E2,jq xs,os,h3,?_,q1,q2,q3,q4,q5,q6⟩
 match xs,vs,k2 with
 | [x],vs,k2 =>
  simp only[aJ] at k2;obtain ⟨v,rest,cs,rfl,q1,q2,rfl⟩:=k2;simpa[jq] using mW q1 q2
 | [],vs,k2 =>
  simp only[aJ] at k2;subst k2;simp[jq,aV,aJ]
 |x::y::xs,vs,k2 =>
  have hl:vs.length≠1:=by
   simp only[aJ] at k2;obtain ⟨v,rest,cs,rfl,_,_,v2,rest2,cs2,rfl,_⟩:=k2;simp
  simp only[jq,aV];exact ⟨vs,by simp[hl],k2⟩
theorem Jo{P:Program}{n:Nat}{w:World}{D:aT}{E:aW}{Y:Value→List I→List (Nat×aj)→cV→Prop}{rs:List bg}{post:cV}{fn:Func}{A:af}{D':aT}{E':aW}(hrs:iV P fn.results.toList=some rs)(h:kR rs post A) :
  ∀ (bC:List Deferred) (a:Act) (w':World),a.defers=bC→aU ⟨P,w,D,n,dC E,E,Y,none⟩ A a w' D' E'→LeavesInM Fence.wide 9 P fn a.tmps (fun e w'=>∃ v,e=.returned v∧vp w D E post v w') bC .returning w'
 | [],a,w',_,hs=>by
  obtain ⟨v,h1,h2⟩:=hs.aip hrs h;exact ⟨v,h1,v,rfl,h2⟩
 |d::bC,a,w',ae,hs=>by
  obtain ⟨Bs,h1,_⟩:=hs.eT;rw[ae] at h1;cases Bs with
  |nil=>cases h1
  |cons B Bs =>
   simp only[zz9,List.cons.injEq] at h1;obtain ⟨rfl,rfl⟩:=h1;obtain ⟨k1,k2⟩:=hs.Ub ae;exact ⟨by simp,.inl ⟨B,_,rfl,run_takeDeferred k1,Jo hrs h _ { a with defers:=Bs.map _ } _ rfl k2⟩⟩
theorem zm{w:World}{D:aT}{E:aW} : ∀ {args:List I} {vs:List Value},aJ w D E args vs→vs.length=args.length
 | [],vs,h=>by simp only[aJ] at h;subst h;rfl
 |x::xs,vs,h=>by
  simp only[aJ] at h;obtain ⟨v,rest,cs,rfl,_,_,h3⟩:=h;simp[zm h3]
def kQ(P:Program)(f:FuncId)(Y:Value→List I→List (Nat×aj)→cV→Prop)(args:List I)(os:List (Nat×aj))(post:cV):Prop :=
 gU P f=true∧∀ (w:World) (D:aT) (E:aW) (vs:List Value),(∀ n,pB ⟨P,w,D,n,dC E,E,Y,none⟩)→(∀ b o,D b o→b<w.heap.size)→lG (fun _=>True) w D E (ak os)→aJ w D E args vs →
  Calls P f vs.toArray w fun e w'=>∃ v,e=.returned v∧vp w D E post v w'
theorem kQ.ue{P:Program}{f:FuncId}{fn:Func}{body:Code}{x:aR}{rs:List bg}{Y:Value→List I→List (Nat×aj)→cV→Prop}{args:List I}{os:List (Nat×aj)}{post:cV}(hf:P.funcs[f]?=some fn)(hb:fn.body=some body)(hcall:gU P f=true)(hc:eV P fn.ntmps body=some x)
  (hrs:iV P fn.results.toList=some rs) (hn:args.length≤fn.ntmps) (hos:∀ m,av os m=true→fn.ntmps≤m∧1000000≤m) (h:∀ (w:World) (D:aT) (E:aW),J ⟨P,w,D,fn.ntmps,dC E,E,Y,none⟩ x (nY rs post) (qH args os)):kQ P f Y args os post:=by
 refine ⟨hcall,fun w D E vs hy hD ho hv =>?_⟩;have hlen:=zm hv;have hsim:=alP (P:=P) (n:=fn.ntmps) (Y:=Y) hD ho hv (by omega) hos (hy fn.ntmps);refine (callsIn_wide (n:=9)).1 (callsIn_of_wp_marks hf hb trivial ?_);refine wpIn_mono (h w D E body hc _ w ⟨D,E,hsim⟩) ?_;rintro e a w' ⟨A,hq,D',E',hs⟩;cases e <;>simp only[nY] at hq <;>first
  |exact Jo hrs hq a.defers a w' rfl hs
  |cases hq
theorem ami{P:Program}{w:World}{D:aT}{E:aW}{n:Nat} : pB ⟨P,w,D,n,dC E,E,iG,none⟩:=fun _ _ _ _ h=>h.elim
theorem cH.JQ{P:Program}{f:FuncId}{args:List I}{os:List (Nat×aj)}{post:cV}(h:kQ P f iG args os post):cH P f args os post :=
 ⟨h.1,fun w D E vs _ hD ho hv=>(h.2 w D E vs (fun _=>ami) hD ho hv).mono fun e w' ⟨v,he,D',E',r,os',k⟩=>⟨v,D',E',r,os',he,k⟩⟩
theorem aB.ajL{P:Program}{f:FuncId}{args:List I}{r:I}(h:cH P f args [] (fun r' os'=>r'=r∧os'=[])):aB P f args r:=by
 refine ⟨h.1,fun w D vs hD hv =>?_⟩;have hh:lG (fun _=>True) w D dD (ak []):=⟨fun n=>rfl,fun n m e e' b h=>by simp[dD] at h⟩
 refine (h.2 w D dD vs trivial hD hh hv).mono fun e w' hq =>?_;obtain ⟨v,D',E',r',os',he,⟨h1,h2⟩,k1,k2,k3,k4,k5,k6,_⟩:=hq;subst h1 h2;refine ⟨v,D',he,?_,?_,k5,fun b o ae hlt=>k6 b o ae hlt fun ⟨n,e,h,_⟩=>by simp[dD] at h⟩
 ·have:E'=dD:=by funext n;exact k2.bT n
  rw[←this];exact k1
 ·exact k3.PS fun k hk hm=>by
   rcases hm with hm | ⟨n,e,h,_⟩
   ·omega
   ·simp[dD] at h
theorem ali(A:af):A.lB []=A:=rfl
theorem Mu{A:af} : ∀ {rs:List bg} {xs:List I},fj A rs=some xs→m7 A (A.lB []) [] rs xs
 | [],xs,h=>by simp only[fj,t7] at h;subst h;trivial
 |r::rs,xs,h=>by
  simp only[fj] at h;split at h
  ·rename_i x xs' h1 h2;simp only[t7] at h;subst h;refine ⟨?_,Mu h2⟩;rw[ali];cases r with
   |tmp t=>exact ⟨_,rfl,.inr h1⟩
   |cell a s =>
    simp only[uE,uv] at h1 ⊢;split at h1
    ·rename_i y hy;split at h1
     ·rename_i hok;exact ⟨y,by simp[hok],.inr h1⟩
     ·cases h1
    ·cases h1
  ·cases h
theorem ak3{rs:List bg}{r:I}{e:Exit}{A:af}(h:jS rs r e A):nY rs (fun r' os'=>r'=r∧os'=[]) e A:=by
 cases e <;>simp only[jS] at h <;>first
  |exact h.elim
  |(obtain ⟨xs,h1,h2⟩:=h
    exact ⟨[],xs,fun n x hx=>by simp[ak] at hx,Mu h1,h2,rfl⟩)
theorem aB.ue{P:Program}{f:FuncId}{fn:Func}{body:Code}{x:aR}{rs:List bg}{args:List I}{r:I}(hf:P.funcs[f]?=some fn)(hb:fn.body=some body)(hcall:gU P f=true)(hc:eV P fn.ntmps body=some x)
  (hrs:iV P fn.results.toList=some rs) (hn:args.length≤fn.ntmps) (h:∀ (w:World) (D:aT) (E:aW),J ⟨P,w,D,fn.ntmps,dC E,E,iG,none⟩ x (jS rs r) (po args)):aB P f args r:=by
 refine aB.ajL (cH.JQ (kQ.ue hf hb hcall hc hrs hn (fun m hm=>by simp[av,ak] at hm) fun w D E =>?_));exact (h w D E).mono fun e B hq=>ak3 hq
end Go.Abs
namespace Go.Abs
open Go Go.RowKit
def aY(ts:List (Nat×I)):List (Nat×I)→Prop
 | []=>True
 |(k,v)::r=>bO ts k=v∧aY ts r
def b7(os:List (Nat×aj)):List (Nat×aj)→Prop
 | []=>True
 |(k,v)::r=>ak os k=some v∧b7 os r
def bY(p:Nat→Bool):List (Nat×I)→Prop
 | []=>True
 |(_,v)::r=>v.only p=true∧bY p r
theorem zC{ts:List (Nat×I)} : ∀ {ts':List (Nat×I)},aY ts ts'→∀ k,bO ts' k=.de∨bO ts' k=bO ts k
 | [],_,k=>.inl rfl
 |(j,v)::r,h,k=>by
  simp only[aY] at h;simp only[bO];split
  ·rename_i hk;subst hk;exact .inr h.1.symm
  ·exact zC h.2 k
theorem Ng{os:List (Nat×aj)} : ∀ {os':List (Nat×aj)},b7 os os'→∀ k,ak os' k=none∨ak os' k=ak os k
 | [],_,k=>.inl rfl
 |(j,v)::r,h,k=>by
  simp only[b7] at h;simp only[ak];split
  ·rename_i hk;subst hk;exact .inr h.1.symm
  ·exact Ng h.2 k
theorem J3{p:Nat→Bool} : ∀ {ts:List (Nat×I)},bY p ts→∀ k,(bO ts k).only p=true
 | [],_,k=>by simp[bO,I.only]
 |(j,v)::r,h,k=>by
  simp only[bY] at h;simp only[bO];split
  ·exact h.1
  ·exact J3 h.2 k
theorem J2{p:Nat→Bool} : ∀ {os:List (Nat×aj)},bE p os→∀ k x,ak os k=some x→x.only p=true
 | [],_,k,x,hx=>by simp[ak] at hx
 |(j,v)::r,h,k,x,hx=>by
  simp only[bE] at h;simp only[ak] at hx;split at hx
  ·simp only[t7] at hx;subst hx;exact h.1
  ·exact J2 h.2 k x hx
theorem aF.cq{ts ts':List (Nat×I)}{os os':List (Nat×aj)}(h1:aY ts ts')(h2:b7 os os')(h3:bY (av os') ts')(h4:bE (av os') os'):aF (au ts os) (au ts' os'):=by
 rintro c a w ⟨D,E,hs⟩;have hp:∀ n,av os' n=true→(if av os' n then E n else none)=E n:=fun n hn=>by simp[hn]
 refine ⟨D,fun n=>if av os' n then E n else none,hs.sz,hs.eT,fun t =>?_,hs.dQ,hs.da,hs.dm,fun n =>?_,fun n m e e' b h1 h2 h3 h4 =>?_,fun n e hn =>?_,hs.eZ,hs.cN,hs.fe,hs.fI⟩
 ·have:=zC h1 t;rcases this with h | h
  ·simp only[au];rw[h];simp[aV]
  ·refine aV.dF (p:=av os') hp (J3 h3 t) ?_;have:=hs.ef t;simp only[au] at *;rw[h];exact this
 ·have ho:=hs.bT n;simp only[au] at *;rcases Ng h2 n with h | h
  ·rw[h];simp[di,av,h]
  ·rw[h];by_cases hin:ak os n=none
   ·rw[hin];simp[di,av,h,hin]
   ·have aw:(if av os' n then E n else none)=E n:=hp n (by simp[av,h];cases hh:ak os n <;>simp_all);cases hx:ak os n with
    |none=>exact absurd hx hin
    |some x =>
     have hon:=J2 h4 n x (h.trans hx);rw[hx] at ho;cases x with
     |box x =>
      obtain ⟨b,cs,T,k1,k2,k3,k4,k5⟩:=ho;exact ⟨b,cs,T,aw.trans k1,k2,k3,ai.dF hp _ _ (by simpa[aj.only] using hon) k4,k5⟩
     |bR T sz es =>
      obtain ⟨aE,k1,k2,k3⟩:=ho;refine ⟨aE,aw.trans k1,k2,?_⟩;cases aE with
      |none=>exact k3
      |some bc =>
       obtain ⟨b,cap⟩:=bc;obtain ⟨cs,pre,rest,q1,q2,q3,q4,q5⟩:=k3;exact ⟨cs,pre,rest,q1,q2,q3,aL.dF hp _ _ (by simpa[aj.only] using hon) q4,q5⟩
     |c5 T xs =>
      obtain ⟨aE,k1,k2,k3⟩:=ho;exact ⟨aE,aw.trans k1,k2,k3⟩
     |dO x =>
      obtain ⟨b,k1,k2⟩:=ho;exact ⟨b,aw.trans k1,k2⟩
     |cC ks vs =>
      obtain ⟨b,es,ck,k1,k2,k3,k4,k5,k6,k7⟩:=ho;simp only[aj.only,zz3] at hon;exact ⟨b,es,ck,aw.trans k1,k2,k3,k4,aJ.dF hp _ _ hon.1 k5,aJ.dF hp _ _ hon.2 k6,k7⟩
     |it ks vs left cur =>
      obtain ⟨r,b,es,ck,si,se,la,k1,k2,k3,k4,k5,k6,k7⟩:=ho;simp only[aj.only,zz3] at hon;exact ⟨r,b,es,ck,si,se,la,aw.trans k1,k2,k3,k4,aJ.dF hp _ _ hon.1 k5,aJ.dF hp _ _ hon.2 k6,k7⟩
 ·refine hs.c4 n m e e' b ?_ ?_ h3 h4
  ·split at h1
   ·exact h1
   ·cases h1
  ·split at h2
   ·exact h2
   ·cases h2
 ·by_cases hi:av os' n=true
  ·simp only[hi,if_true];exact hs.dV n e hn
  ·simp only[hi];exact .inl rfl
def bl:Nat→List I→List (Nat×I)
 |_,[]=>[]
 |k,a::as=>(k,a)::bl (k+1) as
theorem Jy:∀ (as:List I) (k t:Nat),bO (bl k as) t=if t<k then .de else (as[t-k]?).getD .de
 | [],k,t=>by simp[bl,bO]
 |a::as,k,t=>by
  simp only[bl,bO,Jy as (k+1) t];by_cases h:t=k
  ·subst h;simp
  ·rw[if_neg h];by_cases h2:t<k
   ·rw[if_pos (by omega),if_pos h2]
   ·rw[if_neg (by omega),if_neg h2,show t-k=(t-(k+1))+1 from by omega];simp
theorem Nf(args:List I)(os:List (Nat×aj)):aF (qH args os) (au (bl 0 args) os):=by
 rintro c a w ⟨D,E,hs⟩;refine ⟨D,E,hs.sz,hs.eT,fun t =>?_,hs.dQ,hs.da,hs.dm,hs.bT,hs.c4,hs.dV,hs.eZ,hs.cN,hs.fe,hs.fI⟩;have:=hs.ef t;simp only[au,Jy,qH,Nat.not_lt_zero,if_false,Nat.sub_zero] at *;cases h:args[t]? with
 |none=>simp[aV]
 |some x=>simpa[zz2,h] using this
theorem alO(args:List I):aF (po args) (au (bl 0 args) []):=Nf args []
theorem tR(ts:List (Nat×I))(os:List (Nat×aj))(d:Nat)(v:I):(au ts os).put d v=au ((d,v)::ts) os:=rfl
theorem tS(ts:List (Nat×I))(os:List (Nat×aj))(d:Nat)(v:I):(au ts os).aP (some d) v=au ((d,v)::ts) os:=rfl
theorem aiO(A:af)(v:I):A.aP none v=A:=rfl
theorem mb(ts:List (Nat×I))(os:List (Nat×aj))(d:Nat)(x:aj):(au ts os).aO d x=au ts ((d,x)::os):=rfl
theorem aiP(ts:List (Nat×I))(os:List (Nat×aj))(k:Nat):(au ts os).t k=bO ts k:=rfl
theorem aiN(ts:List (Nat×I))(os:List (Nat×aj))(k:Nat):(au ts os).o k=ak os k:=rfl
theorem aZ(j:Nat)(v:I)(r:List (Nat×I))(k:Nat):bO ((j,v)::r) k=if k=j then v else bO r k:=rfl
theorem cZ(j:Nat)(v:aj)(r:List (Nat×aj))(k:Nat):ak ((j,v)::r) k=if k=j then some v else ak r k:=rfl
theorem oS(k:Nat):ak [] k=none:=rfl
theorem wA(A:af)(k:Nat):ah A (.t k)=A.t k:=rfl
theorem XM(A:af)(x:I):ah A (.c x)=x:=rfl
noncomputable def ds(d:Option Nat)(rest:List aC)(A:af)(v:I):cQ:=aA rest (A.aP d v)
theorem ah9(d:Option Nat)(rest:List aC)(A:af)(v:I):ds d rest A v=aA rest (A.aP d v):=rfl
theorem Qc(v:I)(k:I→cQ):cY (some v) k=k v:=rfl
theorem Py(A:af):aA [] A=.done A:=rfl
noncomputable def bQ(A:af)(d:Option Nat)(op:b9)(rest:List aC):cQ:=bn A d op rest (aA rest)
noncomputable def gY(x:I)(b:Bool)(d:Option Nat)(op:b9)(rest:List aC)(A:af):cQ :=
 match x with
 | .bool b'=>if b'=b then bQ A d op rest else aA rest (A.aP d .undef)
 | .undef=>aA rest (A.aP d .undef)
 |_=>.fail
theorem bh.guard{P:Program}{Y:Value→List I→List (Nat×aj)→cV→Prop}{dr:Bool}{K:af→Prop}{x b:Bool}{d:Option Nat}{op:b9}{rest:List aC}{A:af}(h1:x=b→bh P Y dr K (bQ A d op rest))(h2:x = !b→bh P Y dr K (aA rest (A.aP d .undef))):bh P Y dr K (gY (.bool x) b d op rest A):=by
 unfold gY;by_cases h:x=b
 ·simp only[if_pos h];exact h1 h
 ·simp only[if_neg h];exact h2 (by cases x <;>cases b <;>simp_all)
def I.dv:I→Option (List I)
 | .agg fs=>some fs
 |_=>none
def oy(p:List Nat):Option I→Option I
 |some f=>f.at p
 |none=>none
def jE(i:Nat)(p:List Nat):Option (List I)→Option I
 |some fs=>oy p fs[i]?
 |none=>none
theorem mG(c:I):c.at []=some c:=by cases c <;>rfl
theorem PO(c:I)(i:Nat)(p:List Nat):c.at (i::p)=jE i p c.dv:=by
 cases c <;>first | rfl | (rename_i fs;simp only[I.at,jE,I.dv,oy])
def zo(fs:List I)(i:Nat)(p:List Nat)(v:I):Option I→I
 |some f=>.agg (fs.set i (f.dM p v))
 |none=>.agg fs
def uL(c:I)(i:Nat)(p:List Nat)(v:I):Option (List I)→I
 |some fs=>zo fs i p v fs[i]?
 |none=>c
theorem gp(c v:I):c.dM [] v=v:=by cases c <;>rfl
theorem alj(c:I)(i:Nat)(p:List Nat)(v:I):c.dM (i::p) v=uL c i p v c.dv:=by
 cases c <;>first | rfl | (rename_i fs;simp only[I.dM,uL,I.dv];cases fs[i]? <;>rfl)
def ft(p:List Nat):Option aj→Option I
 |some (.box c)=>c.at p
 |_=>none
def gV(A:af):I→Option I
 | .ref x=>some x
 | .ptr n p=>ft p (A.o n)
 |_=>none
theorem mK(A:af)(x:I):cD A x=gV A x:=by
 cases x <;>first | rfl | (rename_i n p;simp only[cD,gV];cases A.o n with | none=>rfl | some y=>cases y <;>rfl)
def dE(s:Option Nat)(x:I):Option I:=if b8 s x=true then some x else none
def gQ(s:Option Nat):Option I→Option I
 |some x=>dE s x
 |none=>none
open Classical in
noncomputable def dB(fs:List I)(f off:Nat)(y:I):Option I:=if f<fs.length∧I.sizes (fs.take f)=off then some y else none
noncomputable def qZ(n:Nat)(p:List Nat)(f off:Nat):Option (List I)→Option I
 |some fs=>dB fs f off (.ptr n (p++[f]))
 |none=>none
noncomputable def pX(fs:List I)(f off:Nat):Option I→Option I
 |some v=>dB fs f off (.ref v)
 |none=>none
noncomputable def q0(f off:Nat):Option (List I)→Option I
 |some fs=>pX fs f off fs[f]?
 |none=>none
def fG:Option I→Option (List I)
 |some x=>x.dv
 |none=>none
noncomputable def lX(A:af)(f off:Nat):I→Option I
 | .ref c=>q0 f off c.dv
 | .ptr n p=>qZ n p f off (fG (ft p (A.o n)))
 |_=>none
theorem akC(A:af)(f off:Nat)(x:aM):bt A (.fa f off x)=lX A f off (ah A x):=by
 simp only[bt];generalize ah A x=y;cases y with
 |ref c =>
  cases c <;>simp only[lX,I.dv,q0]
  rename_i fs;cases h:fs[f]? with
  |none=>simp[pX]
  |some v =>
   have hl:f<fs.length:=(zy4.1 h).1;simp only[pX,dB,hl,true_and]

 |ptr n p =>
  simp only[lX,mK,gV];cases ft p (A.o n) with
  |none=>simp[fG,qZ]
  |some c =>
   cases c <;>simp only[fG,I.dv,qZ]
   simp only[dB]

 |_=>simp only[lX]
noncomputable def tg(f off:Nat)(s:Option Nat):Option (List I)→Option I
 |some fs=>match fs[f]? with
  |some v=>(dB fs f off v).bind (dE s)
  |none=>none
 |none=>none
theorem akD(A:af)(f off:Nat)(s:Option Nat)(x:aM):bt A (.fl f off s x)=tg f off s (ah A x).dv:=by
 simp only[bt];generalize ah A x=y;cases y <;>simp only[tg,I.dv]
 rename_i fs;cases h:fs[f]? with
 |none=>rfl
 |some v =>
  have hl:f<fs.length:=(zy4.1 h).1;simp only[dB,hl,true_and];by_cases h1:I.sizes (fs.take f)=off <;>by_cases h2:b8 s v=true <;>simp[h1,h2,dE]
open Classical in
noncomputable def jf(k:Int)(n:Nat)(y:Option I):Option I:=if 0≤k∧k<n then y else none
noncomputable def je(n esz:Nat)(fs:List I)(y:Option I):Option I:=if iD n esz fs=true then y else none
noncomputable def rp(n esz:Nat)(k:Int):Option (List I)→Option I
 |some fs=>je n esz fs ((fs[k.toNat]?).map .ref)
 |none=>none
noncomputable def rn(n esz m:Nat)(p:List Nat)(k:Int):Option (List I)→Option I
 |some fs=>je n esz fs (some (.ptr m (p++[k.toNat])))
 |none=>none
noncomputable def oL(A:af)(n esz:Nat)(k:Int):I→Option I
 | .ref c=>jf k n (rp n esz k c.dv)
 | .ptr m p=>jf k n (rn n esz m p k (fG (ft p (A.o m))))
 |_=>none
noncomputable def rm(A:af)(n esz:Nat)(x:I):I→Option I
 | .int _ k=>oL A n esz k x
 |_=>none
theorem akE(A:af)(n esz:Nat)(x i:aM):bt A (.ia n esz x i)=rm A n esz (ah A x) (ah A i):=by
 simp only[bt];generalize ah A x=y;generalize ah A i=z;cases z <;>simp only[rm]
 rename_i kk k;cases y with
 |ref c =>
  simp only[oL,jf];split
  ·cases c <;>simp only[I.dv,rp,je]
  ·rfl
 |ptr m p =>
  simp only[oL,jf,mK,gV];split
  ·cases ft p (A.o m) with
   |none=>simp[fG,rn]
   |some c=>cases c <;>simp only[fG,I.dv,rn,je]
  ·rfl
 |_=>simp only[oL];split <;>rfl
open Classical in
noncomputable def jK(m:Nat)(p:List Nat)(sz lo l esz:Nat)(k:Int):Option (List I)→Option I
 |some _=>if sz=esz∧0≤k∧k<l then some (.ptr m (p++[lo+k.toNat])) else none
 |none=>none
open Classical in
noncomputable def ik(A:af)(esz:Nat)(k:Int):I→Option I
 | .slice sz es=>if sz=esz∧0≤k∧k<es.length then (es[k.toNat]?).map .ref else none
 | .own m l=>match A.o m with
  |some (.bR _ sz es)=>if l=es.length∧sz=esz∧0≤k∧k<es.length then (es[k.toNat]?).map .ref else none
  |_=>none
 | .view m p sz lo l=>jK m p sz lo l esz k (fG (ft p (A.o m)))
 |_=>none
noncomputable def l6(A:af)(esz:Nat)(x:I):I→Option I
 | .int _ k=>ik A esz k x
 |_=>none
theorem akF(A:af)(esz:Nat)(x i:aM):bt A (.is esz x i)=l6 A esz (ah A x) (ah A i):=by
 simp only[bt];generalize ah A x=y;generalize ah A i=z;cases z <;>simp only[l6]
 cases y <;>simp only[ik]
 ·split <;>simp_all
 ·rename_i m p sz lo l;simp only[mK,gV];cases ft p (A.o m) with
  |none=>rfl
  |some c=>cases c <;>simp only[fG,I.dv,jK]
noncomputable def ry(n esz:Nat)(s:Option Nat)(k:Int):Option (List I)→Option I
 |some fs=>jf k n (je n esz fs (gQ s fs[k.toNat]?))
 |none=>none
noncomputable def rz(n esz:Nat)(s:Option Nat)(x:I):I→Option I
 | .int _ k=>ry n esz s k x.dv
 |_=>none
theorem akG(A:af)(n esz:Nat)(s:Option Nat)(x i:aM):bt A (.ix n esz s x i)=rz n esz s (ah A x) (ah A i):=by
 simp only[bt];generalize ah A x=y;generalize ah A i=z;cases z <;>simp only[rz]
 rename_i kk k;cases y <;>simp only[I.dv,ry]
 case agg fs =>
  simp only[jf,je];split
  ·split
   ·cases fs[k.toNat]? <;>rfl
   ·rfl
  ·rfl
 all_goals (split <;>rfl)
def j9(A:af):I→Option I
 | .slice _ es=>some (.int .i64 es.length)
 | .nils _=>some (.int .i64 0)
 | .c0 _=>some (.int .i64 0)
 | .own m l=>match A.o m with | some (.bR _ _ es)=>if l=es.length then some (.int .i64 es.length) else none | _=>none
 | .view _ _ _ _ k=>some (.int .i64 k)
 |_=>none
theorem akI(A:af)(x:aM):bt A (.len x)=j9 A (ah A x):=by
 simp only[bt];generalize ah A x=y;cases y <;>rfl
open Classical in
noncomputable def pt(n esz:Nat)(fs:List I)(y:I):Option I:=if iD n esz fs=true∧n≤maxLen∧n≠0 then some y else none
noncomputable def r9(n esz m:Nat)(p:List Nat):Option (List I)→Option I
 |some fs=>pt n esz fs (.view m p esz 0 n)
 |none=>none
noncomputable def Nw(n esz:Nat):Option (List I)→Option I
 |some fs=>pt n esz fs (.slice esz fs)
 |none=>none
noncomputable def pq(A:af)(n esz:Nat):I→Option I
 | .ptr m p=>r9 n esz m p (fG (ft p (A.o m)))
 | .ref c=>Nw n esz c.dv
 |_=>none
theorem akJ(A:af)(n esz:Nat)(x:aM):bt A (.va n esz x)=pq A n esz (ah A x):=by
 simp only[bt];generalize ah A x=y;cases y with
 |ptr m p =>
  simp only[pq,mK,gV];cases ft p (A.o m) with
  |none=>simp[fG,r9]
  |some c=>cases c <;>simp only[fG,I.dv,r9,pt] <;>(split <;>simp_all)
 |ref c=>cases c <;>simp only[pq,I.dv,Nw,pt] <;>(split <;>simp_all)
 |_=>simp only[pq]
theorem akH(A:af)(s:Option Nat)(x:aM):bt A (.ld s x)=gQ s (gV A (ah A x)):=by
 simp only[bt,mK];cases gV A (ah A x) <;>simp only[gQ,dE]
noncomputable def rM(A:af)(d:Option Nat)(a b:aM)(rest:List aC):I→cQ
 | .bool t=>aA rest (A.aP d (if t then ah A a else ah A b))
 |_=>.fail
noncomputable def r8(op:UnOp)(x:I):Option I:=match op,x with
  | .not,.bool b=>some (.bool !b)
  | .neg,.int k n=>some (.int k (k.wrap (0-n)))
  | .xor,.int k n=>some (.int k (pS k n))
  |_,_=>none
def wC(i:Nat):I→Option I
 | .tuple fs=>fs[i]?
 |_=>none
def vX(k:IntKind):I→Option I
 | .int _ n=>some (.int k (k.wrap n))
 |_=>none
noncomputable def vu(A:af)(d:Nat)(z:I)(rest:List aC):Option aj→cQ
 |none=>aA rest ((A.aO d (.box z)).put d (.ptr d []))
 |some _=>.fail
noncomputable def sM(A:af)(d:Nat)(z:I)(rest:List aC)(v:Bool):cQ:=if v=true then aA rest ((A.aO d (.box z)).put d (.ptr d [])) else .fail
noncomputable def sL(A:af)(d:Nat)(z:I)(rest:List aC):Option aj→cQ
 |none=>sM A d z rest z.cn
 |some _=>.fail
open Classical in
noncomputable def dj(A:af)(s:Option Nat)(n:Nat)(p:List Nat)(b v:I)(rest:List aC):Option I→cQ
 |some old=>if yE s v old then aA rest (A.aO n (.box (b.dM p v))) else .fail
 |none=>.fail
noncomputable def uQ(A:af)(s:Option Nat)(n:Nat)(p:List Nat)(v:I)(rest:List aC):Option aj→cQ
 |some (.box b)=>dj A s n p b v rest (b.at p)
 |_=>.fail
noncomputable def uP(A:af)(s:Option Nat)(v:I)(rest:List aC):I→cQ
 | .ptr n p=>uQ A s n p v rest (A.o n)
 |_=>.fail
noncomputable def sP(A:af)(d:Option Nat)(args:List I)(rest:List aC):I→cQ
 | .func f caps=>.call f (args++caps) (bV true A (args++caps)) (bV false A (args++caps)) d rest A
 | .raw v=>.pO v args d rest A
 |_=>.fail
section
variable (d:Option Nat) (rest:List aC) (A:af)
theorem Pf(op:b9):aA (⟨d,op,none⟩::rest) A=bQ A d op rest:=rfl
theorem Pg(op:b9)(t:Nat)(b:Bool):aA (⟨d,op,some (t,b)⟩::rest) A=gY (A.t t) b d op rest A:=rfl
theorem aha(op:b9):gY (.bool true) true d op rest A=bQ A d op rest:=by simp[gY]
theorem ag7(op:b9):gY (.bool false) false d op rest A=bQ A d op rest:=by simp[gY]
theorem ag9(op:b9):gY (.bool true) false d op rest A=aA rest (A.aP d .undef):=by simp[gY]
theorem ag8(op:b9):gY (.bool false) true d op rest A=aA rest (A.aP d .undef):=by simp[gY]
theorem ahb(op:b9)(b:Bool):gY .undef b d op rest A=aA rest (A.aP d .undef):=rfl
theorem ajy(x:aM):bQ A d (.mv x) rest=aA rest (A.aP d (ah A x)):=rfl
theorem ajC(c a b:aM):bQ A d (.pick c a b) rest=rM A d a b rest (ah A c):=by
 simp only[bQ,bn,bt];cases ah A c <;>simp only[cY,rM]
theorem aja(op:BinOp)(x y:aM):bQ A d (.bin op x y) rest=cY (cL op (ah A x) (ah A y)) (ds d rest A):=rfl
theorem ajj(ty:cS)(neg:Bool)(x y:aM):bQ A d (.eqv ty neg x y) rest=cY ((cv ty (ah A x) (ah A y)).map fun b=>.bool (if neg then !b else b)) (ds d rest A):=rfl
theorem ajH(op:UnOp)(x:aM):bQ A d (.un op x) rest=cY (r8 op (ah A x)) (ds d rest A):=rfl
theorem ajh(k:IntKind)(x:aM):bQ A d (.conv k x) rest=cY (vX k (ah A x)) (ds d rest A):=by
 simp only[bQ,bn,bt];cases ah A x <;>rfl
theorem ajq(s:Option Nat)(x:aM):bQ A d (.ld s x) rest=cY (gQ s (gV A (ah A x))) (ds d rest A):=by rw[←akH];rfl
theorem ajl(f off:Nat)(x:aM):bQ A d (.fa f off x) rest=cY (lX A f off (ah A x)) (ds d rest A):=by rw[←akC];rfl
theorem ajm(f off:Nat)(s:Option Nat)(x:aM):bQ A d (.fl f off s x) rest=cY (tg f off s (ah A x).dv) (ds d rest A):=by rw[←akD];rfl
theorem ajn(n esz:Nat)(x i:aM):bQ A d (.ia n esz x i) rest=cY (rm A n esz (ah A x) (ah A i)) (ds d rest A):=by rw[←akE];rfl
theorem ajo(esz:Nat)(x i:aM):bQ A d (.is esz x i) rest=cY (l6 A esz (ah A x) (ah A i)) (ds d rest A):=by rw[←akF];rfl
theorem ajp(n esz:Nat)(s:Option Nat)(x i:aM):bQ A d (.ix n esz s x i) rest=cY (rz n esz s (ah A x) (ah A i)) (ds d rest A):=by rw[←akG];rfl
theorem ajr(x:aM):bQ A d (.len x) rest=cY (j9 A (ah A x)) (ds d rest A):=by rw[←akI];rfl
theorem ajI(n esz:Nat)(x:aM):bQ A d (.va n esz x) rest=cY (pq A n esz (ah A x)) (ds d rest A):=by rw[←akJ];rfl
theorem ajb(zs:List I)(ps:List (Nat×aM)):bQ A d (.bld zs ps) rest=cY ((eJ zs (ps.map fun p=>(p.1,ah A p.2))).map .agg) (ds d rest A):=rfl
theorem ajk(x:aM)(i:Nat):bQ A d (.ext x i) rest=cY (wC i (ah A x)) (ds d rest A):=by
 simp only[bQ,bn,bt];cases ah A x <;>rfl
theorem aju(f:FuncId)(caps:List aM):bQ A d (.mk f caps) rest=cY (if ((caps.map (ah A)).all fun y=>y.cn)=true then some (.func f (caps.map (ah A))) else none) (ds d rest A):=rfl
theorem ai8(d:Nat)(z:I):bQ A (some d) (.alloc z) rest=vu A d z rest (A.o d):=by
 simp only[bQ,bn];cases A.o d <;>rfl
theorem ajc(d:Nat)(x:aM):bQ A (some d) (.box x) rest=sL A d (ah A x) rest (A.o d):=by
 simp only[bQ,bn];cases A.o d <;>simp only[sL,sM]
theorem ajG(s:Option Nat)(x v:aM):bQ A none (.br s x v) rest=uP A s (ah A v) rest (ah A x):=by
 simp only[bQ,bn];cases ah A x <;>simp only[uP]
 rename_i n p;cases A.o n with
 |none=>rfl
 |some y =>
  cases y <;>simp only[uQ]
  rename_i b;cases b.at p <;>simp only[dj]
theorem aje(f:FuncId)(args:List aM):bQ A d (.call f args) rest=.call f (args.map (ah A)) (bV true A (args.map (ah A))) (bV false A (args.map (ah A))) d rest A:=rfl
theorem ajf(x:aM)(args:List aM):bQ A d (.eF x args) rest=sP A d (args.map (ah A)) rest (ah A x):=by
 simp only[bQ,bn];cases ah A x <;>rfl
end
end Go.Abs
namespace Go.Abs
open Go Go.RowKit
mutual
/-- Closed,and as a result is told: no nil slice but as the empty one. -/
def I.done:I→Bool
 | .agg fs=>I.eP fs
 | .slice _ es=>I.bU es
 | .ref x=>x.bj
 | .func _ caps=>I.eP caps
 | .iface _ v=>v.bj
 | .cM ks vs=>I.bU ks&&I.bU vs
 | .bool _ | .int _ _ | .c6 _ | .nilp | .dh | .dW | .raw _=>true
 |_=>false
def I.eP:List I→Bool
 | []=>true
 |x::xs=>x.done&&I.eP xs
end
mutual
theorem wg:∀ x:I,x.done=true→x.bj=true
 | .agg fs,h=>by simp only[I.done,I.bj] at *;exact kZ fs h
 | .slice _ es,h=>by simpa only[I.done,I.bj] using h
 | .ref x,h=>by simpa only[I.done,I.bj] using h
 | .func _ caps,h=>by simp only[I.done,I.bj] at *;exact kZ caps h
 | .iface _ v,h=>by simpa only[I.done,I.bj] using h
 | .bool _,_ | .int _ _,_ | .c6 _,_ | .nilp,_ | .dh,_ | .dW,_ | .raw _,_=>by simp[I.bj]
 | .cM _ _,h=>by simpa only[I.done,I.bj] using h
 | .nils _,h | .c0 _,h | .ptr _ _,h | .own _ _,h | .view _ _ _ _ _,h | .mref _,h | .dx _,h | .undef,h | .de,h | .tuple _,h=>by simp[I.done] at h
theorem kZ:∀ xs:List I,I.eP xs=true→I.bU xs=true
 | [],_=>rfl
 |x::xs,h=>by
  simp only[I.eP,I.bU,zz3] at *;exact ⟨wg x h.1,kZ xs h.2⟩
end
mutual
theorem DH(aD:Bool)(A:af):∀ x:I,x.done=true→a6 aD A x=some x
 | .agg fs,h=>by simp only[I.done,a6] at *;rw[lf aD A fs h];rfl
 | .slice _ es,h=>by simp only[I.done] at h;simp[a6,h]
 | .ref x,h=>by simp only[I.done] at h;simp[a6,h]
 | .func _ caps,h=>by simp only[I.done,a6] at *;rw[lf aD A caps h];rfl
 | .iface _ v,h=>by simp only[I.done] at h;simp[a6,h]
 | .bool _,_ | .int _ _,_ | .c6 _,_ | .nilp,_ | .dh,_ | .dW,_ | .raw _,_=>by simp[a6]
 | .cM _ _,h=>by simp only[I.done] at h;simp[a6,h]
 | .nils _,h | .c0 _,h | .ptr _ _,h | .own _ _,h | .view _ _ _ _ _,h | .mref _,h | .dx _,h | .undef,h | .de,h | .tuple _,h=>by simp[I.done] at h
theorem lf(aD:Bool)(A:af):∀ xs:List I,I.eP xs=true→bV aD A xs=some xs
 | [],_=>by simp[bV]
 |x::xs,h=>by
  simp only[I.eP,zz3] at h;simp only[bV,DH aD A x h.1,lf aD A xs h.2]
end
theorem Xr{x:I}(h:x.done=true):x.cn=true:=by cases x <;>simp_all[I.done,I.cn]
class Enc (α:Type) where
 enc:α→I
 sz:Nat
 aS:cW
 fP:Bool
 done:∀ x,(enc x).done=true
 size:∀ x,(enc x).size=sz
 jU:∀ x,(enc x).aS=aS
 agg:∀ x,(enc x).isAgg=fP
open Enc (enc)
instance:Enc Int where
 enc n:=.int .i64 n
 sz:=1
 aS:=.one
 fP:=false
 done _:=rfl
 size _:=by simp[I.size]
 jU _:=by simp[I.aS]
 agg _:=rfl
instance:Enc Bool where
 enc b:=.bool b
 sz:=1
 aS:=.one
 fP:=false
 done _:=rfl
 size _:=by simp[I.size]
 jU _:=by simp[I.aS]
 agg _:=rfl
theorem iW{α:Type}[Enc α](l:List α):I.bU (l.map enc)=true:=by
 induction l with
 |nil=>rfl
 |cons x l ih=>simp only[zz9,I.bU,wg _ (Enc.done x),ih,zw3]
theorem Xs{α:Type}[Enc α](l:List α):I.eP (l.map enc)=true:=by
 induction l with
 |nil=>rfl
 |cons x l ih=>simp only[zz9,I.eP,Enc.done x,ih,zw3]
theorem aln{α:Type}[Enc α](l:List α):I.sizes (l.map enc)=l.length*Enc.sz α:=by
 rw[I.iq (sz:=Enc.sz α) _ (by simp only[zx2];rintro x ⟨y,_,rfl⟩;exact Enc.size y)];simp
theorem r0{α:Type}[Enc α](l:List α):I.cU (l.map enc)=List.replicate l.length (Enc.aS α):=by
 induction l with
 |nil=>rfl
 |cons x l ih=>simp only[zz9,I.cU,Enc.jU x,ih,zv9,List.replicate_succ]
instance {α:Type} [Enc α]:Enc (List α) where
 enc l:=.slice (Enc.sz α) (l.map enc)
 sz:=1
 aS:=.one
 fP:=false
 done l:=by simp only[I.done];exact iW l
 size _:=by simp[I.size]
 jU _:=by simp[I.aS]
 agg _:=rfl
structure bL (n:Nat) (α:Type) where
 l:List α
 h:l.length=n
instance {n:Nat} {α:Type} [Enc α]:Enc (bL n α) where
 enc x:=.agg (x.l.map enc)
 sz:=n*Enc.sz α
 aS:=.ej (List.replicate n (Enc.aS α))
 fP:=true
 done x:=by simp only[I.done];exact Xs x.l
 size x:=by simp only[I.size,aln,x.h]
 jU x:=by simp only[I.aS,r0,x.h]
 agg _:=rfl
section
variable {α:Type} [Enc α]
theorem fg(aD:Bool)(A:af)(x:α):a6 aD A (enc x)=some (enc x):=DH aD A _ (Enc.done x)
theorem ec(x:α):(enc x).bj=true:=wg _ (Enc.done x)
theorem bK(p:Nat→Bool)(x:α):(enc x).only p=true:=kc p _ (ec x)
theorem dU(x:α):(enc x).cn=true:=Xr (Enc.done x)
theorem lb(x:α):b8 none (enc x) = !(Enc.fP α):=by simp[b8,Enc.agg]
theorem fZ(n:Nat)(x:α):b8 (some n) (enc x)=(Enc.fP α&&Enc.sz α==n):=by simp[b8,Enc.agg,Enc.size]
theorem ja(x:α):(enc x).size=Enc.sz α:=Enc.size x
theorem eQ(x:α):(enc x).aS=Enc.aS α:=Enc.jU x
theorem fY(n:Int):(enc n:I)=.int .i64 n:=rfl
theorem wm(n:Bool):(enc n:I)=.bool n:=rfl
theorem gi(l:List α):(enc l:I)=.slice (Enc.sz α) (l.map enc):=rfl
theorem mM:Enc.sz Int=1:=rfl
theorem mL(n:Nat):Enc.sz (bL n α)=n*Enc.sz α:=rfl
theorem qW:Enc.sz (List α)=1:=rfl
theorem wq(n:Nat):Enc.fP (bL n α)=true:=rfl
theorem nB:Enc.fP (List α)=false:=rfl
theorem wv:Enc.aS Int=.one:=rfl
theorem Dl:Enc.aS (List α)=.one:=rfl
theorem wu(n:Nat):Enc.aS (bL n α)=.ej (List.replicate n (Enc.aS α)):=rfl
theorem wB(n esz:Nat)(l:List α)(h:l.length=n)(h2:Enc.sz α=esz):iD n esz (l.map enc)=true:=by
 simp only[iD,zy3,h,BEq.rfl,Bool.true_and,zx9,zx2];rintro x ⟨y,_,rfl⟩;simp[Enc.size,h2]
theorem Pu(l:List α):∀ x∈l.map (enc (α:=α)),x.size=Enc.sz α:=by
 simp only[zx2];rintro x ⟨y,_,rfl⟩;exact Enc.size y
end
theorem dI(n:Int)(h1:-9223372036854775808≤n)(h2:n≤9223372036854775807):IntKind.i64.wrap n=n:=IntWalk.i64_in n ⟨h1,h2⟩
theorem aB.mk{P:Program}{f:FuncId}{fn:Func}{x:aR}{rs:List bg}{args:List I}{r:I}(hf:P.funcs[f]?=some fn)(hcall:gU P f=true)(hc:(fn.body.bind (eV P fn.ntmps))=some x)
  (hrs:iV P fn.results.toList=some rs) (hn:args.length≤fn.ntmps) (h:∀ (w:World) (D:aT) (E:aW),J ⟨P,w,D,fn.ntmps,dC E,E,iG,none⟩ x (jS rs r) (au (bl 0 args) [])):aB P f args r:=by
 obtain ⟨body,hb,hc'⟩:=Option.bind_eq_some_iff.1 hc;exact aB.ue hf hb hcall hc' hrs hn (fun w D E=>(h w D E).sub (alO args))
end Go.Abs
namespace Go.Abs
open Go Go.RowKit
open Enc (enc)
def aq(x:I)(p q:Prop):Prop:=match x with
 | .bool t=>(t=true→p)∧(t=false→q)
 |_=>False
theorem J.bX{c:cO}{A:af}{Q:Exit→af→Prop}{b:aM}{x y:aR}(h:aq (ah A b) (J c x Q A) (J c y Q A)):J c (.cond b x y) Q A:=by
 generalize hb:ah A b=v at h;unfold aq at h;split at h
 ·exact J.cond hb h.1 h.2
 ·exact h.elim
def nZ(r:I):Option (List I)→Prop
 |some xs=>jq xs=r
 |none=>False
theorem ak5(rs:List bg)(r:I)(A:af):jS rs r .ret A=nZ r (fj A rs):=by
 simp only[jS,nZ];cases fj A rs <;>simp
theorem ak4(rs:List bg)(r:I)(A:af):jS rs r .normal A=nZ r (fj A rs):=by
 simp only[jS,nZ];cases fj A rs <;>simp
def rW(s:Option Nat)(A:af):Option I→Option I
 |some x=>if b8 s x=true then a6 true A x else none
 |none=>none
def lQ:Option I→Option (List I)→Option (List I)
 |some x,some xs=>some (x::xs)
 |_,_=>none
theorem akY(A:af):fj A []=some []:=rfl
theorem akZ(A:af)(t:Nat)(rs:List bg):fj A (.tmp t::rs)=lQ (a6 true A (A.t t)) (fj A rs):=by
 simp only[fj,uE];cases a6 true A (A.t t) <;>cases fj A rs <;>rfl
theorem akX(A:af)(a:Nat)(s:Option Nat)(rs:List bg):fj A (.cell a s::rs)=lQ (rW s A (gV A (A.t a))) (fj A rs):=by
 simp only[fj,uE,mK];cases gV A (A.t a) with
 |none=>cases fj A rs <;>rfl
 |some x =>
  by_cases h:b8 s x=true
  ·simp only[rW,if_pos h];cases a6 true A x <;>cases fj A rs <;>rfl
  ·simp only[rW,if_neg h];cases fj A rs <;>rfl
def s9(aD:Bool)(A:af):Option I→Option I
 |some x=>if x.bj=true then some (.ref x) else (df A 9 x).map .ref
 |none=>none
theorem Ye(A:af)(n:Nat)(p:List Nat):a6 true A (.ptr n p)=s9 true A (ft p (A.o n)):=by
 simp only[a6,mK,gV,if_true,s9];cases ft p (A.o n) <;>rfl
open Classical in
noncomputable def kA(sz lo k:Nat):Option (List I)→Option I
 |some fs=>if I.bU ((fs.drop lo).take k)=true then some (.slice sz ((fs.drop lo).take k)) else none
 |none=>none
theorem DL(A:af)(n:Nat)(p:List Nat)(sz lo k:Nat):a6 true A (.view n p sz lo k)=kA sz lo k (fG (ft p (A.o n))):=by
 simp only[a6,mK,gV,if_true];cases ft p (A.o n) with
 |none=>rfl
 |some c=>cases c <;>simp only[fG,I.dv,kA] <;>(split <;>simp_all)
open Classical in
noncomputable def oE(k:Nat):Option aj→Option I
 |some (.bR _ sz es)=>if k=es.length∧I.bU es=true then some (.slice sz es) else none
 |_=>none
theorem Yd(aD:Bool)(A:af)(n k:Nat):a6 aD A (.own n k)=oE k (A.o n):=by
 simp only[a6];cases A.o n with
 |none=>rfl
 |some y=>cases y <;>simp only[oE] <;>(split <;>simp_all)
theorem X6(aD:Bool)(A:af)(fs:List I):a6 aD A (.agg fs)=(bV aD A fs).map .agg:=by simp only[a6]
theorem X8(aD:Bool)(A:af)(f:FuncId)(fs:List I):a6 aD A (.func f fs)=(bV aD A fs).map (.func f):=by simp only[a6]
theorem X9(aD:Bool)(A:af)(k:IntKind)(n:Int):a6 aD A (.int k n)=some (.int k n):=by simp only[a6]
theorem X7(aD:Bool)(A:af)(n:Bool):a6 aD A (.bool n)=some (.bool n):=by simp only[a6]
theorem Yi(aD:Bool)(A:af)(n:ByteArray):a6 aD A (.c6 n)=some (.c6 n):=by simp only[a6]
theorem Yc(aD:Bool)(A:af)(n:Nat):a6 aD A (.nils n)=some (.slice n []):=by simp only[a6]
theorem Yh(aD:Bool)(A:af)(n:Nat)(es:List I):a6 aD A (.slice n es)=if I.bU es=true then some (.slice n es) else none:=by simp only[a6]
theorem Yf(aD:Bool)(A:af)(x:I):a6 aD A (.ref x)=if x.bj=true then some (.ref x) else none:=by simp only[a6]
theorem Yl(aD:Bool)(A:af):bV aD A []=some []:=by simp only[bV]
theorem Yk(aD:Bool)(A:af)(x:I)(xs:List I):bV aD A (x::xs)=lQ (a6 aD A x) (bV aD A xs):=by
 simp only[bV];cases a6 aD A x <;>cases bV aD A xs <;>rfl
theorem Uc(fs:List I):(I.agg fs).bj=I.bU fs:=by simp only[I.bj]
theorem Ui(n:Nat)(fs:List I):(I.slice n fs).bj=I.bU fs:=by simp only[I.bj]
theorem Uh(x:I):(I.ref x).bj=x.bj:=by simp only[I.bj]
theorem Ug(k:IntKind)(n:Int):(I.int k n).bj=true:=by simp only[I.bj]
theorem Ud(n:Bool):(I.bool n).bj=true:=by simp only[I.bj]
theorem Uj(n:ByteArray):(I.c6 n).bj=true:=by simp only[I.bj]
theorem Ue(f:FuncId)(fs:List I):(I.func f fs).bj=I.bU fs:=by simp only[I.bj]
theorem Um:I.bU []=true:=by simp only[I.bU]
theorem Uk(x:I)(xs:List I):I.bU (x::xs)=(x.bj&&I.bU xs):=by simp only[I.bU]
theorem PU(k:IntKind)(a b:Int):cL .add (.int k a) (.int k b)=some (.int k (k.wrap (a+b))):=by simp[cL]
theorem Qa(k:IntKind)(a b:Int):cL .sub (.int k a) (.int k b)=some (.int k (k.wrap (a-b))):=by simp[cL]
theorem P2(k:IntKind)(a b:Int):cL .mul (.int k a) (.int k b)=some (.int k (k.wrap (a*b))):=by simp[cL]
theorem P6(k:IntKind)(a b:Int):cL .quo (.int k a) (.int k b)=if b=0 then none else some (.int k (k.wrap (a.tdiv b))):=by simp[cL]
theorem P7(k:IntKind)(a b:Int):cL .rem (.int k a) (.int k b)=if b=0 then none else some (.int k (a.tmod b)):=by simp[cL]
theorem PV(k:IntKind)(a b:Int):cL .and (.int k a) (.int k b)=some (.int k (k.wrap ((BitVec.ofInt k.bits a &&& BitVec.ofInt k.bits b).toNat:Int))):=by simp[cL]
theorem P5(k:IntKind)(a b:Int):cL .or (.int k a) (.int k b)=some (.int k (k.wrap ((BitVec.ofInt k.bits a ||| BitVec.ofInt k.bits b).toNat:Int))):=by simp[cL]
theorem Qb(k:IntKind)(a b:Int):cL .xor (.int k a) (.int k b)=some (.int k (k.wrap ((BitVec.ofInt k.bits a ^^^ BitVec.ofInt k.bits b).toNat:Int))):=by simp[cL]
theorem PW(k:IntKind)(a b:Int):cL .andNot (.int k a) (.int k b)=some (.int k (k.wrap ((BitVec.ofInt k.bits a &&& ~~~ BitVec.ofInt k.bits b).toNat:Int))):=by simp[cL]
theorem P8(k k':IntKind)(a b:Int):cL .shl (.int k a) (.int k' b)=if 0≤b then some (.int k (k.wrap (a*2^(min b.toNat k.bits)))) else none:=by simp[cL]
theorem P9(k k':IntKind)(a b:Int):cL .shr (.int k a) (.int k' b)=if 0≤b then some (.int k (a.fdiv (2^(min b.toNat k.bits)))) else none:=by simp[cL]
theorem PX(k:IntKind)(a b:Int):cL .eql (.int k a) (.int k b)=some (.bool (a==b)):=by simp[cL]
theorem P3(k:IntKind)(a b:Int):cL .neq (.int k a) (.int k b)=some (.bool (a != b)):=by simp[cL]
theorem P1(k:IntKind)(a b:Int):cL .lss (.int k a) (.int k b)=some (.bool (decide (a<b))):=by simp[cL]
theorem P0(k:IntKind)(a b:Int):cL .leq (.int k a) (.int k b)=some (.bool (decide (a≤b))):=by simp[cL]
theorem PZ(k:IntKind)(a b:Int):cL .gtr (.int k a) (.int k b)=some (.bool (decide (b<a))):=by simp[cL]
theorem PY(k:IntKind)(a b:Int):cL .geq (.int k a) (.int k b)=some (.bool (decide (b≤a))):=by simp[cL]
theorem pC :
  (∀ ts os d v,(au ts os).put d v=au ((d,v)::ts) os)∧(∀ ts os d v,(au ts os).aP (some d) v=au ((d,v)::ts) os)∧(∀ (A:af) v,A.aP none v=A) ∧
  (∀ ts os d x,(au ts os).aO d x=au ts ((d,x)::os))∧(∀ ts os k,(au ts os).t k=bO ts k)∧(∀ ts os k,(au ts os).o k=ak os k) ∧
  (∀ j v r k,bO ((j,v)::r) k=if k=j then v else bO r k)∧(∀ j v r k,ak ((j,v)::r) k=if k=j then some v else ak r k)∧(∀ k,ak [] k=none) ∧
  (∀ A k,ah A (.t k)=A.t k)∧(∀ A x,ah A (.c x)=x)∧(∀ d rest A v,ds d rest A v=aA rest (A.aP d v))∧(∀ v k,cY (some v) k=k v)∧(∀ A,aA [] A=.done A) :=
 ⟨tR,tS,aiO,mb,aiP,aiN,aZ,cZ,oS,wA,XM,ah9,Qc,Py⟩
theorem J8 :
  (∀ d rest A op,aA (⟨d,op,none⟩::rest) A=bQ A d op rest)∧(∀ d rest A op t b,aA (⟨d,op,some (t,b)⟩::rest) A=gY (A.t t) b d op rest A) ∧
  (∀ d rest A op,gY (.bool true) true d op rest A=bQ A d op rest)∧(∀ d rest A op,gY (.bool false) false d op rest A=bQ A d op rest) ∧
  (∀ d rest A op,gY (.bool true) false d op rest A=aA rest (A.aP d .undef))∧(∀ d rest A op,gY (.bool false) true d op rest A=aA rest (A.aP d .undef))∧(∀ d rest A op b,gY .undef b d op rest A=aA rest (A.aP d .undef)) ∧
  (∀ d rest A x,bQ A d (.mv x) rest=aA rest (A.aP d (ah A x)))∧(∀ d rest A c a b,bQ A d (.pick c a b) rest=rM A d a b rest (ah A c)) ∧
  (∀ A d a b rest,rM A d a b rest (.bool true)=aA rest (A.aP d (ah A a)))∧(∀ A d a b rest,rM A d a b rest (.bool false)=aA rest (A.aP d (ah A b))) ∧
  (∀ d rest A op x y,bQ A d (.bin op x y) rest=cY (cL op (ah A x) (ah A y)) (ds d rest A)) ∧
  (∀ d rest A ty neg x y,bQ A d (.eqv ty neg x y) rest=cY ((cv ty (ah A x) (ah A y)).map fun b=>.bool (if neg then !b else b)) (ds d rest A)) ∧
  (∀ d rest A op x,bQ A d (.un op x) rest=cY (r8 op (ah A x)) (ds d rest A))∧(∀ b,r8 .not (.bool b)=some (.bool !b))∧(∀ k n,r8 .neg (.int k n)=some (.int k (k.wrap (0-n))))∧(∀ k n,r8 .xor (.int k n)=some (.int k (pS k n))) ∧
  (∀ d rest A k x,bQ A d (.conv k x) rest=cY (vX k (ah A x)) (ds d rest A))∧(∀ k k' n,vX k (.int k' n)=some (.int k (k.wrap n))) ∧
  (∀ d rest A s x,bQ A d (.ld s x) rest=cY (gQ s (gV A (ah A x))) (ds d rest A))∧(∀ d rest A f off x,bQ A d (.fa f off x) rest=cY (lX A f off (ah A x)) (ds d rest A)) ∧
  (∀ d rest A f off s x,bQ A d (.fl f off s x) rest=cY (tg f off s (ah A x).dv) (ds d rest A))∧(∀ d rest A n esz x i,bQ A d (.ia n esz x i) rest=cY (rm A n esz (ah A x) (ah A i)) (ds d rest A)) ∧
  (∀ d rest A esz x i,bQ A d (.is esz x i) rest=cY (l6 A esz (ah A x) (ah A i)) (ds d rest A))∧(∀ d rest A n esz s x i,bQ A d (.ix n esz s x i) rest=cY (rz n esz s (ah A x) (ah A i)) (ds d rest A)) ∧
  (∀ d rest A x,bQ A d (.len x) rest=cY (j9 A (ah A x)) (ds d rest A))∧(∀ d rest A n esz x,bQ A d (.va n esz x) rest=cY (pq A n esz (ah A x)) (ds d rest A)) ∧
  (∀ d rest A zs ps,bQ A d (.bld zs ps) rest=cY ((eJ zs (ps.map fun p=>(p.1,ah A p.2))).map .agg) (ds d rest A))∧(∀ d rest A x i,bQ A d (.ext x i) rest=cY (wC i (ah A x)) (ds d rest A))∧(∀ i fs,wC i (.tuple fs)=fs[i]?) ∧
  (∀ d rest A f caps,bQ A d (.mk f caps) rest=cY (if ((caps.map (ah A)).all fun y=>y.cn)=true then some (.func f (caps.map (ah A))) else none) (ds d rest A)) ∧
  (∀ rest A d z,bQ A (some d) (.alloc z) rest=vu A d z rest (A.o d))∧(∀ A d z rest,vu A d z rest none=aA rest ((A.aO d (.box z)).put d (.ptr d []))) ∧
  (∀ rest A d x,bQ A (some d) (.box x) rest=sL A d (ah A x) rest (A.o d))∧(∀ A d z rest,sL A d z rest none=sM A d z rest z.cn)∧(∀ A d z rest,sM A d z rest true=aA rest ((A.aO d (.box z)).put d (.ptr d []))) ∧
  (∀ rest A s x v,bQ A none (.br s x v) rest=uP A s (ah A v) rest (ah A x))∧(∀ A s v rest n p,uP A s v rest (.ptr n p)=uQ A s n p v rest (A.o n))∧(∀ A s n p v rest b,uQ A s n p v rest (some (.box b))=dj A s n p b v rest (b.at p)) ∧
  (∀ d rest A f args,bQ A d (.call f args) rest=.call f (args.map (ah A)) (bV true A (args.map (ah A))) (bV false A (args.map (ah A))) d rest A) ∧
  (∀ d rest A x args,bQ A d (.eF x args) rest=sP A d (args.map (ah A)) rest (ah A x))∧(∀ A d args rest f caps,sP A d args rest (.func f caps)=.call f (args++caps) (bV true A (args++caps)) (bV false A (args++caps)) d rest A) :=
 ⟨Pf,Pg,aha,ag7,ag9,ag8,ahb,ajy,ajC,fun _ _ _ _ _=>rfl,fun _ _ _ _ _=>rfl,aja,ajj,ajH,fun _=>rfl,fun _ _=>rfl,fun _ _=>rfl,ajh,fun _ _ _=>rfl,ajq,ajl,ajm,ajn,ajo,ajp,ajr,ajI,ajb,ajk,fun _ _=>rfl,aju,
  ai8,fun _ _ _ _=>rfl,ajc,fun _ _ _ _=>rfl,fun _ _ _ _=>rfl,ajG,fun _ _ _ _ _ _=>rfl,fun _ _ _ _ _ _ _=>rfl,aje,ajf,fun _ _ _ _ _ _=>rfl⟩
theorem ee{A:af}{s:Option Nat}{n:Nat}{p:List Nat}{b v old:I}{rest:List aC}(h1:v.cn=true)(h2:b8 s v=true)(h3:v.aS=old.aS):dj A s n p b v rest (some old)=aA rest (A.aO n (.box (b.dM p v))):=by
 simp only[dj];rw[if_pos ⟨h1,h2,h3⟩]
theorem Nx :
  (∀ A x,gV A (.ref x)=some x)∧(∀ A n p,gV A (.ptr n p)=ft p (A.o n))∧(∀ p c,ft p (some (.box c))=c.at p)∧(∀ c:I,c.at []=some c)∧(∀ (c:I) i p,c.at (i::p)=jE i p c.dv) ∧
  (∀ i p fs,jE i p (some fs)=oy p fs[i]?)∧(∀ p f,oy p (some f)=f.at p)∧(∀ c v:I,c.dM [] v=v)∧(∀ (c:I) i p v,c.dM (i::p) v=uL c i p v c.dv)∧(∀ c i p v fs,uL c i p v (some fs)=zo fs i p v fs[i]?) ∧
  (∀ fs i p v f,zo fs i p v (some f)=.agg (fs.set i (f.dM p v)))∧(∀ fs,(I.agg fs).dv=some fs)∧(∀ x:I,fG (some x)=x.dv) ∧
  (∀ s x,gQ s (some x)=if b8 s x=true then some x else none) ∧
  (∀ A f off c,lX A f off (.ref c)=q0 f off c.dv)∧(∀ A f off n p,lX A f off (.ptr n p)=qZ n p f off (fG (ft p (A.o n))))∧(∀ f off fs,q0 f off (some fs)=pX fs f off fs[f]?)∧(∀ fs f off v,pX fs f off (some v)=dB fs f off (.ref v)) ∧
  (∀ n p f off fs,qZ n p f off (some fs)=dB fs f off (.ptr n (p++[f])))∧(∀ A n esz x kk k,rm A n esz x (.int kk k)=oL A n esz k x)∧(∀ A n esz k c,oL A n esz k (.ref c)=jf k n (rp n esz k c.dv)) ∧
  (∀ A n esz k m p,oL A n esz k (.ptr m p)=jf k n (rn n esz m p k (fG (ft p (A.o m)))))∧(∀ n esz k fs,rp n esz k (some fs)=je n esz fs ((fs[k.toNat]?).map .ref))∧(∀ n esz m p k fs,rn n esz m p k (some fs)=je n esz fs (some (.ptr m (p++[k.toNat])))) ∧
  (∀ A esz x kk k,l6 A esz x (.int kk k)=ik A esz k x)∧(∀ n esz s x kk k,rz n esz s x (.int kk k)=ry n esz s k x.dv)∧(∀ n esz s k fs,ry n esz s k (some fs)=jf k n (je n esz fs (gQ s fs[k.toNat]?))) ∧
  (∀ A n esz m p,pq A n esz (.ptr m p)=r9 n esz m p (fG (ft p (A.o m))))∧(∀ n esz m p fs,r9 n esz m p (some fs)=pt n esz fs (.view m p esz 0 n)) ∧
  (∀ A sz es,j9 A (.slice sz es)=some (.int .i64 es.length))∧(∀ A n,j9 A (.nils n)=some (.int .i64 0))∧(∀ A n,j9 A (.c0 n)=some (.int .i64 0)) :=
 ⟨fun _ _=>rfl,fun _ _ _=>rfl,fun _ _=>rfl,mG,PO,fun _ _ _=>rfl,fun _ _=>rfl,gp,alj,fun _ _ _ _ _=>rfl,fun _ _ _ _ _=>rfl,fun _=>rfl,fun _=>rfl,fun _ _=>rfl,fun _ _ _ _=>rfl,fun _ _ _ _ _=>rfl,fun _ _ _=>rfl,fun _ _ _ _=>rfl,
  fun _ _ _ _ _=>rfl,fun _ _ _ _ _ _=>rfl,fun _ _ _ _ _=>rfl,fun _ _ _ _ _ _=>rfl,fun _ _ _ _=>rfl,fun _ _ _ _ _ _=>rfl,fun _ _ _ _ _=>rfl,fun _ _ _ _ _ _=>rfl,fun _ _ _ _ _=>rfl,fun _ _ _ _ _=>rfl,fun _ _ _ _ _=>rfl,fun _ _ _=>rfl,fun _ _=>rfl,fun _ _=>rfl⟩
theorem DF :
  (∀ A n p,a6 true A (.ptr n p)=s9 true A (ft p (A.o n)))∧(∀ A x,s9 true A (some x)=if x.bj=true then some (.ref x) else (df A 9 x).map .ref)∧(∀ A n p sz lo k,a6 true A (.view n p sz lo k)=kA sz lo k (fG (ft p (A.o n)))) ∧
  (∀ A n p,a6 false A (.ptr n p)=none)∧(∀ A n p sz lo k,a6 false A (.view n p sz lo k)=none)∧(∀ x,lQ none x=none)∧(∀ x,lQ x none=none) ∧
  (∀ aD A n k,a6 aD A (.own n k)=oE k (A.o n))∧(∀ aD A fs,a6 aD A (.agg fs)=(bV aD A fs).map .agg)∧(∀ aD A f fs,a6 aD A (.func f fs)=(bV aD A fs).map (.func f))∧(∀ aD A k n,a6 aD A (.int k n)=some (.int k n))∧(∀ aD A b,a6 aD A (.bool b)=some (.bool b)) ∧
  (∀ aD A s,a6 aD A (.c6 s)=some (.c6 s))∧(∀ aD A n,a6 aD A (.nils n)=some (.slice n []))∧(∀ aD A n es,a6 aD A (.slice n es)=if I.bU es=true then some (.slice n es) else none)∧(∀ aD A x,a6 aD A (.ref x)=if x.bj=true then some (.ref x) else none) ∧
  (∀ aD A,bV aD A []=some [])∧(∀ aD A x xs,bV aD A (x::xs)=lQ (a6 aD A x) (bV aD A xs))∧(∀ x xs,lQ (some x) (some xs)=some (x::xs)) ∧
  (∀ fs,(I.agg fs).bj=I.bU fs)∧(∀ n fs,(I.slice n fs).bj=I.bU fs)∧(∀ x,(I.ref x).bj=x.bj)∧(∀ k n,(I.int k n).bj=true)∧(∀ n,(I.bool n).bj=true)∧(∀ n,(I.c6 n).bj=true)∧(∀ f fs,(I.func f fs).bj=I.bU fs) ∧
  I.bU []=true∧(∀ x xs,I.bU (x::xs)=(x.bj&&I.bU xs)) ∧
  (∀ rs r A,jS rs r .ret A=nZ r (fj A rs))∧(∀ rs r A,jS rs r .normal A=nZ r (fj A rs))∧(∀ r xs,nZ r (some xs)=(jq xs=r))∧(∀ A,fj A []=some [])∧(∀ A t rs,fj A (.tmp t::rs)=lQ (a6 true A (A.t t)) (fj A rs)) ∧
  (∀ A a s rs,fj A (.cell a s::rs)=lQ (rW s A (gV A (A.t a))) (fj A rs))∧(∀ s A x,rW s A (some x)=if b8 s x=true then a6 true A x else none)∧(∀ x,jq [x]=x)∧(∀ x y xs,jq (x::y::xs)=.tuple (x::y::xs)) :=
 ⟨Ye,fun _ _=>rfl,DL,fun _ _ _=>rfl,fun _ _ _ _ _ _=>rfl,fun _=>rfl,fun x=>by cases x <;>rfl,Yd,X6,X8,X9,X7,Yi,Yc,Yh,Yf,Yl,Yk,fun _ _=>rfl,Uc,Ui,Uh,Ug,Ud,Uj,Ue,Um,Uk,
  ak5,ak4,fun _ _=>rfl,akY,akZ,akX,fun _ _ _=>rfl,fun _=>rfl,fun _ _ _=>rfl⟩
theorem AH :
  (∀ k a b,cL .add (.int k a) (.int k b)=some (.int k (k.wrap (a+b))))∧(∀ k a b,cL .sub (.int k a) (.int k b)=some (.int k (k.wrap (a-b))))∧(∀ k a b,cL .mul (.int k a) (.int k b)=some (.int k (k.wrap (a*b)))) ∧
  (∀ k a b,cL .quo (.int k a) (.int k b)=if b=0 then none else some (.int k (k.wrap (a.tdiv b))))∧(∀ k a b,cL .rem (.int k a) (.int k b)=if b=0 then none else some (.int k (a.tmod b))) ∧
  (∀ k a b,cL .and (.int k a) (.int k b)=some (.int k (k.wrap ((BitVec.ofInt k.bits a &&& BitVec.ofInt k.bits b).toNat:Int))))∧(∀ k a b,cL .or (.int k a) (.int k b)=some (.int k (k.wrap ((BitVec.ofInt k.bits a ||| BitVec.ofInt k.bits b).toNat:Int)))) ∧
  (∀ k a b,cL .xor (.int k a) (.int k b)=some (.int k (k.wrap ((BitVec.ofInt k.bits a ^^^ BitVec.ofInt k.bits b).toNat:Int))))∧(∀ k a b,cL .andNot (.int k a) (.int k b)=some (.int k (k.wrap ((BitVec.ofInt k.bits a &&& ~~~ BitVec.ofInt k.bits b).toNat:Int)))) ∧
  (∀ k k' a b,cL .shl (.int k a) (.int k' b)=if 0≤b then some (.int k (k.wrap (a*2^(min b.toNat k.bits)))) else none)∧(∀ k k' a b,cL .shr (.int k a) (.int k' b)=if 0≤b then some (.int k (a.fdiv (2^(min b.toNat k.bits)))) else none) ∧
  (∀ k a b,cL .eql (.int k a) (.int k b)=some (.bool (a==b)))∧(∀ k a b,cL .neq (.int k a) (.int k b)=some (.bool (a != b)))∧(∀ k a b,cL .lss (.int k a) (.int k b)=some (.bool (decide (a<b))))∧(∀ k a b,cL .leq (.int k a) (.int k b)=some (.bool (decide (a≤b)))) ∧
  (∀ k a b,cL .gtr (.int k a) (.int k b)=some (.bool (decide (b<a))))∧(∀ k a b,cL .geq (.int k a) (.int k b)=some (.bool (decide (b≤a)))) :=
 ⟨PU,Qa,P2,P6,P7,PV,P5,Qb,PW,P8,P9,PX,P3,P1,P0,PZ,PY⟩
end Go.Abs
namespace Go.Abs
open Go Go.RowKit
open Enc (enc)
section
variable {α:Type} [Enc α]
theorem ais(A:af)(l:List α):j9 A (enc l)=some (.int .i64 l.length):=by simp[gi,j9]
theorem ahX{A:af}(esz:Nat){k:Int}{l:List α}(h:0≤k∧k.toNat<l.length)(hs:Enc.sz α=esz):ik A esz k (enc l)=some (.ref (enc l[k.toNat])):=by
 simp only[gi,ik,hs,zy3,true_and];rw[if_pos ⟨h.1,by omega⟩];simp[h.2]
theorem eL{A:af}(esz:Nat){k:Nat}{l:List α}(h:k<l.length)(hs:Enc.sz α=esz):ik A esz k (enc l)=some (.ref (enc l[k])):=by
 have:=ahX (A:=A) esz (k:=(k:Int)) (l:=l) ⟨by omega,by simpa using h⟩ hs;simpa using this
theorem bL.lt{α:Type}{n:Nat}(x:bL n α){k:Nat}(h:k<n):k<x.l.length:=by rw[x.h];exact h
theorem oM{n:Nat}(esz:Nat){k:Nat}(x:bL n α){y:Option I}(h:k<n)(hs:Enc.sz α=esz):jf (k:Int) n (je n esz (x.l.map enc) y)=y:=by
 simp only[jf,je,wB n esz x.l x.h hs,if_true];rw[if_pos ⟨by omega,by omega⟩]
theorem xU{n:Nat}(esz:Nat){k:Int}(x:bL n α){y:Option I}(h:0≤k∧k<n)(hs:Enc.sz α=esz):jf k n (je n esz (x.l.map enc) y)=y:=by
 simp only[jf,je,wB n esz x.l x.h hs,if_true];rw[if_pos h]
theorem ahf{n k:Nat}(x:bL n α)(h:k<n):(x.l.map enc)[k]?=some (enc (x.l[k]'(x.lt h))):=by
 simp[x.lt h]
theorem PN{n k:Nat}{p:List Nat}{x:bL n α}(h:k<n):jE k p (some (x.l.map enc))=(enc (x.l[k]'(x.lt h))).at p:=by
 have hl:=x.lt h;simp[jE,oy,hl]
theorem ajT(k:IntKind)(n:Int):gQ none (some (.int k n))=some (.int k n):=by simp[gQ,dE,b8,I.isAgg]
theorem ajR(b:Bool):gQ none (some (.bool b))=some (.bool b):=by simp[gQ,dE,b8,I.isAgg]
theorem ajU(z:Nat)(es:List I):gQ none (some (.slice z es))=some (.slice z es):=by simp[gQ,dE,b8,I.isAgg]
theorem ajS(f:FuncId)(es:List I):gQ none (some (.func f es))=some (.func f es):=by simp[gQ,dE,b8,I.isAgg]
end
mutual
/-- What every value in memory keeps to: whole numbers within their kind,slices no longer than a slice can be. -/
def I.wf:I→Prop
 | .agg fs=>I.hX fs
 | .int k n=>k.min≤n∧n≤k.max
 | .c6 s=>s.size≤maxLen
 | .slice _ es=>es.length≤maxLen∧I.hX es
 | .ref c=>c.wf
 | .func _ caps=>I.hX caps
 | .iface _ v=>v.wf
 |_=>True
def I.hX:List I→Prop
 | []=>True
 |x::xs=>x.wf∧I.hX xs
end
mutual
theorem ux{w:World}{D:aT}{E:aW} : ∀ (x:I) (cs:List Value),ai w D E x cs→x.wf
 | .agg fs,cs,h=>by simp only[ai,I.wf] at *;exact yZ fs cs h
 | .int k n,cs,h=>by simp only[ai,I.wf] at *;exact h.2
 | .c6 s,cs,h=>by simp only[ai,I.wf] at *;exact h.2
 | .slice sz es,cs,h=>by
  simp only[ai,I.wf] at *;obtain ⟨a,cap,_,h1,h2,h3,_⟩:=h;refine ⟨by omega,?_⟩;rcases h3 with rfl | ⟨b,off,cs',_,_,h4⟩
  ·simp[I.hX]
  ·exact yZ es cs' h4
 | .ref c,cs,h=>by simp only[ai,I.wf] at *;obtain ⟨b,off,cs',_,_,h⟩:=h;exact ux c cs' h
 | .func f caps,cs,h=>by simp only[ai,I.wf] at *;obtain ⟨vs,_,h⟩:=h;exact uK caps vs h
 | .iface t v,cs,h=>by simp only[ai,I.wf] at *;obtain ⟨u,cs',_,_,h⟩:=h;exact ux v cs' h
 | .bool _,_,_ | .nilp,_,_ | .dh,_,_ | .dW,_,_ | .raw _,_,_ | .nils _,_,_ | .c0 _,_,_ | .ptr _ _,_,_ | .own _ _,_,_ | .view _ _ _ _ _,_,_ | .mref _,_,_ | .dx _,_,_ | .cM _ _,_,_ | .undef,_,_ | .de,_,_ | .tuple _,_,_=>by simp[I.wf]
theorem yZ{w:World}{D:aT}{E:aW} : ∀ (xs:List I) (cs:List Value),aL w D E xs cs→I.hX xs
 | [],_,_=>by simp[I.hX]
 |x::xs,cs,h=>by
  simp only[aL,I.hX] at *;obtain ⟨c1,c2,_,h1,h2⟩:=h;exact ⟨ux x c1 h1,yZ xs c2 h2⟩
theorem uK{w:World}{D:aT}{E:aW} : ∀ (xs:List I) (vs:List Value),aJ w D E xs vs→I.hX xs
 | [],_,_=>by simp[I.hX]
 |x::xs,vs,h=>by
  simp only[aJ,I.hX] at *;obtain ⟨v,rest,cs,_,_,h1,h2⟩:=h;exact ⟨ux x cs h1,uK xs rest h2⟩
end
theorem amd{α:Type}[Enc α](l:List α):I.hX (l.map enc)↔∀ x∈l,(enc x:I).wf:=by
 induction l with
 |nil=>simp[I.hX]
 |cons x l ih=>simp[I.hX,ih]
theorem lE{α:Type}[Enc α](l:List α):(enc l:I).wf↔l.length≤maxLen∧∀ x∈l,(enc x:I).wf:=by
 simp only[gi,I.wf,zy3,amd]
theorem aB.wf{P:Program}{f:FuncId}{args:List I}{r:I}(hc:gU P f=true)(h:I.hX args→aB P f args r):aB P f args r :=
 ⟨hc,fun w D vs h1 h2=>(h (uK _ _ h2)).2 w D vs h1 h2⟩
theorem aB.bu{P:Program}{f:FuncId}{fn:Func}{x:aR}{rs:List bg}{args:List I}{r:I}(hf:P.funcs[f]?=some fn)(hcall:gU P f=true)(hc:(fn.body.bind (eV P fn.ntmps))=some x)
  (hrs:iV P fn.results.toList=some rs) (hn:args.length≤fn.ntmps) (h:I.hX args→∀ (w:World) (D:aT) (E:aW),J ⟨P,w,D,fn.ntmps,dC E,E,iG,none⟩ x (jS rs r) (au (bl 0 args) [])):aB P f args r :=
 aB.wf hcall fun hw=>aB.mk hf hcall hc hrs hn (h hw)
theorem bB{α:Type}[Enc α] :
  (∀ A (l:List α),j9 A (enc l)=some (.int .i64 l.length))∧(∀ n (x:bL n α),(enc x).dv=some (x.l.map enc)) :=
 ⟨ais,fun _ _=>rfl⟩
theorem kH:(∀ k n,gQ none (some (.int k n))=some (.int k n))∧(∀ b,gQ none (some (.bool b))=some (.bool b))∧(∀ z es,gQ none (some (.slice z es))=some (.slice z es))∧(∀ f es,gQ none (some (.func f es))=some (.func f es)) :=
 ⟨ajT,ajR,ajU,ajS⟩
end Go.Abs
namespace Go.Abs
open Go Go.RowKit
open Enc (enc)
def qi(neg:Bool):I→Option I
 | .nils _=>some (.bool (!neg))
 | .slice _ es=>if es.isEmpty then none else some (.bool neg)
 | .view _ _ _ _ _=>some (.bool neg)
 |_=>none
def Jq:I→Option I
 | .c6 s=>some (.int .i64 s.size)
 |_=>none
open Classical in
noncomputable def pj(n:Nat)(p:List Nat)(sz l0 k esz:Nat)(lo hi mx:Option I):Option (List I)→Option I
 |some fs=>if sz=esz then hJ n p sz l0 k fs.length lo hi mx else none
 |none=>none
noncomputable def ng(A:af)(esz:Nat)(lo hi mx:Option I):I→Option I
 | .slice sz es=>if sz=esz then jV sz es lo hi mx else none
 | .nils sz=>if sz=esz then jV sz [] lo hi mx else none
 | .c0 sz=>if sz=esz then jV sz [] lo hi mx else none
 | .view n p sz l0 k=>pj n p sz l0 k esz lo hi mx (fG (ft p (A.o n)))
 |_=>none
open Classical in
noncomputable def iB(esz:Nat):Option (List I)→Option I
 |some es=>if (es.all fun e=>e.size==esz)=true∧I.bU es=true then some (.slice esz es) else none
 |none=>none
open Classical in
noncomputable def qR(A:af)(d:Option Nat)(e esz bytes n l T sz':Nat)(es:List I)(rest:List aC):I→cQ
 | .slice sz ys=>if yw e esz bytes l sz ys T sz' es then aA rest ((A.aO n (.bR e esz (es++ys))).aP d (.own n (es.length+ys.length))) else .fail
 |_=>.fail
open Classical in
noncomputable def pF(A:af)(d:Option Nat)(e esz bytes:Nat)(z:I)(n l T:Nat)(xs:List Int)(rest:List aC):I→cQ
 | .slice _ ys=>if yx e esz bytes l ys T xs z then aA rest ((A.aO n (.c5 e (xs++rr ys))).aP d (.own n (xs.length+ys.length))) else .fail
 |_=>.fail
noncomputable def qQ(A:af)(d:Option Nat)(e esz bytes:Nat)(z:I)(n l:Nat)(x:I)(rest:List aC):Option aj→cQ
 |some (.bR T sz' es)=>qR A d e esz bytes n l T sz' es rest x
 |some (.c5 T xs)=>pF A d e esz bytes z n l T xs rest x
 |_=>.fail
noncomputable def gv(A:af)(d:Option Nat)(e esz bytes:Nat)(z x:I)(rest:List aC):I→cQ
 | .own n l=>qQ A d e esz bytes z n l x rest (A.o n)
 |s=>fq A d esz bytes z s (eD A esz s) (eD A esz x) (aA rest)
section
variable (d:Option Nat) (rest:List aC) (A:af)
noncomputable def qj(neg:Bool)(x:I):Bool→cQ
 |true=>.any (fun m=>m<2) (fun m=>aA rest (A.aP d (.bool (m==0))))
 |false=>cY (qi neg x) (ds d rest A)
theorem ajA(neg:Bool)(x:aM):bQ A d (.nilS neg x) rest=qj d rest A neg (ah A x) (kj (ah A x)):=by
 simp only[bQ,bn,bt];cases kj (ah A x)
 ·simp only[zz6,if_false,qj,qi];cases ah A x <;>rfl
 ·rfl
theorem ajs(x:aM):bQ A d (.lenT x) rest=cY (Jq (ah A x)) (ds d rest A):=by
 simp only[bQ,bn,bt];cases ah A x <;>rfl
theorem ajF(esz:Nat)(x:aM)(lo hi mx:Option aM):bQ A d (.sl esz x lo hi mx) rest=cY (ng A esz (lo.map (ah A)) (hi.map (ah A)) (mx.map (ah A)) (ah A x)) (ds d rest A):=by
 simp only[bQ,bn,bt];cases ah A x <;>try rfl
 rename_i n p sz l0 k;simp only[ng,mK,gV];cases ft p (A.o n) with
 |none=>rfl
 |some c=>cases c <;>simp only[fG,I.dv,pj] <;>(first | rfl | (split <;>rfl))
theorem ajd(T esz:Nat)(ps:List aM):bQ A d (.bs T esz ps) rest=cY (iB esz (bV false A (ps.map (ah A)))) (ds d rest A):=by
 simp only[bQ,bn,bt];cases bV false A (ps.map (ah A)) <;>simp only[iB] <;>rfl
theorem ai9(e esz bytes:Nat)(z:I)(s x:aM):bQ A d (.c7 e esz bytes z s x) rest=gv A d e esz bytes z (ah A x) rest (ah A s):=by
 simp only[bQ,bn];generalize ah A s=s';generalize ah A x=x';cases s' <;>simp only[gv]
 rename_i n l;cases x' <;>simp only <;>generalize A.o n=z <;>(cases z with
  |none=>rfl
  |some y=>cases y <;>simp only[qQ,qR,pF])
end
theorem J9 :
  (∀ d rest A neg x,bQ A d (.nilS neg x) rest=qj d rest A neg (ah A x) (kj (ah A x)))∧(∀ d rest A neg x,qj d rest A neg x false=cY (qi neg x) (ds d rest A))∧(∀ z,kj (.nils z)=false)∧(∀ n p sz lo k,kj (.view n p sz lo k)=false)∧(∀ d rest A x,bQ A d (.lenT x) rest=cY (Jq (ah A x)) (ds d rest A)) ∧
  (∀ d rest A esz x lo hi mx,bQ A d (.sl esz x lo hi mx) rest=cY (ng A esz (lo.map (ah A)) (hi.map (ah A)) (mx.map (ah A)) (ah A x)) (ds d rest A)) ∧
  (∀ d rest A T esz ps,bQ A d (.bs T esz ps) rest=cY (iB esz (bV false A (ps.map (ah A)))) (ds d rest A))∧(∀ d rest A e esz bytes z s x,bQ A d (.c7 e esz bytes z s x) rest=gv A d e esz bytes z (ah A x) rest (ah A s)) ∧
  (∀ A d e esz bytes z x rest n l,gv A d e esz bytes z x rest (.own n l)=qQ A d e esz bytes z n l x rest (A.o n))∧(∀ A d e esz bytes z n l x rest T sz es,qQ A d e esz bytes z n l x rest (some (.bR T sz es))=qR A d e esz bytes n l T sz es rest x)∧(∀ A d e esz bytes z n l x rest T xs,qQ A d e esz bytes z n l x rest (some (.c5 T xs))=pF A d e esz bytes z n l T xs rest x) ∧
  (∀ neg z,qi neg (.nils z)=some (.bool (!neg))) :=
 ⟨ajA,fun _ _ _ _ _=>rfl,fun _=>rfl,fun _ _ _ _ _=>rfl,ajs,ajF,ajd,ai9,fun _ _ _ _ _ _ _ _ _ _=>rfl,fun _ _ _ _ _ _ _ _ _ _ _ _ _=>rfl,fun _ _ _ _ _ _ _ _ _ _ _ _=>rfl,fun _ _=>rfl⟩
theorem jO(p:Nat→Bool)(xs ys:List I):I.bZ p (xs++ys)=(I.bZ p xs&&I.bZ p ys):=by
 induction xs with
 |nil=>simp[I.bZ]
 |cons x xs ih=>simp[I.bZ,ih,Bool.and_assoc]
section
variable {α:Type} [Enc α]
theorem kS{A:af}{d:Option Nat}(e:Nat)(esz bytes n:Nat){l:Nat}{es ys:List α}{rest:List aC}(hl:l=es.length)(hs:Enc.sz α=esz)(hy:ys≠[])(h1:es.length+ys.length≤maxLen)(h2:(es.length+ys.length)*bytes≤140737488355328) :
  qR A d e esz bytes n l e esz (es.map enc) rest (enc ys)=aA rest ((A.aO n (.bR e esz ((es++ys).map enc))).aP d (.own n (es++ys).length)):=by
 simp only[gi,qR];rw[if_pos ⟨by simpa using hl,hs,rfl,rfl,by simpa using hy,by simpa using h1,by simpa using h2⟩];simp
theorem nw(esz:Nat){ys:List α}(hs:Enc.sz α=esz):iB esz (some (ys.map enc))=some (enc ys):=by
 have h1:((ys.map enc).all fun e:I=>e.size==esz)=true:=by
  simp only[zx9,zx2];rintro x ⟨y,_,rfl⟩;simp[Enc.size,hs]
 simp only[iB,gi];rw[if_pos ⟨h1,iW ys⟩,hs]
theorem pL(esz:Nat)(y:α)(hs:Enc.sz α=esz):iB esz (some [enc y])=some (enc [y]):=nw (ys:=[y]) esz hs
theorem oF(sz:Nat){T k:Nat}{es:List α}(hk:k=es.length)(hs:Enc.sz α=sz):oE k (some (.bR T sz (es.map enc)))=some (enc es):=by
 simp only[oE,zy3];rw[if_pos ⟨hk,iW es⟩,gi,hs]
theorem eI(p:Nat→Bool)(l:List α):I.bZ p (l.map enc)=true:=by
 induction l with
 |nil=>rfl
 |cons x l ih=>simp only[zz9,I.bZ,bK,ih,zw3]
end
theorem I9 :
  (∀ n:Int,iB 1 (some [.int .i64 n])=some (enc [n]))∧(∀ (T:Nat) (es:List Int),oE es.length (some (.bR T 1 (es.map enc)))=some (enc es)) :=
 ⟨fun n=>pL 1 n rfl,fun _ _=>oF 1 rfl rfl⟩
theorem aF.Po{A:af}{d n T sz z:Nat}(ae:A.t d=.nils z)(hn:A.o n=none)(hlt:n<1000000):aF A ((A.aO n (.bR T sz [])).put d (.own n 0)):=by
 rintro c a w ⟨D,E,h⟩;have aw:E n=none:=by have:=h.bT n;rw[hn] at this;exact this
 have hl:dS w D E w D (fun m=>if m=n then some (.rw none 0) else E m):=by
  have ev:∀ {m:Nat} {e:bS},E m=some e→(if m=n then some (.rw none 0) else E m)=some e:=fun {m e} he=>by
   have:m≠n:=fun e=>by rw[e,aw] at he;cases he
   rw[if_neg this];exact he
  refine ⟨fun _ _ h=>h,fun _ _ _ _ h=>h,fun m b aS he=>ev he,fun m aE l he =>?_,fun m b he=>ev he,fun m b he=>ev he,fun _ _ _ _ h=>h⟩
  ·have:m≠n:=fun e=>by rw[e,aw] at he;cases he
   exact ⟨aE,l,by simp only[if_neg this];exact he,zz8 _,fun _=>rfl⟩
 refine ⟨D,fun m=>if m=n then some (.rw none 0) else E m,h.sz,h.eT,fun t =>?_,h.dQ,h.da,h.dm,fun m =>?_,fun m m' e e' b h1 h2 h3 h4 =>?_,fun m e hm =>?_,h.eZ,h.cN,h.fe,h.fI⟩
 ·simp only[af.put,af.aO];by_cases ht:t=d
  ·subst ht;simp only[if_true];have hv:=h.ef t;rw[ae] at hv;obtain ⟨cs,q1,q2⟩:=hv;simp only[ai] at q2;subst q2;refine ⟨[.slice none 0 0],by simpa[bM,I.isAgg] using q1,?_⟩;simp only[ai,if_true];exact ⟨none,0,rfl,zz8 _,⟨_,_,_,rfl⟩,fun _=>trivial⟩
  ·simp only[if_neg ht];exact aV.bN hl (h.ef t)
 ·simp only[af.put,af.aO];by_cases hm:m=n
  ·subst hm;simp only[if_true,di];exact ⟨none,by simp,by simp,trivial⟩
  ·simp only[if_neg hm];exact (h.bT m).bN hl (by simp only[if_neg hm]) fun _ _ _ _=>⟨rfl,fun _ ho=>ho⟩
 ·by_cases hm:m=n <;>by_cases hm':m'=n
  ·rw[hm,hm']
  ·simp only[if_pos hm,t7] at h1;subst h1;simp[bS.aE] at h3
  ·simp only[if_pos hm',t7] at h2;subst h2;simp[bS.aE] at h4
  ·simp only[if_neg hm] at h1;simp only[if_neg hm'] at h2;exact h.c4 m m' e e' b h1 h2 h3 h4
 ·have hmn:m≠n:=fun e=>by rw[e,h.kB (.inr hlt)] at hm;cases hm
  simp only[if_neg hmn];exact h.dV m e hm
theorem aF.ou{ts:List (Nat×I)}{os:List (Nat×aj)}(d n T sz z:Nat)(ae:bO ts d=.nils z)(hn:ak os n=none){B:af}(h:aF (au ((d,.own n 0)::ts) ((n,.bR T sz [])::os)) B)(hlt:n<1000000:=by decide):aF (au ts os) B :=
 ((aF.Po (A:=au ts os) (T:=T) (sz:=sz) ae hn hlt).trans (by rw[mb,tR];exact aF.refl _)).trans h
def bL.g{n:Nat}(x:bL n Int)(k:Nat):Int:=x.l.getD k 0
theorem bL.tr{n k:Nat}(x:bL n Int)(h:k<n):x.l[k]'(x.lt h)=x.g k:=by simp[bL.g,x.lt h]
theorem pI{n k:Nat}{p:List Nat}(x:bL n Int)(h:k<n):jE k p (some (x.l.map enc))=(I.int .i64 (x.g k)).at p:=by
 rw[PN h,x.tr h];rfl
theorem tv{n k:Nat}(x:bL n Int)(h:k<n):(x.l.map (enc (α:=Int)))[k]?=some (I.int .i64 (x.g k)):=by
 rw[ahf x h,x.tr h];rfl
theorem J0:(∀ k n,b8 none (.int k n)=true)∧(∀ b,b8 none (.bool b)=true)∧(∀ z es,b8 none (.slice z es)=true)∧(∀ f es,b8 none (.func f es)=true)∧(∀ z,b8 none (.nils z)=true)∧(∀ n k,b8 none (.own n k)=true) :=
 ⟨fun _ _=>rfl,fun _=>rfl,fun _ _=>rfl,fun _ _=>rfl,fun _=>rfl,fun _ _=>rfl⟩
theorem pE{p:Nat→Bool}{n:Nat}(h:∀ k,k<n→p k=true):(List.range n).all p=true:=by
 simp only[zx9,zw7];exact h
theorem nq{p:Nat→Bool}{n:Nat}(i:Nat)(hi:i<n)(h:p i=false):(List.range n).all p=false:=by
 simp only[List.all_eq_false,zw7];exact ⟨i,hi,by simp[h]⟩
theorem ab:(type_of% @pC)∧(type_of% @J8)∧(type_of% @J9)∧(type_of% @I9)∧(type_of% @J0)∧(type_of% @Nx)∧(type_of% @DF)∧(type_of% @AH)∧(∀ n:Int,(enc n:I)=.int .i64 n)∧(∀ n:Bool,(enc n:I)=.bool n) ∧
  (∀ {α β:Type} (f:α→β) (x:α) (xs:List α),List.map f (x::xs)=f x::List.map f xs)∧(∀ {α β:Type} (f:α→β),List.map f []=[])∧(∀ {α:Type} (xs:List α),[]++xs=xs)∧(∀ n:Nat,(n:Int).toNat=n)∧(∀ {α β:Type} (f:α→β) (x:α),Option.map f (some x)=some (f x)) ∧
  (∀ n:Nat,0≤(n:Int))∧((!true)=false)∧((!false)=true)∧((false=true)=False)∧((true=false)=False) :=
 ⟨@pC,@J8,@J9,@I9,@J0,@Nx,@DF,@AH,fY,wm,fun _ _ _=>rfl,fun _=>rfl,fun _=>rfl,fun _=>rfl,fun _ _=>rfl,fun n=>Int.natCast_nonneg n,rfl,rfl,by simp,by simp⟩
end Go.Abs
namespace Go.Abs
open Go Go.RowKit
open Enc (enc)
theorem kQ.bu{P:Program}{f:FuncId}{fn:Func}{x:aR}{rs:List bg}{Y:Value→List I→List (Nat×aj)→cV→Prop}{args:List I}{os:List (Nat×aj)}{post:cV}(hf:P.funcs[f]?=some fn)(hcall:gU P f=true)(hc:(fn.body.bind (eV P fn.ntmps))=some x)
  (hrs:iV P fn.results.toList=some rs) (hn:args.length≤fn.ntmps) (hn2:fn.ntmps≤1000000) (hos:∀ m,av os m=true→1000000≤m) (h:I.hX args→∀ (w:World) (D:aT) (E:aW),J ⟨P,w,D,fn.ntmps,dC E,E,Y,none⟩ x (nY rs post) (au (bl 0 args) os)):kQ P f Y args os post:=by
 obtain ⟨body,hb,hc'⟩:=Option.bind_eq_some_iff.1 hc;refine ⟨hcall,fun w D E vs hy hD ho hv =>?_⟩;exact (kQ.ue hf hb hcall hc' hrs hn (fun m hm=>⟨zu0 hn2 (hos m hm),hos m hm⟩) (fun w D E=>(h (uK _ _ hv) w D E).sub (Nf args os))).2 w D E vs hy hD ho hv
theorem cH.bu{P:Program}{f:FuncId}{fn:Func}{x:aR}{rs:List bg}{args:List I}{os:List (Nat×aj)}{post:cV}(hf:P.funcs[f]?=some fn)(hcall:gU P f=true)(hc:(fn.body.bind (eV P fn.ntmps))=some x)
  (hrs:iV P fn.results.toList=some rs) (hn:args.length≤fn.ntmps) (hn2:fn.ntmps≤1000000) (hos:∀ m,av os m=true→1000000≤m) (h:I.hX args→∀ (w:World) (D:aT) (E:aW),J ⟨P,w,D,fn.ntmps,dC E,E,iG,none⟩ x (nY rs post) (au (bl 0 args) os)):cH P f args os post :=
 cH.JQ (kQ.bu hf hcall hc hrs hn hn2 hos h)
theorem rj{A:af} : ∀ n x,ak [] n=some x→A.o n=some x∧x.only (av [])=true∧x.eR=true:=fun n x h=>by simp[ak] at h
theorem nF{A:af}{k:Nat}{c:I}(h1:A.o k=some (.box c))(h2:∀ p,c.only p=true):∀ n x,ak [(k,.box c)] n=some x→A.o n=some x∧x.only (av [(k,.box c)])=true∧x.eR=true:=fun n x h=>by
 simp only[ak] at h;split at h
 ·rename_i hn;subst hn;simp only[t7] at h;subst h;exact ⟨h1,h2 _,rfl⟩
 ·cases h
theorem eK.nil{aD:Bool}{ρ:List (Nat×Nat)}{os0:List (Nat×aj)}{r:I}(h1:∀ p,r.only p=true)(h2:aD=true→r.c8=true):eK aD ρ [] os0 r [] :=
 ⟨fun m x h=>by simp[ak] at h,fun m m' h=>by simp[av,ak] at h,fun m h=>by simp[av,ak] at h,fun m h=>by simp[av,ak] at h,h1 _,h2⟩
theorem dA{k:Nat}{x:aj}{m:Nat} : av [(k,x)] m=true↔m=k:=by
 simp only[av,ak];split <;>simp_all
theorem eK.tY{aD:Bool}{k d:Nat}{os0:List (Nat×aj)}{r c:I}(h1:∀ p,c.only p=true)(h2:aD=true→c.c8=true)(h3:r.only (av [(k,.box c)])=true)(h4:aD=true→r.c8=true)(h5:ak os0 d=none)(h6:d<1000000):eK aD [(k,d)] [] os0 r [(k,.box c)]:=by
 refine ⟨fun m x h =>?_,fun m m' h h' _ =>?_,fun m h=>by simp[av,ak] at h,fun m h _ =>?_,h3,h4⟩
 ·simp only[ak] at h;split at h
  ·simp only[t7] at h;subst h;exact ⟨h1 _,rfl,h2⟩
  ·cases h
 ·rw[dA.1 h,dA.1 h']
 ·rw[dA.1 h];simp[bD,h5,h6]
theorem eK.one{aD:Bool}{k d:Nat}{x:aj}{os0:List (Nat×aj)}{r c:I}(h1:∀ p,c.only p=true)(h2:aD=true→c.c8=true)(h3:r.only (av [(k,.box c)])=true)(h4:aD=true→r.c8=true):eK aD [(k,d)] [(k,x)] os0 r [(k,.box c)]:=by
 refine ⟨fun m x h =>?_,fun m m' h h' _ =>?_,fun m h =>?_,fun m h h' =>?_,h3,h4⟩
 ·simp only[ak] at h;split at h
  ·simp only[t7] at h;subst h;exact ⟨h1 _,rfl,h2⟩
  ·cases h
 ·rw[dA.1 h,dA.1 h']
 ·rw[dA.1 h];exact dA.2 rfl
 ·rw[dA.1 h] at h';have:av [(k,x)] k=true:=dA.2 rfl;rw[this] at h';cases h'
theorem gh.nil{ρ:List (Nat×Nat)}{os0:List (Nat×aj)} : gh ρ [] os0:=⟨fun m x h=>by simp[ak] at h,fun m m' h=>by simp[av,ak] at h⟩
mutual
theorem m5(ρ:Nat→Nat):∀ x:I,x.bj=true→x.aQ ρ=x
 | .agg fs,h=>by simp only[I.aQ,I.bj] at *;rw[o9 ρ fs h]
 | .slice _ es,h=>by simp only[I.aQ,I.bj] at *;rw[o9 ρ es h]
 | .ref x,h=>by simp only[I.aQ,I.bj] at *;rw[m5 ρ x h]
 | .func _ caps,h=>by simp only[I.aQ,I.bj] at *;rw[o9 ρ caps h]
 | .iface _ v,h=>by simp only[I.aQ,I.bj] at *;rw[m5 ρ v h]
 | .bool _,_ | .int _ _,_ | .c6 _,_ | .nilp,_ | .dh,_ | .dW,_ | .raw _,_ | .nils _,_ | .c0 _,_=>by simp only[I.aQ]
 | .cM ks vs,h=>by simp only[I.aQ,I.bj,zz3] at *;rw[o9 ρ ks h.1,o9 ρ vs h.2]
 | .ptr _ _,h | .own _ _,h | .view _ _ _ _ _,h | .mref _,h | .dx _,h | .undef,h | .de,h | .tuple _,h=>by simp[I.bj] at h
theorem o9(ρ:Nat→Nat):∀ xs:List I,I.bU xs=true→I.cR ρ xs=xs
 | [],_=>rfl
 |x::xs,h=>by
  simp only[I.bU,zz3] at h;simp only[I.cR,m5 ρ x h.1,o9 ρ xs h.2]
end
theorem jQ :
  (∀ (k:IntKind) n (ρ:Nat→Nat),(I.int k n).aQ ρ=.int k n)∧(∀ (b:Bool) (ρ:Nat→Nat),(I.bool b).aQ ρ=.bool b)∧(∀ n p (ρ:Nat→Nat),(I.ptr n p).aQ ρ=.ptr (ρ n) p) ∧
  (∀ n p sz lo k (ρ:Nat→Nat),(I.view n p sz lo k).aQ ρ=.view (ρ n) p sz lo k)∧(∀ fs (ρ:Nat→Nat),(I.agg fs).aQ ρ=.agg (I.cR ρ fs))∧(∀ fs (ρ:Nat→Nat),(I.tuple fs).aQ ρ=.tuple (I.cR ρ fs))∧(∀ f fs (ρ:Nat→Nat),(I.func f fs).aQ ρ=.func f (I.cR ρ fs)) ∧
  (∀ ρ:Nat→Nat,I.cR ρ []=[])∧(∀ (ρ:Nat→Nat) x xs,I.cR ρ (x::xs)=x.aQ ρ::I.cR ρ xs)∧(∀ (ρ:Nat→Nat) (x:I),(aj.box x).aQ ρ=.box (x.aQ ρ)) ∧
  (∀ (z:Nat) (ρ:Nat→Nat),(I.nils z).aQ ρ=.nils z)∧(∀ (z:Nat) (ρ:Nat→Nat),(I.c0 z).aQ ρ=.c0 z) ∧
  (∀ n,bD [] n=n)∧(∀ a b r n,bD ((a,b)::r) n=if n=a then b else bD r n)∧(∀ ρ,dL ρ []=[])∧(∀ ρ k x os,dL ρ ((k,x)::os)=(bD ρ k,x.aQ (bD ρ))::dL ρ os) :=
 ⟨fun _ _ _=>by simp only[I.aQ],fun _ _=>by simp only[I.aQ],fun _ _ _=>by simp only[I.aQ],fun _ _ _ _ _ _=>by simp only[I.aQ],fun _ _=>by simp only[I.aQ],fun _ _=>by simp only[I.aQ],fun _ _ _=>by simp only[I.aQ],
  fun _=>rfl,fun _ _ _=>by simp only[I.cR],fun _ _=>rfl,fun _ _=>by simp only[I.aQ],fun _ _=>by simp only[I.aQ],fun _=>rfl,fun _ _ _ _=>rfl,fun _=>rfl,fun _ _ _ _=>rfl⟩
section
variable {α:Type} [Enc α]
theorem ky(ρ:Nat→Nat)(x:α):(enc x).aQ ρ=enc x:=m5 ρ _ (ec x)
theorem hE(ρ:Nat→Nat)(l:List α):I.cR ρ (l.map enc)=l.map enc:=o9 ρ _ (iW l)
class ot (α:Type) [Enc α]:Prop where
 c8:∀ x:α,(enc x).c8=true
theorem Dk[ot α](x:α):(enc x).c8=true:=ot.c8 x
theorem x7[ot α](l:List α):I.jk (l.map enc)=true:=by
 induction l with
 |nil=>rfl
 |cons x l ih=>simp only[zz9,I.jk,Dk,ih,zw3]
instance:ot Int:=⟨fun _=>rfl⟩
instance {n:Nat} [ot α]:ot (bL n α):=⟨fun x=>by simp only[enc,I.c8];exact x7 x.l⟩
theorem qC(A:af)(esz:Nat)(l:List α)(hs:Enc.sz α=esz):eD A esz (enc l)=some (l.map enc):=by
 simp only[gi,eD,hs,if_true]
theorem uT(l:List α):kj (enc l)=l.isEmpty:=by
 simp only[gi,kj];cases l <;>rfl
theorem JK(neg:Bool)(l:List α)(h:l≠[]):qi neg (enc l)=some (.bool neg):=by
 simp only[gi,qi];cases l with
 |nil=>exact absurd rfl h
 |cons=>rfl
section
variable {P:Program} {Y:Value→List I→List (Nat×aj)→cV→Prop} {K:af→Prop} {A:af} {rest:List aC} {d:Nat} {e esz bytes:Nat} {q:Nat}
theorem bh.ox(z:α){l:List α}(hs:Enc.sz α=esz)(hl:l≠[])(hf:A.o d=none)(hb:l.length*bytes≤140737488355328)(hml:l.length≤maxLen)
  (h:∀ m,bh P Y false K (aA rest ((A.aO d (.box (.agg ((l++List.replicate m z).map enc)))).aP (some d) (.view d [] esz 0 l.length)))):bh P Y false K (gv A (some d) e esz bytes (enc z) (enc l) rest (.c0 q)):=by
 have hne:l.map (enc (α:=α))≠[]:=by simpa using hl
 have h1:eD A esz (.c0 q)=some []:=rfl;simp only[gv,h1,qC A esz l hs,fq,if_neg hne,gu,hf,List.length_nil,zz4,zy3,if_pos (u8 hb hml),zy7];refine .any rfl fun m _ =>?_;have:=h m;simp only[zx4,List.map_replicate] at this;exact this
theorem Au(z:I)(hs:Enc.sz α=esz):gv A (some d) e esz bytes z (enc ([]:List α)) rest (.c0 q)=aA rest (A.aP (some d) (.c0 q)):=by
 have h1:eD A esz (.c0 q)=some []:=rfl;simp only[gv,h1,qC A esz ([]:List α) hs,fq,zx3,if_true]
theorem ajg(esz:Nat)(z:I)(x:aM)(rest:List aC)(A:af):bQ A none (.jH esz z x) rest=ny A esz z (aA rest) (ah A x):=rfl
theorem alm(z:α)(k:Nat):I.cU (List.replicate k (enc z))=List.replicate k (Enc.aS α):=by
 have:List.replicate k (enc z)=(List.replicate k z).map (enc (α:=α)):=by simp
 rw[this,r0];simp
theorem vV(z:α){n lo k:Nat}{xs:List α}(ho:A.o n=some (.box (.agg (xs.map enc))))(hk:lo+k≤xs.length) :
  ny A esz (enc z) (aA rest) (.view n [] esz lo k)=aA rest (A.aO n (.box (.agg ((xs.take lo++(List.replicate k z++xs.drop (lo+k))).map enc)))):=by
 have h1:I.cU (List.replicate k (enc z))=I.cU (((xs.map (enc (α:=α))).drop lo).take k):=by
  rw[alm,←List.map_drop,←List.map_take,r0,zy8,zy9]
  congr 1;omega
 have h2:(I.agg (xs.map (enc (α:=α)))).at []=some (.agg (xs.map enc)):=rfl;simp only[ny,ho,h2];rw[if_pos ⟨rfl,h1⟩];simp only[iP,gp,zx4,List.map_take,List.map_drop,List.map_replicate,List.length_replicate]
theorem zt{n:Nat}{p:List Nat}{sz k total i:Nat}(h:i≤total)(h0:0<total):hJ n p sz 0 k total none (some (.int .i64 i)) none=some (.view n p sz 0 i):=by
 simp only[hJ,ig];rw[if_pos ⟨by omega,by omega,by omega⟩,if_neg (by omega)];simp
theorem zu{n:Nat}{p:List Nat}{sz k total i:Nat}(h:i≤k)(hk:k≤total)(h0:i<total):hJ n p sz 0 k total (some (.int .i64 i)) none none=some (.view n p sz i (k-i)):=by
 simp only[hJ,ig];rw[if_pos ⟨by omega,by omega,by omega⟩,if_neg (by omega)];simp
theorem x2{m:Nat}{p:List Nat}{sz lo l j:Nat}{fs:List I}(h:j<l):jK m p sz lo l sz (j:Int) (some fs)=some (.ptr m (p++[lo+j])):=by
 simp only[jK,true_and];rw[if_pos ⟨by omega,by omega⟩];simp
theorem ta{sz k:Nat}{xs:List α}(hs:Enc.sz α=sz):kA sz 0 k (some (xs.map enc))=some (enc (xs.take k)):=by
 have h:((xs.map (enc (α:=α))).drop 0).take k=(xs.take k).map enc:=by rw[List.drop_zero,List.map_take]
 simp only[kA,h];rw[if_pos (iW _),gi,hs]
end
end
theorem ah0(A:af)(esz m:Nat)(p:List Nat)(sz lo l:Nat)(k:Int):ik A esz k (.view m p sz lo l)=jK m p sz lo l esz k (fG (ft p (A.o m))):=rfl
theorem aiu(A:af)(m:Nat)(p:List Nat)(sz lo l:Nat):j9 A (.view m p sz lo l)=some (.int .i64 l):=rfl
theorem alp(A:af)(esz:Nat)(lo hi mx:Option I)(n:Nat)(p:List Nat)(l0 k:Nat):ng A esz lo hi mx (.view n p esz l0 k)=pj n p esz l0 k esz lo hi mx (fG (ft p (A.o n))):=rfl
theorem alq(n:Nat)(p:List Nat)(sz l0 k:Nat)(lo hi mx:Option I)(fs:List I):pj n p sz l0 k sz lo hi mx (some fs)=hJ n p sz l0 k fs.length lo hi mx:=by simp[pj]
theorem dn :
  (∀ A esz m p sz lo l k,ik A esz k (.view m p sz lo l)=jK m p sz lo l esz k (fG (ft p (A.o m))))∧(∀ A m p sz lo l,j9 A (.view m p sz lo l)=some (.int .i64 l)) ∧
  (∀ A esz lo hi mx n p l0 k,ng A esz lo hi mx (.view n p esz l0 k)=pj n p esz l0 k esz lo hi mx (fG (ft p (A.o n))))∧(∀ n p sz l0 k lo hi mx fs,pj n p sz l0 k sz lo hi mx (some fs)=hJ n p sz l0 k fs.length lo hi mx) ∧
  (∀ esz z x rest A,bQ A none (.jH esz z x) rest=ny A esz z (aA rest) (ah A x))∧(∀ rest A d esz,bQ A d (.bs0 esz) rest=aA rest (A.aP d (.c0 esz))) :=
 ⟨ah0,aiu,alp,alq,ajg,fun _ _ _ _=>rfl⟩
theorem fV(rs:List bg)(post:cV)(A:af):nY rs post .ret A=kR rs post A:=rfl
theorem lx(rs:List bg)(post:cV)(A:af):nY rs post .normal A=kR rs post A:=rfl
theorem aF.gN{ts:List (Nat×I)}{os0:List (Nat×aj)}(ns:List Nat)(d:Nat){x y:I}(ae:bO ts d=x)(h:a6 true (au ts (fR ns os0)) x=some y)(ho:bE (fun n => !ns.contains n) (cJ ns os0)) :
  aF (au ts os0) (au ((d,y)::fF ns ts) (cJ ns os0)):=by
 rintro c a w ⟨D,E,hs⟩;obtain ⟨D1,E1,hs1,hw⟩:=hs.DY ns ho;have hu:ep (au ts (fR ns os0)) (au ts os0):=fun n z hz=>by
  simp only[au,ma] at hz ⊢;split at hz
  ·exact hz
  ·cases hz
 have hx:x.cn=true:=by cases x <;>first | rfl | simp[a6] at h
 have hv:=hs.ef d;simp only[au] at hv;rw[ae] at hv;have h1:aJ w D E [x] [a.tmps.getD d undef]:=mu [x] _ (.cons hv .nil) (by intro z hz;simp only[zv7] at hz;subst hz;exact hx);have h2:=lY (E':=E1) hs hu hw [x] [y] _ h1 (by simp only[bV,h]);have h3:aV w D1 E1 y (a.tmps.getD d undef):=by
  simp only[aJ] at h2;obtain ⟨v',rest,cs,e,k1,k2,_⟩:=h2;simp only[List.cons.injEq] at e;obtain ⟨e1,_⟩:=e;rw[e1];exact mW k1 k2
 refine ⟨D1,E1,hs1.sz,hs1.eT,fun t =>?_,hs1.dQ,hs1.da,hs1.dm,hs1.bT,hs1.c4,hs1.dV,hs1.eZ,hs1.cN,hs1.fe,hs1.fI⟩;simp only[au,bO];split
 ·rename_i ht;subst ht;exact h3
 ·exact hs1.ef t
theorem aF.oI{ts ts':List (Nat×I)}{os0 os':List (Nat×aj)}(ns:List Nat)(d:Nat){x y:I}(ae:bO ts d=x)(h:a6 true (au ts (fR ns os0)) x=some y)(ho:bE (fun n => !ns.contains n) (cJ ns os0))
  (h1:aY ((d,y)::fF ns ts) ts') (h2:b7 (cJ ns os0) os') (h3:bY (av os') ts') (h4:bE (av os') os'):aF (au ts os0) (au ts' os') :=
 (aF.gN ns d ae h ho).trans (aF.cq h1 h2 h3 h4)
theorem J.oj{c:cO}{Q:Exit→af→Prop}{A:af}{x:aR}(T:af)(h1:J c x (aG (fun B=>aF B T) fun _ _=>False) A)(h2:∀ B,aF B T→Q .normal B):J c x Q A :=
 h1.mono fun e B hq=>by
  cases e <;>simp only[aG] at hq <;>first
   |exact h2 B hq
   |exact hq.elim
theorem yY{w:World}{D:aT}{E:aW}{p:List Nat}{c x y:I}{cs:List Value}(hr:ai w D E c cs)(h:c.at p=some x)(hxy:∀ bC,ai w D E x bC→ai w D E y bC)(hs:y.aS=x.aS):ai w D E (c.dM p y) cs∧(c.dM p y).aS=c.aS:=by
 obtain ⟨off,c1,c2,c3,h1,rfl,h2,h3⟩:=yX p c x cs hr h;obtain ⟨off',k1,k2,k3,k4⟩:=uw p c x y _ c2 hr h (hxy c2 h3) hs;rw[h1,t7] at k1;subst k1;refine ⟨?_,k4⟩;have e:(c1++c2++c3).take off++c2++(c1++c2++c3).drop (off+c2.length)=c1++c2++c3:=by
  rw[zz5 c1 c2 c3,←h2,List.take_left,List.drop_length_add_append,List.drop_left,zz5]
 rw[←e];exact k3
theorem aF.Pp{A:af}{m n T sz z:Nat}{p:List Nat}{b:I}(hm:A.o m=some (.box b))(hp:b.at p=some (.nils z))(hn:A.o n=none)(hlt:n<1000000):aF A ((A.aO n (.bR T sz [])).aO m (.box (b.dM p (.own n 0)))):=by
 rintro c a w ⟨D,E,h⟩;have aw:E n=none:=by have:=h.bT n;rw[hn] at this;exact this
 have hmn:m≠n:=fun e=>by rw[e,hn] at hm;cases hm
 have hl:dS w D E w D (fun m=>if m=n then some (.rw none 0) else E m):=by
  have ev:∀ {m:Nat} {e:bS},E m=some e→(if m=n then some (.rw none 0) else E m)=some e:=fun {m e} he=>by
   have:m≠n:=fun e=>by rw[e,aw] at he;cases he
   rw[if_neg this];exact he
  refine ⟨fun _ _ h=>h,fun _ _ _ _ h=>h,fun m b aS he=>ev he,fun m aE l he =>?_,fun m b he=>ev he,fun m b he=>ev he,fun _ _ _ _ h=>h⟩
  ·have:m≠n:=fun e=>by rw[e,aw] at he;cases he
   exact ⟨aE,l,by simp only[if_neg this];exact he,zz8 _,fun _=>rfl⟩
 refine ⟨D,fun m=>if m=n then some (.rw none 0) else E m,h.sz,h.eT,fun t=>aV.bN hl (h.ef t),h.dQ,h.da,h.dm,fun k =>?_,fun m m' e e' b h1 h2 h3 h4 =>?_,fun m e hm =>?_,h.eZ,h.cN,h.fe,h.fI⟩
 ·simp only[af.aO];by_cases hk:k=m
  ·subst hk;have ho:=h.bT k;rw[hm] at ho;obtain ⟨b',cs,T',h1,h2,h3,h4,h5⟩:=ho;obtain ⟨q1,q2⟩:=yY (y:=.own n 0) (ai.bN hl _ _ h4) hp (fun bC ae=>by
    simp only[ai] at ae;subst ae;simp only[ai,if_true];exact ⟨none,0,rfl,zz8 _,⟨_,_,_,rfl⟩,fun _=>trivial⟩) rfl
   simp only[if_true,di];exact ⟨b',cs,T',by rw[q2];simp only[if_neg hmn];exact h1,h2,h3,q1,h5⟩
  ·simp only[if_neg hk];by_cases hkn:k=n
   ·subst hkn;simp only[if_true,di];exact ⟨none,by simp,by simp,trivial⟩
   ·simp only[if_neg hkn];exact (h.bT k).bN hl (by simp only[if_neg hkn]) fun _ _ _ _=>⟨rfl,fun _ ho=>ho⟩
 ·by_cases hm:m=n <;>by_cases hm':m'=n
  ·rw[hm,hm']
  ·simp only[if_pos hm,t7] at h1;subst h1;simp[bS.aE] at h3
  ·simp only[if_pos hm',t7] at h2;subst h2;simp[bS.aE] at h4
  ·simp only[if_neg hm] at h1;simp only[if_neg hm'] at h2;exact h.c4 m m' e e' b h1 h2 h3 h4
 ·have hmn:m≠n:=fun e=>by rw[e,h.kB (.inr hlt)] at hm;cases hm
  simp only[if_neg hmn];exact h.dV m e hm
theorem aF.Pq{ts:List (Nat×I)}{os:List (Nat×aj)}(m n T sz z:Nat)(p:List Nat)(b:I)(hm:ak os m=some (.box b))(hp:b.at p=some (.nils z))(hn:ak os n=none){B:af}(h:aF (au ts ((m,.box (b.dM p (.own n 0)))::(n,.bR T sz [])::os)) B)(hlt:n<1000000:=by decide):aF (au ts os) B :=
 ((aF.Pp (A:=au ts os) (T:=T) (sz:=sz) hm hp hn hlt).trans (by rw[mb,mb];exact aF.refl _)).trans h
end Go.Abs
