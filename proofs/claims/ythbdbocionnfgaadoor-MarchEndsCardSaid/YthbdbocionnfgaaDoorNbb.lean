/-
  A part of the proof that the law MarchEnds returns true for every input; three tables of Go's library start as the text lays them (the card ties them); conditions: none beyond the statement's own. (part 2 of 7)
-/
import Derived.Maps.RangeRun
import Derived.Laws.MakeOwn
import Derived.Orders
import Derived.OrdersIn
import Derived.Test.YthbdbocionnfgaaDoorNba
set_option linter.unusedSimpArgs false
set_option linter.unusedVariables false
set_option maxHeartbeats 16000000
set_option maxRecDepth 100000
namespace Go.Abs
open Go Go.RowKit
theorem CZ{w:World}{D:aX}{E:bj} : ∀ (l:List cH) (xs ys:List I) (cs ds:List Value),l.all yp=true→jb l xs ys=some true→aU w D E xs cs→aU w D E ys ds→xs=ys∧cs=ds∧∀ v∈cs,∃ k n,v=.int k n
 | [],xs,ys,cs,ds,_,h,hx,hy=>by
  simp only[jb] at h;split at h
  ·simp only[aU] at hx hy;subst hx hy;exact ⟨rfl,rfl,fun v hv=>by simp at hv⟩
  ·cases h
 |t::ts,xs,ys,cs,ds,ha,h,hx,hy=>by
  simp only[List.all_cons,zz1] at ha;simp only[jb] at h;split at h
  case h_2=>cases h
  rename_i f fs g gs;unfold kb at h;split at h
  case h_2=>cases h
  rename_i a b U ab;simp only[u8,zz1] at h;obtain ⟨rfl,rfl⟩:=h;simp only[aU] at hx hy;obtain ⟨c1,c2,rfl,p1,p2⟩:=hx;obtain ⟨d1,d2,rfl,q1,q2⟩:=hy;obtain ⟨rfl,rfl,k3⟩:=CZ ts fs gs c2 d2 ha.2 ab p2 q2;cases t with
  |i k =>
   simp only[cm] at U;split at U
   case h_2=>cases U
   rename_i k1 a k2 b;split at U
   case isFalse=>cases U
   rename_i hk;simp only[u8,beq_iff_eq] at U;subst U;obtain ⟨rfl,rfl⟩:=hk;simp only[ao] at p1 q1;obtain ⟨rfl,_⟩:=p1;obtain ⟨rfl,_⟩:=q1;refine ⟨rfl,rfl,fun v hv =>?_⟩;rcases zy8.1 hv with hv | hv
   ·simp at hv;exact ⟨_,_,hv⟩
   ·exact k3 v hv
  |b | s | bm _ | sd _ _=>simp[yp] at ha
theorem HP:∀ (cs:List Value) (n:Nat),(∀ v∈cs,∃ k m,v=.int k m)→((cs.zip cs).all fun (x,y)=>Instr.sameBits n x y)=true
 | [],_,_=>rfl
 |v::cs,n,h=>by
  obtain ⟨k,m,rfl⟩:=h v (by simp);simp only[List.zip_cons_cons,List.all_cons,zz1];exact ⟨by cases n <;>simp[Instr.sameBits],HP cs n fun v hv=>h v (by simp[hv])⟩
theorem YO{P:Program}{t:TypeId}{ty:cH}{w:World}{D:aX}{E:bj}{x y:I}{u v:Value}(hk:kX P t=some ty)(h:cm ty x y=some true)(hx:bl w D E x u)(hy:bl w D E y v):x=y∧u=v∧Instr.sameBits 10000 u v=true:=by
 unfold kX at hk;split at hk
 ·rename_i k hu;simp only[u8] at hk;subst hk;simp only[cm] at h;split at h
  case h_2=>cases h
  split at h
  case isFalse=>cases h
  rename_i hk;simp only[u8,beq_iff_eq] at h;subst h;obtain ⟨rfl,rfl⟩:=hk;rw[(fh hx).1,(fh hy).1];exact ⟨rfl,rfl,by simp[Instr.sameBits]⟩
 ·rename_i fs hu;split at hk
  case h_2=>cases hk
  rename_i l hl;split at hk
  case isFalse=>cases hk
  rename_i hc;simp only[u8] at hk;subst hk;simp only[cm] at h;split at h
  case h_2=>cases h
  rename_i xs ys;obtain ⟨cs,rfl,hc1⟩:=j5 hx;obtain ⟨ds,rfl,hd1⟩:=j5 hy;obtain ⟨rfl,rfl,af⟩:=CZ l xs ys cs ds hc.1 h hc1 hd1;refine ⟨rfl,rfl,?_⟩;simp only[Instr.sameBits,beq_self_eq_true,Bool.true_and];exact HP cs _ af
 ·cases hk
section
variable {P:Program} {w:World} {D:aX} {E:bj}
theorem xw{t:TypeId}{ty:cH}{em:Bool}{x y:I}{v:Value}{r:Bool}(hk:kX P t=some ty)(hx:bl w D E x v)(h:cm ty x y=some r)(n:Nat):(Instr.checkKey em (n+2) t v).run P w=.ok () w:=by
 unfold kX at hk;split at hk
 ·rename_i k hu;simp only[u8] at hk;subst hk;simp only[cm] at h;split at h
  case h_2=>cases h
  rename_i k1 a k2 b;split at h
  case isFalse=>cases h
  rename_i hq;rw[(fh hx).1,hq.1];exact MapKept.run_checkKey hu (by simp[MapKept.IsKey]) em (n+1)
 ·rename_i fs hu;split at hk
  case h_2=>cases hk
  rename_i l hl;split at hk
  case isFalse=>cases hk
  rename_i hc;simp only[u8] at hk;subst hk;simp only[cm] at h;split at h
  case h_2=>cases h
  rename_i xs ys;obtain ⟨cs,rfl,hc1⟩:=j5 hx;obtain ⟨d,ah⟩:∃ d,d=11:=⟨_,rfl⟩
  rw[show (12:Nat)=d+1 from by omega] at hl;simp only[iu,hu] at hl;split at hl
  case isFalse=>cases hl
  rename_i hc2;simp only[zz0,cH.bm.injEq] at hl;obtain ⟨l',hl,rfl⟩:=hl;rw[show n+2=(n+1)+1 from rfl,Instr.checkKey];simp only[Sem.run_bind,run_underlying hu,Result.andThen_ok];rw[←Array.forIn_toList];have key:∀ (aG:List Field) (l:List cH) (xs ys:List I) (r:Bool) (c1 c2:List Value),
    (aG.mapM fun f=>match iu P d f.type with
     |some ty=>if ty.size=P.cellsOf f.type then some ty else none
     | none => none) = some l → (∀ f ∈ aG, f.name ≠ "_" ∧ sU (P.underlying f.type) = true) → rJ P c1.length aG = true → aU w D E xs c2 → jb l xs ys = some r → c1 ++ c2 = cs →
    Sem.run P (forIn aG PUnit.unit (fun (f : Field) (_ : PUnit) => (if f.name ≠ "_" then (do
     let x ←part f.type cs.toArray f.offset
     Instr.checkKey em (n+1) f.type x
     pure (ForInStep.yield PUnit.unit)) else pure (ForInStep.yield PUnit.unit):Sem (ForInStep PUnit)))) w=.ok PUnit.unit w:=by
   intro aG
   induction aG with
   |nil=>intros;simp
   |cons f aG ih =>
    intro l xs ys r c1 c2 hm hn ho hx h htot;simp only[List.mapM_cons,Option.bind_eq_bind,Option.pure_def,zv5,u8] at hm;obtain ⟨ty,hty,tys,htys,rfl⟩:=hm;split at hty
    case h_2=>cases hty
    rename_i ty' hd';split at hty
    case isFalse=>cases hty
    rename_i hsz;simp only[u8] at hty;subst hty;simp only[jb] at h;split at h
    case h_2=>cases h
    rename_i x xs y ys;unfold kb at h;split at h
    case h_2=>cases h
    rename_i ra rb U ab;simp only[aU] at hx;obtain ⟨e1,e2,rfl,k1,k2⟩:=hx;obtain ⟨s,q1,q2,q3⟩:=xF hd' hsz U;obtain ⟨u,p1,p2⟩:=ql (P:=P) (w:=w) (c1:=c1) (c3:=e2) q1 q2 k1;simp only[rJ,zz1,beq_iff_eq] at ho;have hsx:=qZ ty' x y ra U;have hle:e1.length=P.cellsOf f.type:=by rw[ao.length _ _ k1,hsx.1,hsz]
    have ih':=ih tys xs ys rb (c1++e1) e2 htys (fun g hg=>hn g (by simp[hg])) (by simp only[zz6,hle];exact ho.2) k2 ab (by rw[←htot];simp);rw[zy4,htot,←ho.1] at p1;obtain ⟨hnm,hint⟩:=hn f (by simp);have hck:(Instr.checkKey em (n+1) f.type u).run P w=.ok () w:=by
     cases hu:P.underlying f.type with
     |none=>simp[hu,sU] at hint
     |some dd =>
      cases dd <;>simp[hu,sU] at hint
      rename_i q;have hti:ty'=.i q:=by
       rw[show d=10+1 from by omega] at hd';unfold iu at hd';simp only[hu,u8] at hd';exact hd'.symm
      subst hti;simp only[cm] at U;split at U
      case h_2=>cases U
      split at U
      case isFalse=>cases U
      rename_i hq;rw[(fh p2).1,hq.1];exact MapKept.run_checkKey hu (by simp[MapKept.IsKey]) em n
    simp only[List.forIn_cons,Sem.run_bind,hnm,ne_eq,not_false_eq_true,if_true,p1,Result.andThen_ok,hck,Sem.run_pure];exact ih'
  rw[key fs.toList l' xs ys r [] cs hl (fun f hf=>⟨by simpa using zx6.1 hc2.2.1 f hf,Array.all_eq_true_iff_forall_mem.1 hc.2 f (Array.mem_toList_iff.1 hf)⟩) hc2.2.2 hc1 h rfl];simp
 ·cases hk
theorem zP{x:I}{xs:List I}{vs:List Value}(h:aO w D E (x::xs) vs):∃ v rest,vs=v::rest∧bl w D E x v∧aO w D E xs rest:=by
 simp only[aO] at h;obtain ⟨v,rest,cs,rfl,U,ab,af⟩:=h;exact ⟨v,rest,rfl,ku U ab,af⟩
def qC(r:Option Nat)(es:List MapEntry)(i:Nat)(q:Option (Nat×Value)):Prop :=
 (r=none∧q=none)∨∃ j e,r=some (i+j)∧es[j]?=some e∧q=some (i+j,e.val)
theorem qC.step{r:Option Nat}{es:List MapEntry}{e:MapEntry}{i:Nat}{q:Option (Nat×Value)}(h:qC r es (i+1) q):qC r (e::es) i q:=by
 rcases h with h | ⟨j,e',U,ab,af⟩
 ·exact .inl h
 ·exact .inr ⟨j+1,e',by rw[U];congr 1;omega,by simpa using ab,by rw[af];congr 2;omega⟩
theorem Dl{q:IntKind}{k:I}{v:Value}(hv:bl w D E k v):∀ (ks:List I) (es:List MapEntry) (i:Nat) (r:Option Nat),aO w D E ks (es.map (·.key))→eK (.i q) k ks i=some r →
  ∃ x,Instr.findNow (.int q) v es i=some x∧qC r es i x
 | [],es,i,r,hk,h=>by
  simp only[eK,u8] at h;simp only[aO,List.map_eq_nil_iff] at hk;subst h hk;exact ⟨none,rfl,.inl ⟨rfl,rfl⟩⟩
 |x::ks,es,i,r,hk,h=>by
  obtain ⟨u,rest,e1,hu,hr⟩:=zP hk;cases es with
  |nil=>cases e1
  |cons e es =>
   simp only[zz7,zv6] at e1;obtain ⟨rfl,rfl⟩:=e1;simp only[eK] at h;have same:∀ b,cm (.i q) k x=some b→Instr.sameNow (.int q) v e.key=some b:=fun b hb=>by
    simp only[cm] at hb;split at hb
    case h_2=>cases hb
    split at hb
    case isFalse=>cases hb
    rename_i hq;simp only[u8] at hb;subst hb;rw[(fh hv).1,(fh hu).1];simp[Instr.sameNow,hq.1,hq.2]
   split at h
   ·rename_i hb;simp only[u8] at h;subst h;exact ⟨some (i,e.val),by simp[Instr.findNow,same _ hb],.inr ⟨0,e,rfl,rfl,rfl⟩⟩
   ·rename_i hb;obtain ⟨y,U,ab⟩:=Dl hv ks es (i+1) r hr h;exact ⟨y,by simp[Instr.findNow,same _ hb,U],ab.step⟩
   ·cases h
theorem Dj{t:TypeId}{ty:cH}(hty:iu P 12 t=some ty){k:I}{v:Value}(hv:bl w D E k v):∀ (ks:List I) (es:List MapEntry) (i:Nat) (r:Option Nat),aO w D E ks (es.map (·.key))→eK ty k ks i=some r →
  ∃ x,(Instr.findAsking t v es i).run P w=.ok x w∧qC r es i x
 | [],es,i,r,hk,h=>by
  simp only[eK,u8] at h;simp only[aO,List.map_eq_nil_iff] at hk;subst h hk;exact ⟨none,rfl,.inl ⟨rfl,rfl⟩⟩
 |x::ks,es,i,r,hk,h=>by
  obtain ⟨u,rest,e1,hu,hr⟩:=zP hk;cases es with
  |nil=>cases e1
  |cons e es =>
   simp only[zz7,zv6] at e1;obtain ⟨rfl,rfl⟩:=e1;simp only[eK] at h;have same:∀ b,cm ty k x=some b→(Op.equal t v e.key).run P w=.ok b w:=fun b hb=>uX 12 t ty hty k x v e.key b hv hu hb _ (by simp[Op.maxDepth]);split at h
   ·rename_i hb;simp only[u8] at h;subst h;exact ⟨some (i,e.val),by simp[Instr.findAsking,same _ hb],.inr ⟨0,e,rfl,rfl,rfl⟩⟩
   ·rename_i hb;obtain ⟨y,U,ab⟩:=Dj hty hv ks es (i+1) r hr h;exact ⟨y,by simp[Instr.findAsking,same _ hb,U],ab.step⟩
   ·cases h
theorem rj{t:TypeId}{ty:cH}(hk:kX P t=some ty){k:I}{v:Value}(hv:bl w D E k v){ks:List I}{es:List MapEntry}{r:Option Nat}(hks:aO w D E ks (es.map (·.key)))(h:eK ty k ks 0=some r) :
  ∃ x,(Instr.findKey t v es).run P w=.ok x w∧qC r es 0 x:=by
 have hk0:=hk;unfold kX at hk;split at hk
 ·rename_i q hu;simp only[u8] at hk;subst hk;obtain ⟨x,U,ab⟩:=Dl hv ks es 0 r hks h;exact ⟨x,by simp[Instr.findKey,run_underlying hu,U],ab⟩
 ·rename_i fs hu;split at hk
  case h_2=>cases hk
  rename_i l hl;split at hk
  case isFalse=>cases hk
  simp only[u8] at hk;subst hk;cases es with
  |nil =>
   cases ks with
   |nil =>
    simp only[eK,u8] at h;subst h;exact ⟨none,by simp[Instr.findKey,run_underlying hu,Instr.findNow],.inl ⟨rfl,rfl⟩⟩
   |cons x xs=>simp[aO] at hks
  |cons e es =>
   obtain ⟨x,U,ab⟩:=Dj hl hv ks (e::es) 0 r hks h;exact ⟨x,by simp[Instr.findKey,run_underlying hu,Instr.findNow,Instr.sameNow,U],ab⟩
 ·cases hk
theorem nR:∀ {xs:List I} {vs:List Value} {j:Nat} {v:Value},aO w D E xs vs→vs[j]?=some v→∃ x,xs[j]?=some x∧bl w D E x v
 | [],vs,j,v,h,hj=>by simp only[aO] at h;subst h;simp at hj
 |x::xs,vs,j,v,h,hj=>by
  obtain ⟨u,rest,rfl,U,ab⟩:=zP h;cases j with
  |zero=>simp only[List.getElem?_cons_zero,u8] at hj;subst hj;exact ⟨x,rfl,U⟩
  |succ j=>exact nR (xs:=xs) ab (by simpa using hj)
end
section
variable {c:c4} {A:ai} {o:Oper} {x:I}
theorem Zf{a:Act}{w:World}{D:aX}{E:bj}(hs:bg c A a w D E){m:I}{v:Value}{ks vs:List I}(hv:bl w D E m v)(hm:gS A m=some (ks,vs)) :
  (v=.map none∧ks=[]∧vs=[])∨∃ b es clock,v=.map (some b)∧w.heap[b]?=some (.map es clock)∧aO w D E ks (es.toList.map (·.key))∧aO w D E vs (es.toList.map (·.val)):=by
 unfold gS at hm;split at hm
 ·simp only[u8,Prod.mk.injEq] at hm;obtain ⟨rfl,rfl⟩:=hm;obtain ⟨cs,q1,q2⟩:=hv;simp only[ao] at q2;obtain ⟨b,es,ck,q3,q4,q5,q6⟩:=q2;exact .inr ⟨b,es,ck,by simpa[bI,I.isAgg,q3] using q1.symm,q4.1,q5,q6⟩
 ·rename_i n;split at hm
  case h_2=>cases hm
  rename_i ks' vs' hn;simp only[u8,Prod.mk.injEq] at hm;obtain ⟨rfl,rfl⟩:=hm;obtain ⟨cs,q1,q2⟩:=hv;simp only[ao] at q2;obtain ⟨b,q3,q4⟩:=q2;obtain ⟨b',es,ck,k1,k2,k3,k4,k5,k6,k7⟩:=hs.map hn;rw[k1] at q3;cases q3;exact .inr ⟨_,es,ck,by simpa[bI,I.isAgg,q4] using q1.symm,k3,k5,k6⟩
 ·simp only[u8,Prod.mk.injEq] at hm;obtain ⟨rfl,rfl⟩:=hm;obtain ⟨cs,q1,q2⟩:=hv;simp only[ao] at q2;exact .inl ⟨by simpa[bI,I.isAgg,q2.1] using q1.symm,rfl,rfl⟩
 ·cases hm
theorem qy{w:World}{D:aX}{E:bj}{y:I}{v:Value}(hv:y.bV=true)(h:bl w D E y v):∃ cs,bI y v cs∧ao w D E y cs:=by
 cases y <;>simp[I.bV] at hv <;>exact h
theorem rR{w:World}{D:aX}{E:bj} : ∀ {xs:List I} {vs:List Value} {j:Nat} {x:I},aO w D E xs vs→xs[j]?=some x→x.bV=true
 | [],_,j,x,_,h=>by simp at h
 |y::ys,vs,j,x,hr,h=>by
  simp only[aO] at hr;obtain ⟨v,rest,cs,rfl,U,ab,af⟩:=hr;cases j with
  |zero =>
   simp only[List.getElem?_cons_zero,u8] at h;subst h;cases y <;>simp only[ao] at ab <;>rfl
  |succ j=>exact rR (xs:=ys) af (by simpa using h)
theorem acM{x:I}{cs r:List Value}(h:n8 x cs=some r):x.bV=true:=by
 cases x <;>first | rfl | (cases cs <;>simp[n8] at h)
theorem acN{P:Program}{t:TypeId}{z:I}(hz:gY P t=some z)(hp:wK P t z=true):∃ zv,(∀ w,(zeroValue t).run P w=.ok zv w)∧z.bV=true∧∀ w D E,bl w D E z zv:=by
 have hz0:=hz;obtain ⟨i,zv,hi,hzz,hzr⟩:=mT hz;have hv:z.bV=true:=by
  unfold gY at hz;split at hz
  ·split at hz
   ·rename_i hk;simp only[u8] at hz;subst hz;exact acM hk
   ·cases hz
  ·cases hz
 refine ⟨zv,fun w=>by simp[zeroValue,typeInfo,hi,hzz],hv,fun w D E =>?_⟩;have U:=hzr w D E;simp only[wK,hi,Option.bind_some,hzz] at hp;refine ku (cs:=zv.cells.toList) ?_ U;cases zv <;>simp only[bI] at hp ⊢ <;>first
  |(rw[if_pos hp];simp[Value.cells])
  |(have hp':z.isAgg=false:=by simpa using hp
    rw[hp'];simp[Value.cells])
theorem Yf{t kt et:TypeId}{m k:Operand}{m' k':aV}{ok:Bool}{ty:cH}{z v:I}{ks vs:List I}{there:Bool}(ho:o.op=.lookup t m k ok)(hu:c.P.underlying t=some (.map kt et))(hk:kX c.P kt=some ty)(hz:gY c.P et=some z)(hzp:wK c.P et z=true)
  (hm:bF c.P 0 m=some m') (hk':bF c.P 0 k=some k') (hmm:gS A (al A m')=some (ks,vs)) (hl:fL ty z (al A k') ks vs=some (v,there)):dP c A o (if ok then .tuple [v,.bool there] else v) :=
 .same fun a w D E hs=>by
  have U:=b5 hs hm;have ab:=b5 hs hk';obtain ⟨zv,hzrun,hzv,hzrv⟩:=acN hz hzp;unfold fL at hl;split at hl
  case isFalse=>cases hl
  rename_i hkk;obtain ⟨rk,hrk⟩:=zx4.1 hkk;have hchk:=fun em=>xw (P:=c.P) (w:=w) (em:=em) hk ab hrk 9998;have br:∀ u there,v.bV=true→bl w D E v u→bl w D E (if ok then .tuple [v,.bool there] else v) (if ok then Value.tuple #[u,.bool there] else u):=fun u there hval hu'=>by
   cases ok
   ·exact hu'
   ·obtain ⟨cs,q1,q2⟩:=qy hval hu';simp only[if_true,bl,aO];exact ⟨[u,.bool there],rfl,u,[.bool there],cs,rfl,q1,q2,.bool there,[],[.bool there],rfl,by simp[bI,I.isAgg],by simp[ao],rfl⟩
  have main:∀ (es:Array MapEntry),aO w D E ks (es.toList.map (·.key))→aO w D E vs (es.toList.map (·.val))→∃ u,v.bV=true∧bl w D E v u ∧
    ((∃ i,(Instr.findKey kt (a.eval k) es.toList).run c.P w=.ok (some (i,u)) w∧there=true)∨((Instr.findKey kt (a.eval k) es.toList).run c.P w=.ok none w∧u=zv∧there=false)):=fun es hks hvs=>by
   split at hl
   ·rename_i i hfi;simp only[zz0,Prod.mk.injEq] at hl;obtain ⟨v',hv',rfl,rfl⟩:=hl;obtain ⟨q,q1,q2⟩:=rj hk ab hks hfi;rcases q2 with ⟨e,_⟩ | ⟨j,e,e1,e2,rfl⟩
    ·cases e
    ·simp only[zz4,u8] at e1;subst e1;obtain ⟨x,k1,k2⟩:=nR (j:=i) (v:=e.val) hvs (by simp only[zx7,e2,zy6]);rw[hv',u8] at k1;subst k1;exact ⟨e.val,rR hvs hv',k2,.inl ⟨_,q1,rfl⟩⟩
   ·rename_i hfi;simp only[u8,Prod.mk.injEq] at hl;obtain ⟨rfl,rfl⟩:=hl;obtain ⟨q,q1,q2⟩:=rj hk ab hks hfi;rcases q2 with ⟨_,rfl⟩ | ⟨j,e,e1,_⟩
    ·exact ⟨zv,hzv,hzrv w D E,.inr ⟨q1,rfl,rfl⟩⟩
    ·cases e1
   ·cases hl
  rcases Zf hs U hmm with ⟨e1,rfl,rfl⟩ | ⟨b,es,ck,e1,e2,e3,e4⟩
  ·obtain ⟨u,hval,hu',hrun⟩:=main #[] (by simp[aO]) (by simp[aO]);refine ⟨_,?_,br u there hval hu'⟩;rcases hrun with ⟨i,q1,rfl⟩ | ⟨q1,rfl,rfl⟩ <;>
    simp only[execOp,ho,Instr.lookup,e1,Sem.run_bind,run_underlying hu,Result.andThen_ok,Sem.run_pure,hchk,q1,hzrun]
  ·obtain ⟨u,hval,hu',hrun⟩:=main es e3 e4;refine ⟨_,?_,br u there hval hu'⟩;rcases hrun with ⟨i,q1,rfl⟩ | ⟨q1,rfl,rfl⟩ <;>
    simp only[execOp,ho,Instr.lookup,e1,Sem.run_bind,run_underlying hu,Result.andThen_ok,MapKept.run_getObj_map e2,Sem.run_pure,hchk,q1,hzrun]
theorem Ej{y:Operand}{y':aV}(ho:o.op=.nilCheck y)(hy:bF c.P 0 y=some y')(h:(∃ n p,al A y'=.ptr n p)∨∃ z,al A y'=.ref z):dP c A o (al A y') :=
 .same fun a w D E hs=>by
  have U:=b5 hs hy;rcases h with ⟨n,p,h⟩ | ⟨z,h⟩
  ·rw[h] at U ⊢;obtain ⟨b,bh,off,_,_,e⟩:=mG U;exact ⟨a.eval y,by simp only[execOp,ho,e,Sem.run_pure],U⟩
  ·rw[h] at U ⊢;obtain ⟨b,off,cs,e,_⟩:=rQ U;exact ⟨a.eval y,by simp only[execOp,ho,e,Sem.run_pure],U⟩
theorem EA{w:World}{D:aX}{E:bj}{x:I}{v:Value}{b:Bool}(h:jy x=some b)(hv:bl w D E x v):∃ ad,v=.pointer ad∧ad.isNone=b:=by
 cases x <;>simp only[jy,u8] at h <;>try (cases h;done)
 case nilp =>
  subst h;obtain ⟨cs,q1,q2⟩:=hv;simp only[ao] at q2;exact ⟨none,by simpa[bI,I.isAgg,q2] using q1.symm,rfl⟩
 case ptr n p =>
  subst h;obtain ⟨b,bh,off,_,_,e⟩:=mG hv;exact ⟨_,e,rfl⟩
 case ref z =>
  subst h;obtain ⟨b,off,cs,e,_⟩:=rQ hv;exact ⟨_,e,rfl⟩
theorem Yi{x y:Operand}{x' y':aV}{tys:Array TypeId}{v:I}(ho:o.op=.call { callee:=.builtin .max,args := #[x,y],argTypes:=tys })(hx:bF c.P 0 x=some x')(hy:bF c.P 0 y=some y')(h:tg (al A x') (al A y')=some v):dP c A o v :=
 .same fun a w D E hs=>by
  have U:=b5 hs hx;have ab:=b5 hs hy;unfold tg at h;split at h
  case h_2=>cases h
  rename_i k n k2 m e1 e2;split at h
  case isFalse=>cases h
  rename_i hk;subst hk;simp only[u8] at h;subst h;rw[e1] at U;rw[e2] at ab;obtain ⟨v1,lr⟩:=fh U;obtain ⟨v2,jH⟩:=fh ab;refine ⟨.int k (if m>n then m else n),by simp[execOp,ho,resolve,invoke,builtin,Builtin.max_,Builtin.max2,v1,v2],lb ?_⟩;split
  ·exact jH
  ·exact lr
theorem Ym{neg:Bool}{t yt e:TypeId}{y z:Operand}{y' z':aV}{b1 b2:Bool}(ho:o.op=.binOp (if neg then .neq else .eql) t y z yt)(hu:c.P.underlying t=some (.pointer e))(hy:bF c.P 0 y=some y')(hz:bF c.P 0 z=some z')
  (U:jy (al A y')=some b1) (ab:jy (al A z')=some b2) (h:b1=true∨b2=true):dP c A o (.bool (if neg then !(b1&&b2) else (b1&&b2))) :=
 .same fun a w D E hs=>by
  obtain ⟨p,e1,k1⟩:=EA U (b5 hs hy);obtain ⟨q,e2,k2⟩:=EA ab (b5 hs hz);have he:∀ d,(Op.equalIn (d+1) t (.pointer p) (.pointer q)).run c.P w=.ok (b1&&b2) w:=fun d=>by
   subst k1 k2;cases p <;>cases q <;>simp at h <;>simp[Op.equalIn,run_underlying hu]
  refine ⟨.bool (if neg then !(b1&&b2) else (b1&&b2)),?_,pQ _⟩;cases neg <;>simp only[execOp,ho,e1,e2,if_true,zz5,if_false,Sem.run_bind,eqGuard] <;>simp[binOp,Op.equal,Op.maxDepth,he]
end
section
variable {c:c4} {A:ai} {o:Oper} {x:I}
theorem OL{t:TypeId}{d:Nat}(ho:o.op=.makeMap t none)(ah:o.dst=some d)(hn:d<c.n)(hf:A.o d=none):iW c A o ((A.aZ d (.bE [] [])).put d (.mref d)):=by
 intro a w D E hs;have U:=hs.Zz (.inl hn) hf;have ab:=U.put (x:=.mref d) (v:=.map (some w.heap.size)) hn ⟨_,by simp[bI,I.isAgg];rfl,by
  simp only[ao,if_true];exact ⟨w.heap.size,rfl,rfl⟩⟩
 exact ⟨w.alloc (.map #[] 0),.inl ⟨.map (some w.heap.size),by simp[execOp,ho,Instr.makeMap],D,_,by rw[ah];exact ab⟩⟩
theorem zO{w:World}{D:aX}{E:bj} : ∀ {xs ys:List I} {us vs:List Value},aO w D E xs us→aO w D E ys vs→aO w D E (xs++ys) (us++vs)
 | [],ys,us,vs,h,k=>by simp only[aO] at h;subst h;simpa using k
 |x::xs,ys,us,vs,h,k=>by
  simp only[aO,zz3] at *;obtain ⟨v,rest,cs,rfl,U,ab,af⟩:=h;exact ⟨v,rest++vs,cs,rfl,U,ab,zO af k⟩
theorem HO{w:World}{D:aX}{E:bj} : ∀ {xs:List I} {us:List Value} {i:Nat} {y:I} {v:Value} {cs:List Value},aO w D E xs us→bI y v cs→ao w D E y cs→aO w D E (xs.set i y) (us.set i v)
 | [],us,i,y,v,cs,h,_,_=>by simp only[aO] at h;subst h;simp[aO]
 |x::xs,us,i,y,v,cs,h,k1,k2=>by
  simp only[aO] at h;obtain ⟨u,rest,ds,rfl,U,ab,af⟩:=h;cases i with
  |zero=>simp only[List.set_cons_zero,aO];exact ⟨v,rest,cs,rfl,k1,k2,af⟩
  |succ i=>simp only[List.set_cons_succ,aO];exact ⟨u,_,ds,rfl,U,ab,HO af k1 k2⟩
theorem HN{w:World}{D:aX}{E:bj}{y:I}{v:Value}{cs:List Value}(U:bI y v cs)(ab:ao w D E y cs):aO w D E [y] [v]:=by
 simp only[aO];exact ⟨v,[],cs,rfl,U,ab,rfl⟩
theorem Dk{ty:cH}{k:I} : ∀ {ks:List I} {i j:Nat},eK ty k ks i=some (some j)→∃ x,ks[j-i]?=some x∧i≤j∧cm ty k x=some true
 | [],i,j,h=>by simp[eK] at h
 |x::xs,i,j,h=>by
  simp only[eK] at h;split at h
  ·rename_i hb;simp only[u8] at h;subst h;exact ⟨x,by simp,zz9 _,hb⟩
  ·obtain ⟨y,U,ab,af⟩:=Dk h;refine ⟨y,?_,by omega,af⟩;rw[show j-i=(j-(i+1))+1 from by omega];simpa using U
  ·cases h
theorem CR{t kt et:TypeId}{m k v:Operand}{m' k' v':aV}{ty:cH}{n:Nat}{ks vs ks' vs':List I}(ho:o.op=.mapUpdate t m k v∨o.op=.insert t m k v)(hu:c.P.underlying t=some (.map kt et))(hk:kX c.P kt=some ty)
  (hm:bF c.P 0 m=some m') (hk':bF c.P 0 k=some k') (hv':bF c.P et v=some v') (hmm:al A m'=.mref n) (hn:A.o n=some (.bE ks vs)) (hl:fV ty (al A k') (al A v') ks vs=some (ks',vs')) (ah:o.dst=none) :
  iW c A o (A.aZ n (.bE ks' vs')):=by
 intro a w D E hs;have U:=b5 hs hm;have ab:=b5 hs hk';have af:=b5 hs hv';rw[hmm] at U;unfold fV at hl;split at hl
 case isFalse=>cases hl
 rename_i hc;obtain ⟨hkk,hkv,hvv⟩:=hc;obtain ⟨rk,hrk⟩:=zx4.1 hkk;have hchk:=fun em=>xw (P:=c.P) (w:=w) (em:=em) hk ab hrk 9998;obtain ⟨kcs,kp1,kp2⟩:=qy hkv ab;obtain ⟨vcs,vp1,vp2⟩:=qy hvv af;obtain ⟨b,es,ck,k1,k2,k3,k4,k5,k6,k7⟩:=hs.map hn;have hmv:a.eval m=.map (some b):=by
  obtain ⟨cs,q1,q2⟩:=U;simp only[ao] at q2;obtain ⟨b',q3,q4⟩:=q2;rw[k1] at q3;cases q3;simpa[bI,I.isAgg,q4] using q1.symm
 -- the new entries
 have step:∀ (es':Array MapEntry) (ck':Nat),(Instr.mapUpdate t (.map (some b)) (a.eval k) (a.eval v)).run c.P w=.ok () (w.putObj b (.map es' ck'))→qt es' ck'→aO w D E ks' (es'.toList.map (·.key))→aO w D E vs' (es'.toList.map (·.val)) →
   ∃ w',((∃ u,(execOp a.eval o).run c.P w=.ok (.value u) w'∧cd c (A.aZ n (.bE ks' vs')) (a.put o.dst u) w')∨((execOp a.eval o).run c.P w=.ok .skip w'∧cd c (A.aZ n (.bE ks' vs')) (a.put o.dst undef) w')):=fun es' ck' hrun hst hks hvs=>by
  refine ⟨w.putObj b (.map es' ck'),.inr ⟨?_,?_⟩⟩
  ·rcases ho with ho | ho <;>simp only[execOp,ho,hmv,Sem.run_bind,hrun,Result.andThen_ok,Sem.run_pure]
  ·rw[ah];have:=hs.zX (o':=.map es' ck') (x:=.bE ks' vs') k1 rfl rfl k3 rfl (fun q=>by simp) k2 (fun hl' hh hno=>⟨b,es',ck',k1,k2,hh,hst,aO.later hl' _ _ hks,aO.later hl' _ _ hvs,hno⟩);exact ⟨D,E,this⟩
 split at hl
 ·rename_i i hfi;simp only[u8,Prod.mk.injEq] at hl;obtain ⟨rfl,rfl⟩:=hl;obtain ⟨q,q1,q2⟩:=rj hk ab k5 hfi;rcases q2 with ⟨e,_⟩ | ⟨j,e,e1,e2,rfl⟩
  ·cases e
  simp only[zz4,u8] at e1;subst e1;obtain ⟨y,y1,_,y2⟩:=Dk hfi;simp only[Nat.sub_zero] at y1;obtain ⟨y',y3,y4⟩:=nR (j:=i) (v:=e.key) k5 (by simp only[zx7,e2,zy6]);rw[y1,u8] at y3;subst y3;obtain ⟨_,kk2,kk3⟩:=YO hk y2 ab y4;have hes:es[i]?=some e:=by rw[←zw6];exact e2
  have hlen:i<es.size:=(zx1.1 hes).1;refine step (es.modify i fun e => { e with key:=a.eval k,val:=a.eval v }) ck ?_ ?_ ?_ ?_
  ·have hsb:Instr.sameBits 10000 (((es[i]?).map (·.key)).getD (a.eval k)) (a.eval k)=true:=by
    rw[hes];simp only[zy6,Option.getD_some];rw[←kk2];rw[←kk2] at kk3;exact kk3
   simp only[Instr.mapUpdate,Sem.run_bind,run_underlying hu,Result.andThen_ok,MapKept.run_getObj_map k3,hchk,q1,zz4,Instr.keyThatStays,hsb,if_true,Sem.run_pure,MapKept.run_setObj_map _ k3];rfl
  all_goals
   have em:(es.modify i fun e => { e with key:=a.eval k,val:=a.eval v }).toList=es.toList.set i { e with key:=a.eval k,val:=a.eval v } :=by
    rw[Array.toList_modify];apply List.ext_getElem?;intro j;rw[List.getElem?_modify,List.getElem?_set];by_cases hij:i=j
    ·subst hij;have hge:es[i]'hlen=e:=(zx1.1 hes).2;simp[hlen,hge]
    ·simp[hij]
  ·refine ⟨fun x hx =>?_,?_⟩
   ·rw[em] at hx;rcases List.mem_or_eq_of_mem_set hx with hx | rfl
    ·exact k4.1 x hx
    ·exact k4.1 e (List.mem_of_getElem? e2)
   ·rw[em];have:(es.toList.set i { e with key:=a.eval k,val:=a.eval v }).map (·.born)=es.toList.map (·.born):=by
     rw[List.map_set];apply List.ext_getElem?;intro j;rw[List.getElem?_set];split
     ·rename_i hij;subst hij;simp[e2];exact hlen
     ·rfl
    rw[this];exact k4.2
  ·rw[em,List.map_set];have:(es.toList.map (·.key)).set i (a.eval k)=es.toList.map (·.key):=by
    apply List.ext_getElem?;intro j;rw[List.getElem?_set];split
    ·rename_i hij;subst hij;simp[e2,kk2];exact hlen
    ·rfl
   simp only[this];exact k5
  ·rw[em,List.map_set];exact HO k6 vp1 vp2
 ·rename_i hfi;simp only[u8,Prod.mk.injEq] at hl;obtain ⟨rfl,rfl⟩:=hl;obtain ⟨q,q1,q2⟩:=rj hk ab k5 hfi;rcases q2 with ⟨_,rfl⟩ | ⟨j,e,e1,_⟩
  case inr=>cases e1
  refine step (es.push { key:=a.eval k,val:=a.eval v,born:=ck }) (ck+1) ?_ ⟨fun x hx =>?_,?_⟩ ?_ ?_
  ·simp only[Instr.mapUpdate,Sem.run_bind,run_underlying hu,Result.andThen_ok,MapKept.run_getObj_map k3,hchk,q1,MapKept.run_setObj_map _ k3];rfl
  ·simp only[Array.toList_push,zy8,zy2] at hx;rcases hx with hx | rfl
   ·have:=k4.1 x hx;omega
   ·simp
  ·simp only[Array.toList_push,zx2,zz7,zx8];refine zv8.2 ⟨k4.2,by simp,fun x hx y hy =>?_⟩;simp only[zy2] at hy;subst hy;obtain ⟨e,he,rfl⟩:=zy7.1 hx;exact Nat.ne_of_lt (k4.1 e he)
  ·simp only[Array.toList_push,zx2,zz7,zx8];exact zO k5 (HN kp1 kp2)
  ·simp only[Array.toList_push,zx2,zz7,zx8];exact zO k6 (HN vp1 vp2)
 ·cases hl
theorem vy{α β:Type}(f:α→β):∀ (l:List α) (i:Nat),(l.eraseIdx i).map f=(l.map f).eraseIdx i
 | [],_=>rfl
 |x::xs,0=>rfl
 |x::xs,i+1=>by simp only[List.eraseIdx_cons_succ,zz7,vy f xs i]
theorem zQ{w:World}{D:aX}{E:bj} : ∀ {xs:List I} {us:List Value} (i:Nat),aO w D E xs us→aO w D E (xs.eraseIdx i) (us.eraseIdx i)
 | [],us,i,h=>by simp only[aO] at h;subst h;simp[aO]
 |x::xs,us,i,h=>by
  simp only[aO] at h;obtain ⟨v,rest,cs,rfl,U,ab,af⟩:=h;cases i with
  |zero=>exact af
  |succ i=>simp only[List.eraseIdx_cons_succ,aO];exact ⟨v,_,cs,rfl,U,ab,zQ i af⟩
theorem OK{t kt et t':TypeId}{m k:Operand}{m' k':aV}{ty:cH}{n:Nat}{ks vs ks' vs':List I}(ho:o.op=.call { callee:=.builtin .delete,args := #[m,k],argTypes := #[t,t'] })(hu:c.P.underlying t=some (.map kt et))(hk:kX c.P kt=some ty)
  (hm:bF c.P 0 m=some m') (hk':bF c.P 0 k=some k') (hmm:al A m'=.mref n) (hn:A.o n=some (.bE ks vs)) (hl:nu ty (al A k') ks vs=some (ks',vs')) (ah:o.dst=none) :
  iW c A o (A.aZ n (.bE ks' vs')):=by
 intro a w D E hs;have U:=b5 hs hm;have ab:=b5 hs hk';rw[hmm] at U;unfold nu at hl;split at hl
 case isFalse=>cases hl
 rename_i hkk;obtain ⟨rk,hrk⟩:=zx4.1 hkk;have hchk:=fun em=>xw (P:=c.P) (w:=w) (em:=em) hk ab hrk 9998;obtain ⟨b,es,ck,k1,k2,k3,k4,k5,k6,k7⟩:=hs.map hn;have hmv:a.eval m=.map (some b):=by
  obtain ⟨cs,q1,q2⟩:=U;simp only[ao] at q2;obtain ⟨b',q3,q4⟩:=q2;rw[k1] at q3;cases q3;simpa[bI,I.isAgg,q4] using q1.symm
 have step:∀ (es':Array MapEntry),(Builtin.delete_ #[t,t'] o.type #[.map (some b),a.eval k]).run c.P w=.ok (.tuple #[]) (w.putObj b (.map es' ck))→qt es' ck→aO w D E ks' (es'.toList.map (·.key))→aO w D E vs' (es'.toList.map (·.val)) →
   ∃ w',((∃ u,(execOp a.eval o).run c.P w=.ok (.value u) w'∧cd c (A.aZ n (.bE ks' vs')) (a.put o.dst u) w')∨((execOp a.eval o).run c.P w=.ok .skip w'∧cd c (A.aZ n (.bE ks' vs')) (a.put o.dst undef) w')):=fun es' hrun hst hks hvs=>by
  refine ⟨w.putObj b (.map es' ck),.inl ⟨.tuple #[],?_,?_⟩⟩
  ·simp[execOp,ho,resolve,invoke,builtin,hmv,hrun]
  ·rw[ah];have:=hs.zX (o':=.map es' ck) (x:=.bE ks' vs') k1 rfl rfl k3 rfl (fun q=>by simp) k2 (fun hl' hh hno=>⟨b,es',ck,k1,k2,hh,hst,aO.later hl' _ _ hks,aO.later hl' _ _ hvs,hno⟩);exact ⟨D,E,this⟩
 split at hl
 ·rename_i i hfi;simp only[u8,Prod.mk.injEq] at hl;obtain ⟨rfl,rfl⟩:=hl;obtain ⟨q,q1,q2⟩:=rj hk ab k5 hfi;rcases q2 with ⟨e,_⟩ | ⟨j,e,e1,e2,rfl⟩
  ·cases e
  simp only[zz4,u8] at e1;subst e1;have hes:es[i]?=some e:=by rw[←zw6];exact e2
  have hlen:i<es.size:=(zx1.1 hes).1;have em:(es.eraseIdxIfInBounds i).toList=es.toList.eraseIdx i:=by
   simp[Array.eraseIdxIfInBounds,hlen]
  refine step (es.eraseIdxIfInBounds i) ?_ ⟨fun x hx =>?_,?_⟩ ?_ ?_
  ·simp[Builtin.delete_,run_underlying hu,MapKept.run_getObj_map k3,hchk,q1,MapKept.run_setObj_map _ k3];rfl
  ·rw[em] at hx;exact k4.1 x (List.mem_of_mem_eraseIdx hx)
  ·rw[em,vy];exact k4.2.sublist (List.eraseIdx_sublist _ _)
  ·rw[em,vy];exact zQ i k5
  ·rw[em,vy];exact zQ i k6
 ·rename_i hfi;simp only[u8,Prod.mk.injEq] at hl;obtain ⟨rfl,rfl⟩:=hl;obtain ⟨q,q1,q2⟩:=rj hk ab k5 hfi;rcases q2 with ⟨_,rfl⟩ | ⟨j,e,e1,_⟩
  case inr=>cases e1
  refine step es ?_ k4 k5 k6;simp[Builtin.delete_,run_underlying hu,MapKept.run_getObj_map k3,hchk,q1,MapKept.run_setObj_map _ k3];rfl
 ·cases hl
theorem ON{t kt et:TypeId}{y:Operand}{y':aV}{ks vs:List I}{d:Nat}(ho:o.op=.range t y)(hu:c.P.underlying t=some (.map kt et))(hy:bF c.P 0 y=some y')(h:al A y'=.dp ks vs)(ah:o.dst=some d)(hn:d<c.n)(hf:A.o d=none) :
  iW c A o ((A.aZ d (.it ks vs (List.range ks.length) none)).put d (.dv d)):=by
 intro a w D E hs;have U:=b5 hs hy;rw[h] at U;obtain ⟨cs,q1,q2⟩:=U;simp only[ao] at q2;obtain ⟨b,es,ck,q3,q4,q5,q6⟩:=q2;have hv:a.eval y=.map (some b):=by simpa[bI,I.isAgg,q3] using q1.symm
 have ab:=hs.Zy (.inl hn) hf q4 q5 q6;have af:=ab.put (x:=.dv d) (v:=.pointer (some ⟨w.heap.size,0,none⟩)) hn ⟨_,by simp[bI,I.isAgg];rfl,by
  simp only[ao,if_true];exact ⟨w.heap.size,rfl,rfl⟩⟩
 refine ⟨w.alloc (.mapIter (some b) ck #[] ck),.inl ⟨.pointer (some ⟨w.heap.size,0,none⟩),?_,D,_,by rw[ah];exact af⟩⟩;simp only[execOp,ho,hv,Sem.run_bind,run_range_map w t kt et b es ck hu q4.1,Result.andThen_ok,Sem.run_pure]
theorem EV{es:Array MapEntry}{bK:Array Nat}{i:Nat} : i∈pO es bK↔∃ e,es[i]?=some e∧bK.contains e.born=false:=by
 unfold pO;simp only[zx5,zy9];constructor
 ·rintro ⟨U,ab⟩;rw[Array.getElem?_eq_getElem U] at ab ⊢;exact ⟨_,rfl,by simpa using ab⟩
 ·rintro ⟨e,U,ab⟩;exact ⟨(zx1.1 U).1,by rw[U];simpa using ab⟩
theorem aca{es:Array MapEntry}{ck:Nat}(hst:qt es ck){i j:Nat}{e f:MapEntry}(hi:es[i]?=some e)(hj:es[j]?=some f)(h:e.born=f.born):i=j:=by
 have hn:=hst.2;rw[←zw6] at hi hj;have U:(es.toList.map (·.born))[i]?=some e.born:=by rw[zx7,hi];rfl
 have ab:(es.toList.map (·.born))[j]?=some e.born:=by rw[zx7,hj,h];rfl
 have hil:i<(es.toList.map (·.born)).length:=(zy0.1 U).1;have hjl:j<(es.toList.map (·.born)).length:=(zy0.1 ab).1;exact (List.getElem?_inj hil hn).1 (U.trans ab.symm)
theorem Y2{es:Array MapEntry}{bK:Array Nat}{ck i:Nat}{e:MapEntry}(hst:qt es ck)(hi:es[i]?=some e):pO es (bK.push e.born)=(pO es bK).filter (· != i):=by
 unfold pO;rw[List.filter_filter];refine List.filter_congr fun j hj =>?_;have hjl:j<es.size:=by simpa using hj
 rw[Array.getElem?_eq_getElem hjl];simp only[Array.contains_push];by_cases hij:j=i
 ·subst hij;rw[Array.getElem?_eq_getElem hjl,u8] at hi;simp[hi]
 ·have:(es[j].born==e.born)=false:=by
   simp only[beq_eq_false_iff_ne,ne_eq];exact fun h=>hij (aca hst (Array.getElem?_eq_getElem hjl) hi h)
  have ab:(j != i)=true:=by simpa using hij
  simp[this,ab]
theorem ZA{y:Operand}{y':aV}{ks vs:List I}{left:List Nat}{cur:Option Nat}{n:Nat}(ho:o.op=.next y false)(hy:bF c.P 0 y=some y')(h:al A y'=.dv n)(hn:A.o n=some (.it ks vs left cur))(hdn:∀ k,o.dst=some k→k<c.n){a:Act}{w:World}{D:aX}{E:bj}(hs:bg c A a w D E) :
  ∃ w' v,(execOp a.eval o).run c.P w=.ok (.value v) w'∧((left=[]∧cd c (A.a8 o.dst (.tuple [.bool false])) (a.put o.dst v) w') ∨
   ∃ i k x,i∈left∧ks[i]?=some k∧vs[i]?=some x∧cd c ((A.aZ n (.it ks vs (left.filter (· != i)) (some i))).a8 o.dst (.tuple [.bool true,k,x])) (a.put o.dst v) w'):=by
 have U:=b5 hs hy;rw[h] at U;obtain ⟨cs,q1,q2⟩:=U;simp only[ao] at q2;obtain ⟨r,q3,q4⟩:=q2;have hv:a.eval y=.pointer (some ⟨r,0,none⟩):=by simpa[bI,I.isAgg,q4] using q1.symm
 have hob:=hs.bP n;rw[hn] at hob;obtain ⟨r',b,es,ck,since,bK,last,k1,k2,k3,k4,k5,k6,k7,k8,k9,k9',k10⟩:=hob;rw[k1] at q3;cases q3;rcases run_next_at (P:=c.P) w o.type r b since last bK es ck k3 k4.1 k7 k8.1 with ⟨bf,hrun⟩ | ⟨e,he,w1,hal,hrun⟩
 ·refine ⟨w,.tuple #[.bool false],by simp only[execOp,ho,hv,Sem.run_bind,hrun,Result.andThen_ok,Sem.run_pure],.inl ⟨?_,D,E,hs.a8 hdn ?_⟩⟩
  ·rw[k9];refine List.eq_nil_iff_forall_not_mem.2 fun i hi =>?_;obtain ⟨e,U,ab⟩:=EV.1 hi;have hm:e∈leftOf es bK:=by
    unfold leftOf;simp only[Array.mem_filter];exact ⟨Array.mem_of_getElem? U,by simpa using ab⟩
   rw[Array.eq_empty_of_size_eq_zero bf] at hm;simp at hm
  ·simp only[bl,aO];exact ⟨[.bool false],rfl,.bool false,[],[.bool false],rfl,by simp[bI,I.isAgg],by simp[ao],rfl⟩
 ·have hmem:e∈es.toList∧bK.contains e.born=false:=by
   unfold leftOf at he;simp only[Array.toList_filter,zx5] at he;exact ⟨he.1,by simpa using he.2⟩
  obtain ⟨i,hi⟩:=List.getElem?_of_mem hmem.1;have hie:es[i]?=some e:=by rw[←zw6];exact hi
  obtain ⟨k,hk1,hk2⟩:=nR (j:=i) (v:=e.key) k5 (by simp only[zx7,hi,zy6]);obtain ⟨x,hx1,hx2⟩:=nR (j:=i) (v:=e.val) k6 (by simp only[zx7,hi,zy6]);have hsw:bg c A a w1 D E:=by
   rcases hal with rfl | rfl
   ·exact hs
   ·exact hs.grow (w':=w.drew) (D':=D) ⟨rfl,rfl,rfl,zz9 _,fun _ _=>rfl⟩ (fun _ _ h=>h) (fun _ _ h _=>h) (fun b o ah=>hs.aK b o ah)
  have hw1:w1.heap=w.heap:=by rcases hal with rfl | rfl <;>rfl
  have k3':w1.heap[r]?=some (.mapIter (some b) since bK last):=by rw[hw1];exact k3
  have hset:=hsw.zX (x:=.it ks vs (left.filter (· != i)) (some i)) (o':=.mapIter (some b) since (bK.push e.born) ck) k1 rfl rfl k3' rfl (fun q=>by simp) k2
   (fun hl hh hno=>by
    have hm:pR w1 D b es ck:=⟨by rw[hw1];exact k4.1,k4.2.1,k4.2.2⟩
    have hob:=hsw.bP n;rw[hn] at hob;refine ⟨r,b,es,ck,since,bK.push e.born,ck,k1,k2,hh,hm.later hl,aO.later hl _ _ ?_,aO.later hl _ _ ?_,k7,?_,?_,fun j hj =>?_,hno⟩
    ·obtain ⟨jH,b2,es2,ck2,si2,se2,la2,g1,g2,g3,g4,g5,g6,_⟩:=hob;rw[k1] at g1;cases g1;rw[k3'] at g3;cases g3;have:=g4.1;rw[hw1,k4.1] at this;cases this;exact g5
    ·obtain ⟨jH,b2,es2,ck2,si2,se2,la2,g1,g2,g3,g4,g5,g6,_⟩:=hob;rw[k1] at g1;cases g1;rw[k3'] at g3;cases g3;have:=g4.1;rw[hw1,k4.1] at this;cases this;exact g6
    ·exact ⟨k8.2,k8.2⟩
    ·rw[k9,Y2 k4.2.2 hie]
    ·cases hj;exact ⟨e,hie,by simp,rfl⟩)
  have hset':bg c (A.aZ n (.it ks vs (left.filter (· != i)) (some i))) a (ChangeMaps.setBlock w1 r (.mapIter (some b) since (bK.push e.born) ck)) D E:=hset;refine ⟨_,.tuple #[.bool true,e.key,e.val],by simp only[execOp,ho,hv,Sem.run_bind,hrun,Result.andThen_ok,Sem.run_pure],.inr ⟨i,k,x,?_,hk1,hx1,D,E,hset'.a8 hdn ?_⟩⟩
  ·rw[k9];exact EV.2 ⟨e,hie,hmem.2⟩
  ·have hob2:=hset'.bP n;simp only[ai.aZ,if_true] at hob2;obtain ⟨jH,b2,es2,ck2,si2,se2,la2,g1,g2,g3,g4,g5,g6,_⟩:=hob2;rw[k1] at g1;cases g1;have hr2:(ChangeMaps.setBlock w1 r (.mapIter (some b) since (bK.push e.born) ck)).heap[r]?=some (.mapIter (some b) since (bK.push e.born) ck):=World.putObj_heap_same (w:=w1) (gu k3');rw[hr2] at g3;cases g3;have hb2:(ChangeMaps.setBlock w1 r (.mapIter (some b) since (bK.push e.born) ck)).heap[b]?=some (.map es ck):=by
    have:b≠r:=fun e=>by rw[e] at k4;rw[k4.1] at k3;cases k3
    refine (World.putObj_heap_other (w:=w1) this).trans ?_;rw[hw1];exact k4.1
   have:=g4.1;rw[hb2] at this;cases this;obtain ⟨kk,a1,a2⟩:=nR (j:=i) (v:=e.key) g5 (by simp only[zx7,hi,zy6]);rw[hk1] at a1;cases a1;obtain ⟨xx,b1,b2⟩:=nR (j:=i) (v:=e.val) g6 (by simp only[zx7,hi,zy6]);rw[hx1] at b1;cases b1;obtain ⟨c1,c2,c3⟩:=qy (rR k5 hk1) a2;obtain ⟨d1,d2,d3⟩:=qy (rR k6 hx1) b2;simp only[bl,aO];exact ⟨[.bool true,e.key,e.val],rfl,.bool true,_,[.bool true],rfl,by simp[bI,I.isAgg],by simp[ao],e.key,_,c1,rfl,c2,c3,e.val,[],d1,rfl,d2,d3,rfl⟩
theorem X2{y:Operand}{y':aV}{ks vs:List I}{left:List Nat}{i n:Nat}{k x:I}(ho:o.op=.entry y)(hy:bF c.P 0 y=some y')(h:al A y'=.dv n)(hn:A.o n=some (.it ks vs left (some i)))(hk:ks[i]?=some k)(hx:vs[i]?=some x):dP c A o (.tuple [k,x]) :=
 .same fun a w D E hs=>by
  have U:=b5 hs hy;rw[h] at U;obtain ⟨cs,q1,q2⟩:=U;simp only[ao] at q2;obtain ⟨r,q3,q4⟩:=q2;have hv:a.eval y=.pointer (some ⟨r,0,none⟩):=by simpa[bI,I.isAgg,q4] using q1.symm
  have hob:=hs.bP n;rw[hn] at hob;obtain ⟨r',b,es,ck,since,bK,last,k1,k2,k3,k4,k5,k6,k7,k8,k9,k9',k10⟩:=hob;rw[k1] at q3;cases q3;obtain ⟨e,e1,e2,rfl⟩:=k9' i rfl;have hi:es.toList[i]?=some e:=by rw[zw6];exact e1
  obtain ⟨kk,a1,a2⟩:=nR (j:=i) (v:=e.key) k5 (by simp only[zx7,hi,zy6]);rw[hk] at a1;cases a1;obtain ⟨xx,b1,b2⟩:=nR (j:=i) (v:=e.val) k6 (by simp only[zx7,hi,zy6]);rw[hx] at b1;cases b1;obtain ⟨c1,c2,c3⟩:=qy (rR k5 hk) a2;obtain ⟨d1,d2,d3⟩:=qy (rR k6 hx) b2;have hf:es.find? (·.born==e.born)=some e:=by rw[←Array.find?_toList];exact find_born e es.toList k4.2.2.2 (List.mem_of_getElem? hi)
  refine ⟨.tuple #[e.key,e.val],?_,?_⟩
  ·have hr:(Instr.entry (.pointer (some ⟨r,0,none⟩))).run c.P w=.ok (.tuple #[e.key,e.val]) w:=by
    simp only[Instr.entry,getObj,Sem.run_bind,Sem.run,k3,k4.1,Result.andThen,e2,bne_self_eq_false,zz5,if_false,hf];rfl
   simp only[execOp,ho,hv,Sem.run_bind,hr,Result.andThen_ok,Sem.run_pure]
  ·simp only[bl,aO];exact ⟨[e.key,e.val],rfl,e.key,_,c1,rfl,c2,c3,e.val,[],d1,rfl,d2,d3,rfl⟩
theorem Hd{w:World}{D:aX}{E:bj}{z:I}{v:Value}(h:ao w D E z [v]):∀ n:Nat,aU w D E (List.replicate n z) (List.replicate n v)
 |0=>by simp[aU]
 |n+1=>by simp only[List.replicate_succ,aU];exact ⟨[v],_,rfl,h,Hd h n⟩
theorem OM{t e:TypeId}{l l':Operand}{n':aV}{z:I}{n d:Nat}{k:IntKind}(ho:o.op=.makeSlice t l l')(hll:l'=l)(hu:c.P.underlying t=some (.slice e))(hl:bF c.P 0 l=some n')(h:al A n'=.int k n)(hz:gY c.P e=some z)(hz1:z.size=1)
  (hc1:c.P.cellsOf e=1) (hby:n*c.P.bytesOf e≤281474976710656) (hmax:n≤maxLen) (ah:o.dst=some d) (hn:d<c.n) (hf:A.o d=none):iW c A o ((A.aZ d (.box (.agg (List.replicate n z)))).put d (.view d [] 1 0 n)):=by
 subst hll;intro a w D E hs;have U:=b5 hs hl;rw[h] at U;obtain ⟨e1,_⟩:=fh U;obtain ⟨i,zv,hi,hzz,hzr⟩:=mT hz;have hzc:=ao.length _ _ (hzr w D E);rw[hz1] at hzc;obtain ⟨u,hu1⟩:∃ u,zv.cells = #[u]:=by
  have:zv.cells.size=1:=by simpa using hzc
  obtain ⟨u,hu⟩:=Array.size_eq_one_iff.1 this;exact ⟨u,hu⟩
 have hsz:i.size=1:=by have:=hc1;simp only[Program.cellsOf,hi,zy6,Option.getD_some] at this;exact this
 have hbytes:(i.bytes:Int)*(n:Int)≤281474976710656:=by
  have:c.P.bytesOf e=i.bytes:=by simp[Program.bytesOf,hi]
  rw[this] at hby;have ab:((i.bytes*n:Nat):Int)≤281474976710656:=by rw[Nat.mul_comm] at hby;omega
  rwa [Int.natCast_mul] at ab
 have hrun:=run_make (P:=c.P) w t e i zv hu hi hzz k k n n (by omega) (Int.le_refl _) hbytes (by have h9:=hmax;unfold maxLen at h9;omega);simp only[Int.toNat_natCast,hsz,Nat.mul_one] at hrun;have hmc:(madeCells zv.cells n).toList=List.replicate n u:=by
  rw[hu1];simp only[madeCells];apply List.ext_getElem?;intro j;simp[List.getElem?_replicate];split <;>simp_all[Nat.mod_one]
 have hcells:ao w D E (.agg (List.replicate n z)) (madeCells zv.cells n).toList:=by
  rw[hmc];simp only[ao];refine Hd ?_ n;have:=hzr w D E;rw[hu1] at this;simpa using this
 have ab:=hs.th (T:=e) (.inl hn) hf hcells;have af:=ab.put (x:=.view d [] 1 0 n) (v:=.slice (some ⟨w.heap.size,0,none⟩) n n) hn ⟨_,by simp[bI,I.isAgg];rfl,by
  simp only[ao,if_true];refine ⟨w.heap.size,_,0,I.cZ (List.replicate n z),rfl,by simp[cW.off],by simp[I.bh,cW.part],by simp[I.dA],by simpa[I.dA] using hmax,by simp[I.dA],fun s hs =>?_⟩;rw[I.dA] at hs;obtain ⟨y,hy,rfl⟩:=zy7.1 hs;rw[I.mJ,(List.mem_replicate.1 hy).2,hz1]⟩
 refine ⟨_,.inl ⟨_,?_,D,_,by rw[ah];exact af⟩⟩;simp only[execOp,ho,e1,Sem.run_bind,hrun,Result.andThen_ok,Sem.run_pure]
end
end Go.Abs
namespace Go.Abs
open Go Go.RowKit
mutual
/-- Values that lead to no memory. -/
def I.flat:I→Bool
 | .agg fs | .tuple fs=>I.pH fs
 | .bool _ | .int _ _ | .bT _ | .nilp | .dE | .ed | .any | .raw _ | .undef | .dx=>true
 |_=>false
def I.pH:List I→Bool
 | []=>true
 |x::xs=>x.flat&&I.pH xs
end
mutual
theorem ao.flat{w w':World}{D D':aX}{E E':bj} : ∀ (x:I) (cs:List Value),x.flat=true→ao w D E x cs→ao w' D' E' x cs
 | .agg fs,cs,hf,hr=>by simp only[ao,I.flat] at *;exact aU.flat fs cs hf hr
 | .bool b,cs,_,hr=>by simpa only[ao] using hr
 | .int k n,cs,_,hr=>by simpa only[ao] using hr
 | .bT s,cs,_,hr=>by simpa only[ao] using hr
 | .nilp,cs,_,hr=>by simpa only[ao] using hr
 | .dE,cs,_,hr=>by simpa only[ao] using hr
 | .ed,cs,_,hr | .any,cs,_,hr=>by simpa only[ao] using hr
 | .raw _,cs,_,hr=>by simpa only[ao] using hr
 | .undef,_,_,hr=>by simp only[ao] at hr
 | .dx,_,_,hr=>by simp only[ao] at hr
 | .tuple _,_,_,hr=>by simp only[ao] at hr
 | .nils _,_,hf,_ | .c0 _,_,hf,_ | .slice _ _,_,hf,_ | .ref _,_,hf,_ | .func _ _,_,hf,_ | .iface _ _,_,hf,_ | .ptr _ _,_,hf,_ | .own _ _,_,hf,_ | .view _ _ _ _ _,_,hf,_ | .mref _,_,hf,_ | .dv _,_,hf,_ | .dp _ _,_,hf,_=>by simp[I.flat] at hf
theorem aU.flat{w w':World}{D D':aX}{E E':bj} : ∀ (xs:List I) (cs:List Value),I.pH xs=true→aU w D E xs cs→aU w' D' E' xs cs
 | [],cs,_,hr=>by simpa only[aU] using hr
 |x::xs,cs,hf,hr=>by
  simp only[aU,I.pH,zz1] at *;obtain ⟨c1,c2,U,ab,af⟩:=hr;exact ⟨c1,c2,U,ao.flat x c1 hf.1 ab,aU.flat xs c2 hf.2 af⟩
end
theorem aO.flat{w w':World}{D D':aX}{E E':bj} : ∀ (xs:List I) (vs:List Value),I.pH xs=true→aO w D E xs vs→aO w' D' E' xs vs
 | [],vs,_,hr=>by simpa only[aO] using hr
 |x::xs,vs,hf,hr=>by
  simp only[aO,I.pH,zz1] at *;obtain ⟨v,rest,cs,U,ab,af,ar⟩:=hr;exact ⟨v,rest,cs,U,ab,ao.flat x cs hf.1 af,aO.flat xs rest hf.2 ar⟩
theorem bl.flat{w w':World}{D D':aX}{E E':bj}{x:I}{v:Value}(hf:x.flat=true)(hr:bl w D E x v):bl w' D' E' x v:=by
 cases x <;>simp only[bl] at * <;>first
  |exact hr
  |(obtain ⟨vs,U,ab⟩:=hr;exact ⟨vs,U,aO.flat _ _ (by simpa[I.flat] using hf) ab⟩)
  |(obtain ⟨cs,U,ab⟩:=hr;exact ⟨cs,U,ao.flat _ _ hf ab⟩)
def E0:bj:=fun _=>none
def bp(P:Program)(f:FuncId)(args:List I)(r:I):Prop :=
 fq P f=true∧∀ (w:World) (D:aX) (vs:List Value),iD P w (fun _=>False)→(∀ b o,D b o→b<w.heap.size)→aO w D E0 args vs →
  Calls P f vs.toArray w fun e w'=>∃ v D',e=.returned v∧bl w' D' E0 r v∧Below w.heap.size w w'∧(∀ b o,D' b o→b<w'.heap.size)∧∀ b o,D' b o→b<w.heap.size→D b o
def cU(P:Program)(f:FuncId)(args:List I)(os:List (Nat×ak))(post:cE):Prop :=
 fq P f=true∧pk (Calls P f) (fun w _ E=>iD P w (cI E)) args os post
def b8(p:Nat→Bool):List (Nat×ak)→Prop
 | []=>True
 |(_,v)::r=>v.only p=true∧b8 p r
def dY(ns:List Nat)(os:List (Nat×ak)):List (Nat×ak):=os.filter fun q => !ns.contains q.1
def jX(ns:List Nat)(ts:List (Nat×I)):List (Nat×I):=ts.map fun q=>(q.1,if q.2.only (fun n => !ns.contains n) then q.2 else .dx)
def kW(ns:List Nat)(os:List (Nat×ak)):List (Nat×ak):=os.filter fun q=>ns.contains q.1
def jg(ρ:List (Nat×Nat))(os:List (Nat×ak)):List Nat:=os.map fun q=>bB ρ q.1
def iF(aR:Bool)(A0:ai)(ρ:List (Nat×Nat))(os:List (Nat×ak)):List I→List I→Prop
 | [],[]=>True
 |x::xs,c::cs=>((x=c.bd (bB ρ)∧c.only (av os)=true∧c.bV=true)∨br aR A0 x=some c)∧iF aR A0 ρ os xs cs
 |_,_=>False
structure aw where
 dst:Option Nat
 op:bU
 guard:Option (Nat×Bool)
 deriving Inhabited
inductive cR where
 |done (A:ai)
 |fail
 |call (f:FuncId) (avs:List I) (a1 a2:Option (List I)) (dst:Option Nat) (rest:List aw) (A:ai)
 |mg (v:Value) (avs:List I) (dst:Option Nat) (rest:List aw) (A:ai)
 |lD (f:FuncId) (avs:List I) (dst:Option Nat) (rest:List aw) (A:ai)
 |any (p:Nat→Prop) (k:Nat→cR)
def cX(x:Option I)(k:I→cR):cR:=match x with
 |some v=>k v
 |none=>.fail
def zc(s:Option Nat)(v old:I):Prop:=v.bV=true∧cn s v=true∧v.bh=old.bh
def za(e esz bytes l sz:Nat)(ys:List I)(T sz':Nat)(es:List I):Prop:=l=es.length∧sz=esz∧T=e∧sz'=esz∧ys≠[]∧es.length+ys.length≤maxLen∧(es.length+ys.length)*bytes≤140737488355328
def sS(ys:List I):List Int:=ys.filterMap fun y=>match y with | .int .i64 i=>some i | _=>none
def zb(e esz bytes l:Nat)(ys:List I)(T:Nat)(xs:List Int)(z:I):Prop:=l=xs.length∧esz=1∧T=e∧z=.int .i64 0∧ys=(sS ys).map (.int .i64)∧ys≠[]∧xs.length+ys.length≤maxLen∧(xs.length+ys.length)*bytes≤140737488355328
def kM:I→Bool
 | .slice _ es=>es.isEmpty
 | .c0 _=>true
 |_=>false
def mq(f:Nat):Nat:=if f<1000000 then f else f-1000000
def jc(f:Nat)(args caps:List I):List I:=if f<1000000 then args++caps else caps++args
theorem xV{f:Nat}(h:f<1000000):mq f=f:=by simp only[mq,if_pos h]
theorem xU{f:Nat}(h:f<1000000)(args caps:List I):jc f args caps=args++caps:=by simp only[jc,if_pos h]
theorem uZ(g:Nat):mq (g+1000000)=g:=by simp only[mq,if_neg (show ¬ g+1000000<1000000 by omega),Nat.add_sub_cancel]
theorem xT(g:Nat)(args caps:List I):jc (g+1000000) args caps=caps++args:=by simp only[jc,if_neg (show ¬ g+1000000<1000000 by omega)]
open Classical in
noncomputable def gK(A:ai)(dst:Option Nat)(esz bytes:Nat)(z:I)(es ys:List I)(k:ai→cR):cR :=
 match dst with
 |some d=>match A.o d with
  |none=>if (es.length+ys.length)*bytes≤140737488355328∧es.length+ys.length≤maxLen then
    .any (fun m=>es.length+ys.length+m≤maxLen) (fun m=>k ((A.aZ d (.box (.agg (es++(ys++List.replicate m z))))).a8 dst (.view d [] esz 0 (es.length+ys.length)))) else .fail
  |some _=>.fail
 |none=>.fail
open Classical in
noncomputable def fp(A:ai)(dst:Option Nat)(esz bytes:Nat)(z:I)(s:I):Option (List I)→Option (List I)→(ai→cR)→cR
 |some es,some ys,k=>if ys=[] then k (A.a8 dst s) else match s with
  | .nils _=>gK A dst esz bytes z es ys k
  | .c0 _=>gK A dst esz bytes z es ys k
  | .view n p sz lo l=>match A.o n with
   |some (.box b)=>match b.at p with
    |some (.agg fs)=>if lo+l+ys.length≤fs.length then
      (if sz=esz∧I.cZ ys=I.cZ ((fs.drop (lo+l)).take ys.length) then k ((A.aZ n (.box (jL b p (lo+l) fs ys))).a8 dst (.view n p esz lo (l+ys.length))) else .fail)
      else gK A dst esz bytes z es ys k
    |_=>.fail
   |_=>.fail
  |_=>.fail
 |_,_,_=>.fail
open Classical in
noncomputable def w4(A:ai)(dst:Option Nat)(esz bytes:Nat)(z:I)(m:Nat)(s:I):Option (List I)→(ai→cR)→cR
 |some es,k=>match s with
  | .view n p _ lo l=>match A.o n with
   |some (.box b)=>match b.at p with
    |some (.agg fs)=>if 0<m∧fs.length<lo+l+m then gK A dst esz bytes z es (List.replicate m z) k else .fail
    |_=>.fail
   |_=>.fail
  |_=>.fail
 |_,_=>.fail
open Classical in
noncomputable def ox(A:ai)(esz:Nat)(z:I)(k:ai→cR):I→cR
 | .view n p sz lo l=>match A.o n with
  |some (.box b)=>match b.at p with
   |some (.agg fs)=>if sz=esz∧I.cZ (List.replicate l z)=I.cZ ((fs.drop lo).take l) then k (A.aZ n (.box (jL b p lo fs (List.replicate l z)))) else .fail
   |_=>.fail
  |_=>.fail
 | .nils _=>k A
 | .c0 _=>k A
 |_=>.fail
open Classical in
noncomputable def uO(A:ai)(dst:Option Nat)(esz:Nat)(k:ai→cR):I→Option (List I)→cR
 | .view n p sz lo l,some ys=>match A.o n with
  |some (.box b)=>match b.at p with
   |some (.agg fs)=>if sz=esz∧I.cZ (ys.take (min ys.length l))=I.cZ ((fs.drop lo).take (min ys.length l)) then k ((A.aZ n (.box (jL b p lo fs (ys.take (min ys.length l))))).a8 dst (.int .i64 (min ys.length l:Nat))) else .fail
   |_=>.fail
  |_=>.fail
 |_,_=>.fail
open Classical in
noncomputable def bt(A:ai)(dst:Option Nat)(op:bU)(rest:List aw)(k:ai→cR):cR :=
 match op with
 | .alloc z=>match dst with
  |some d=>match A.o d with
   |none=>k ((A.aZ d (.box z)).put d (.ptr d []))
   |some _=>.fail
  |none=>.fail
 | .box x=>match dst with
  |some d=>match A.o d with
   |none=>if (al A x).bV then k ((A.aZ d (.box (al A x))).put d (.ptr d [])) else .fail
   |some _=>.fail
  |none=>.fail
 | .bm s x v=>match dst with
  |none=>match al A x with
   | .ptr n p=>match A.o n with
    |some (.box b)=>match b.at p with
     |some old=>if zc s (al A v) old then k (A.aZ n (.box (b.eF p (al A v)))) else .fail
     |none=>.fail
    |_=>.fail
   |_=>.fail
  |some _=>.fail
 | .dy e esz bytes z s x=>match al A s with
  | .own n l=>match al A x with
   | .slice sz ys=>match A.o n with
    |some (.bW T sz' es)=>if za e esz bytes l sz ys T sz' es then k ((A.aZ n (.bW e esz (es++ys))).a8 dst (.own n (es.length+ys.length))) else .fail
    |some (.dJ T xs)=>if zb e esz bytes l ys T xs z then k ((A.aZ n (.dJ e (xs++sS ys))).a8 dst (.own n (xs.length+ys.length))) else .fail
    |_=>.fail
   |_=>.fail
  |s'=>fp A dst esz bytes z s' (eI A esz s') (eI A esz (al A x)) k
 | .mZ _ esz bytes z s n=>match al A n with
  | .int _ m=>w4 A dst esz bytes z m.toNat (al A s) (eI A esz (al A s)) k
  |_=>.fail
 | .nilS neg x=>if kM (al A x) then .any (fun m=>m<2) (fun m=>k (A.a8 dst (.bool (m==0)))) else cX (bu A (.nilS neg x)) fun v=>k (A.a8 dst v)
 | .kh esz z x=>match dst with
  |none=>ox A esz z k (al A x)
  |some _=>.fail
 | .ml esz x y=>uO A dst esz k (al A x) (eI A esz (al A y))
 | .call f args=>.call f (args.map (al A)) (bZ true A (args.map (al A))) (bZ false A (args.map (al A))) dst rest A
 | .fQ x args=>match al A x with
  | .func f caps=>.call (mq f) (jc f (args.map (al A)) caps) (bZ true A (jc f (args.map (al A)) caps)) (bZ false A (jc f (args.map (al A)) caps)) dst rest A
  | .raw v=>.mg v (args.map (al A)) dst rest A
  |_=>.fail
 | .lD f args=>.lD f (args.map (al A)) dst rest A
 | .jB=>match dst with
  |some d=>match A.o d with
   |none=>k ((A.aZ d (.bE [] [])).put d (.mref d))
   |some _=>.fail
  |none=>.fail
 | .lM _ bytes z n=>match dst with
  |some d=>match A.o d with
   |none=>match al A n with
    | .int _ n=>if 0≤n∧n.toNat*bytes≤281474976710656∧n.toNat≤maxLen then k ((A.aZ d (.box (.agg (List.replicate n.toNat z)))).put d (.view d [] 1 0 n.toNat)) else .fail
    |_=>.fail
   |some _=>.fail
  |none=>.fail
 | .fg ty m key v=>match dst with
  |none=>match al A m with
   | .mref n=>match A.o n with
    |some (.bE ks vs)=>match fV ty (al A key) (al A v) ks vs with
     |some (ks',vs')=>k (A.aZ n (.bE ks' vs'))
     |none=>.fail
    |_=>.fail
   |_=>.fail
  |some _=>.fail
 | .jA ty m key=>match dst with
  |none=>match al A m with
   | .mref n=>match A.o n with
    |some (.bE ks vs)=>match nu ty (al A key) ks vs with
     |some (ks',vs')=>k (A.aZ n (.bE ks' vs'))
     |none=>.fail
    |_=>.fail
   |_=>.fail
  |some _=>.fail
 | .kG x=>match dst with
  |some d=>match A.o d with
   |none=>match al A x with
    | .dp ks vs=>k ((A.aZ d (.it ks vs (List.range ks.length) none)).put d (.dv d))
    |_=>.fail
   |some _=>.fail
  |none=>.fail
 | .jh x=>match al A x with
  | .dv n=>match A.o n with
   |some (.it ks vs left cur)=>if left=[] then k (A.a8 dst (.tuple [.bool false])) else
     .any (fun i=>i∈left) fun i=>match ks[i]?,vs[i]? with
      |some kk,some x=>k ((A.aZ n (.it ks vs (left.filter (· != i)) (some i))).a8 dst (.tuple [.bool true,kk,x]))
      |_,_=>.fail
   |_=>.fail
  |_=>.fail
 |op=>cX (bu A op) fun v=>k (A.a8 dst v)
noncomputable def aC:List aw→ai→cR
 | [],A=>.done A
 |g::rest,A=>match g.guard with
  |none=>bt A g.dst g.op rest (aC rest)
  |some (t,b)=>match A.t t with
   | .bool b'=>if b'=b then bt A g.dst g.op rest (aC rest) else aC rest (A.a8 g.dst .undef)
   | .undef=>aC rest (A.a8 g.dst .undef)
   |_=>.fail
def JD(P:Program)(A:ai)(f:FuncId)(avs:List I)(r:I):Prop :=
 ∀ (c:c4) (a:Act) (w:World) (D:aX) (E:bj) (vs:List Value),c.P=P→bg c A a w D E→ga (bl w D E) avs vs→∃ v,(callFunc f vs.toArray).run P w=.ok (.value v) w∧bl w D E r v
inductive aW (P:Program) (Y:Value→List I→List (Nat×ak)→cE→Prop) (dr:Bool) (K:ai→Prop):cR→Prop where
 |done {A:ai} : K A→aW P Y dr K (.done A)
 |flat {f:FuncId} {avs cargs:List I} {a2:Option (List I)} {dst:Option Nat} {rest:List aw} {A:ai} (r:I):bp P f cargs r→r.flat=true→aW P Y dr K (aC rest (A.a8 dst r))→aW P Y dr K (.call f avs (some cargs) a2 dst rest A)
 |lead {f:FuncId} {avs cargs:List I} {a1:Option (List I)} {dst:Option Nat} {rest:List aw} {A:ai} (r:I):bp P f cargs r→aW P Y dr K (aC rest (A.a8 dst r))→aW P Y dr K (.call f avs a1 (some cargs) dst rest A)
 |jv {f:FuncId} {avs cargs:List I} {a1 a2:Option (List I)} {dst:Option Nat} {rest:List aw} {ts:List (Nat×I)} {os0:List (Nat×ak)} (ns:List Nat) (r:I):dr=false→bp P f cargs r→bZ true (au ts (kW ns os0)) avs=some cargs →
   b8 (fun n => !ns.contains n) (dY ns os0)→aW P Y dr K (aC rest ((au (jX ns ts) (dY ns os0)).a8 dst r))→aW P Y dr K (.call f avs a1 a2 dst rest (au ts os0))
 |bP {f:FuncId} {avs:List I} {a1 a2:Option (List I)} {dst:Option Nat} {rest:List aw} {ts:List (Nat×I)} {os0:List (Nat×ak)} (aR:Bool) (ρ:List (Nat×Nat)) (os:List (Nat×ak)) (cargs:List I) (post:cE):dr=false→cU P f cargs os post →
   hd ρ os os0→iF aR (au ts (dY (jg ρ os) os0)) ρ os avs cargs→(∀ r os',post r os'→gJ aR ρ os os0 r os') →
   (∀ r os',post r os'→aW P Y dr K (aC rest ((au ts (dc ρ os'++os0)).a8 dst (r.bd (bB ρ)))))→aW P Y dr K (.call f avs a1 a2 dst rest (au ts os0))
 |wJ {v:Value} {avs:List I} {dst:Option Nat} {rest:List aw} {ts:List (Nat×I)} {os0:List (Nat×ak)} (os:List (Nat×ak)) (cargs:List I) (post:cE):dr=false→Y v cargs os post →
   hd [] os os0→iF false (au ts (dY (jg [] os) os0)) [] os avs cargs→(∀ r os',post r os'→gJ false [] os os0 r os') →
   (∀ r os',post r os'→aW P Y dr K (aC rest ((au ts (dc [] os'++os0)).a8 dst (r.bd (bB [])))))→aW P Y dr K (.mg v avs dst rest (au ts os0))
 |ext {f:FuncId} {avs:List I} {dst:Option Nat} {rest:List aw} {A:ai} (r:I):dr=false→JD P A f avs r→aW P Y dr K (aC rest (A.a8 dst r))→aW P Y dr K (.lD f avs dst rest A)
 |any {p:Nat→Prop} {k:Nat→cR} : dr=false→(∀ m,p m→aW P Y dr K (k m))→aW P Y dr K (.any p k)
def CT(n:Nat):Option Nat→Bool
 |some d=>decide (d<n)
 |none=>true
def nd(P:Program)(n:Nat)(bo:Array Oper)(o:Oper):Option aw :=
 match dm P o with
 |none=>none
 |some g=>if CT n o.dst=true then
   match o.guard with
   |none=>some ⟨o.dst,g,none⟩
   |some (j,b)=>match (bo[j]?).bind (·.dst) with
    |some t=>some ⟨o.dst,g,some (t,b)⟩
    |none=>none
  else none
def gO(P:Program)(n:Nat)(bo:Array Oper):List Oper→Option (List aw)
 | []=>some []
 |o::l=>match nd P n bo o,gO P n bo l with
  |some g,some gs=>some (g::gs)
  |_,_=>none
end Go.Abs
namespace Go.Abs
open Go Go.RowKit
section
variable {c:c4} {A:ai} {o:Oper} {x:I}
theorem Ga{g:bU}(hg:dm c.P o=some g)(h:bu A g=some x):dP c A o x:=by
 unfold dm at hg;split at hg
 -- move
 ·rename_i y ho;simp only[zz0] at hg;obtain ⟨z,hz,rfl⟩:=hg;simp only[bu,u8] at h;subst h;exact Ei (.inl ho) hz
 ·rename_i y ho;simp only[zz0] at hg;obtain ⟨z,hz,rfl⟩:=hg;simp only[bu,u8] at h;subst h;exact Ei (.inr ho) hz
 -- pick
 ·rename_i q y z ho;split at hg
  ·rename_i q' y' z' U ab af;simp only[u8] at hg;subst hg;simp only[bu] at h;split at h
   ·rename_i t ht;simp only[u8] at h;subst h;exact Yl ho U ab af ht
   ·cases h
  ·cases hg
 -- binOp
 ·rename_i op t y z yt ho;split at hg
  ·rename_i k y' z' hu U ab;simp only[u8] at hg;subst hg;exact Ef ho U ab h
  ·rename_i y' z' hu U ab;simp only[u8] at hg;subst hg;exact Ef ho U ab h
  ·rename_i e y' z' hu U ab;split at hg
   ·rename_i s;split at hg
    ·rename_i hop;simp only[u8] at hg;subst hg;have ho':o.op=.binOp (if (op==.neq)=true then .neq else .eql) t y z yt:=by
      rcases hop with rfl | rfl <;>simpa using ho
     simp only[bu] at h;split at h
     ·rename_i s' hs';simp only[u8] at h;subst h;have:=yf (r:=true) ho' hu U ab (.inl ⟨s',hs',rfl⟩);rw[show (if (op==BinOp.neq)=true then !true else true) = !(op==BinOp.neq) from by cases (op==BinOp.neq) <;>rfl] at this;exact this
     ·rename_i s' es hs';split at h
      ·cases h
      ·rename_i hne;simp only[u8] at h;subst h;have:=yf (r:=false) ho' hu U ab (.inr (.inl ⟨s',es,hs',by simpa using hne,rfl⟩));rw[show (if (op==BinOp.neq)=true then !false else false)=(op==BinOp.neq) from by cases (op==BinOp.neq) <;>rfl] at this;exact this
     ·rename_i n p s' lo k hs';simp only[u8] at h;subst h;have:=yf (r:=false) ho' hu U ab (.inr (.inr ⟨n,p,s',lo,k,hs',rfl⟩));rw[show (if (op==BinOp.neq)=true then !false else false)=(op==BinOp.neq) from by cases (op==BinOp.neq) <;>rfl] at this;exact this
     ·cases h
    ·cases hg
   ·cases hg
  ·rename_i e y' z' hu U ab;split at hg
   ·rename_i hop;simp only[u8] at hg;subst hg;have ho':o.op=.binOp (if (op==.neq)=true then .neq else .eql) t y z yt:=by
     rcases hop with rfl | rfl <;>simpa using ho
    simp only[bu] at h;cases hb1:jy (al A y') with
    |none=>rw[hb1] at h;cases h
    |some b1=>cases hb2:jy (al A z') with
     |none=>rw[hb1,hb2] at h;cases h
     |some b2 =>
      rw[hb1,hb2] at h;simp only[oO] at h;split at h
      ·rename_i hor;simp only[u8] at h;subst h;exact Ym ho' hu U ab hb1 hb2 (by simpa using hor)
      ·cases h
   ·cases hg
  ·rename_i d y' z' _ _ _ _ hu U ab;split at hg
   ·rename_i hop;simp only[zz0] at hg;obtain ⟨ty,hty,rfl⟩:=hg;have ho':o.op=.binOp (if (op==.neq)=true then .neq else .eql) t y z yt:=by
     rcases hop.1 with rfl | rfl <;>simpa using ho
    simp only[bu,zz0] at h;obtain ⟨r,hr,rfl⟩:=h;exact X3 ho' U ab hop.2 hty hr
   ·cases hg
  ·cases hg
 -- unOp
 ·rename_i op t y ho;simp only[zz0] at hg;obtain ⟨z,hz,rfl⟩:=hg;simp only[bu] at h;split at h
  ·rename_i b hb;simp only[u8] at h;subst h;exact Yk ho hz hb
  ·rename_i k n hb;simp only[u8] at h;subst h;exact Yj ho hz hb
  ·rename_i k n hb;simp only[u8] at h;subst h;exact X1 ho hz hb
  ·cases h
 -- nilCheck
 ·rename_i y ho;simp only[zz0] at hg;obtain ⟨z,hz,rfl⟩:=hg;simp only[bu] at h;cases hy:al A z <;>rw[hy] at h <;>simp only[nv,u8] at h <;>try (cases h;done)
  ·subst h;rw[←hy];exact Ej ho hz (.inr ⟨_,hy⟩)
  ·subst h;rw[←hy];exact Ej ho hz (.inl ⟨_,_,hy⟩)
 -- makeMap
 ·simp only[u8] at hg;subst hg;simp[bu] at h
 -- lookup
 ·rename_i t m k ok ho;split at hg
  ·rename_i kt et m' k' hu U ab;split at hg
   ·rename_i ty z hk hz;split at hg
    ·rename_i hp;simp only[u8] at hg;subst hg;simp only[bu] at h;cases hm:gS A (al A m') with
     |none=>rw[hm] at h;cases h
     |some q =>
      obtain ⟨ks,vs⟩:=q;rw[hm] at h;simp only[s8] at h;cases hl:fL ty z (al A k') ks vs with
      |none=>rw[hl] at h;cases h
      |some q =>
       obtain ⟨v,b⟩:=q;rw[hl] at h;simp only[s9,u8] at h;subst h;exact Yf ho hu hk hz hp U ab hm hl
    ·cases hg
   ·cases hg
  ·cases hg
 -- mapUpdate,insert
 iterate 2
  ·split at hg
   ·split at hg
    ·simp only[u8] at hg;subst hg;simp[bu] at h
    ·cases hg
   ·cases hg
 -- makeSlice
 ·split at hg
  ·split at hg
   ·split at hg
    ·simp only[u8] at hg;subst hg;simp[bu] at h
    ·cases hg
   ·cases hg
  ·cases hg
 -- range
 ·split at hg
  ·simp only[zz0] at hg;obtain ⟨z,_,rfl⟩:=hg;simp[bu] at h
  ·cases hg
 -- next
 ·simp only[zz0] at hg;obtain ⟨z,_,rfl⟩:=hg;simp[bu] at h
 -- entry
 ·rename_i y ho;simp only[zz0] at hg;obtain ⟨z,hz,rfl⟩:=hg;simp only[bu] at h;split at h
  ·rename_i n hn;split at h
   ·rename_i ks vs left cur hob;cases cur with
    |none=>cases h
    |some i =>
     simp only[oz] at h;split at h
     ·rename_i kk xx hk hx;simp only[u8] at h;subst h;exact X2 ho hz hn hob hk hx
     ·cases h
   ·cases h
  ·cases h
 -- convert
 ·rename_i oY dst y ho;split at hg
  ·rename_i k0 k y' U ab af;simp only[u8] at hg;subst hg;simp only[bu] at h;split at h
   ·rename_i k1 n hn;simp only[u8] at h;subst h;exact X0 ho U ab af hn
   ·cases h
  ·cases hg
 -- load
 ·rename_i t y ho;split at hg
  ·rename_i s y' U ab;simp only[u8] at hg;subst hg;simp only[bu] at h;split at h
   ·rename_i v hv;split at h
    ·rename_i hok;simp only[u8] at h;subst h;exact Ye ho U ab hv hok
    ·cases h
   ·cases h
  ·cases hg
 -- fieldAddr
 ·rename_i t y f ho;split at hg
  ·rename_i fs y' hu U;split at hg
   ·rename_i fd hf;split at hg
    ·cases hg
    ·rename_i hz;simp only[u8] at hg;subst hg;simp only[bu] at h;split at h
     ·rename_i gs hgs;split at h
      ·rename_i v hv;split at h
       ·rename_i hoff;simp only[u8] at h;subst h;exact X6 ho hu hf hz U hgs hv hoff
       ·cases h
      ·cases h
     ·rename_i n p hp;split at h
      ·rename_i gs hgs;split at h
       ·rename_i hoff;simp only[u8] at h;subst h;exact X5 ho hu hf hz U hp hgs hoff.1 hoff.2
       ·cases h
      ·cases h
     ·cases h
   ·cases hg
  ·cases hg
 -- field
 ·rename_i t y f ho;split at hg
  ·rename_i fs y' hu U;split at hg
   ·rename_i fd hf;simp only[zz0] at hg;obtain ⟨s,hs,rfl⟩:=hg;simp only[bu] at h;split at h
    ·rename_i gs hgs;split at h
     ·rename_i v hv;split at h
      ·rename_i hoff;simp only[u8] at h;subst h;exact X7 ho hu hf hs U hgs hv hoff.1 hoff.2
      ·cases h
     ·cases h
    ·cases h
   ·cases hg
  ·cases hg
 -- indexAddr
 ·rename_i t y i ho;split at hg
  ·rename_i n e y' i' hu U ab;split at hg
   ·rename_i hinfo;obtain ⟨ti,hti⟩:=zx4.1 hinfo;simp only[u8] at hg;subst hg;simp only[bu] at h;split at h
    ·rename_i kk k hk;split at h
     ·rename_i hb;split at h
      ·rename_i gs hgs;split at h
       ·rename_i hev;simp only[zz0] at h;obtain ⟨v,hv,rfl⟩:=h;exact X9 ho hu hti U ab hgs hk hb hev hv
       ·cases h
      ·rename_i m p hp;split at h
       ·rename_i gs hgs;split at h
        ·rename_i hev;simp only[u8] at h;subst h;exact X8 ho hu hti U ab hp hk hb hgs hev
        ·cases h
       ·cases h
      ·cases h
     ·cases h
    ·cases h
   ·cases hg
  ·rename_i e y' i' hu U ab;split at hg
   ·rename_i hinfo;obtain ⟨ti,hti⟩:=zx4.1 hinfo;simp only[u8] at hg;subst hg;simp only[bu] at h;split at h
    ·rename_i kk k hk;split at h
     ·rename_i sz es hes;split at h
      ·rename_i hb;obtain ⟨rfl,hb⟩:=hb;simp only[zz0] at h;obtain ⟨v,hv,rfl⟩:=h;exact Ya ho hu hti U ab hes hk hb hv
      ·cases h
     ·rename_i m l hm;split at h
      ·rename_i T sz es hes;split at h
       ·rename_i hb;obtain ⟨rfl,rfl,hb⟩:=hb;simp only[zz0] at h;obtain ⟨v,hv,rfl⟩:=h;exact Yb ho hu hti U ab hm hes hk hb hv
       ·cases h
      ·cases h
     ·rename_i m p sz lo l hm;split at h
      ·rename_i fs hfs;split at h
       ·rename_i hb;simp only[u8] at h;subst h;exact Yc ho hu hti U ab hb.1 hm hfs hk hb.2
       ·cases h
      ·cases h
     ·cases h
    ·cases h
   ·cases hg
  ·cases hg
 -- index
 ·rename_i t y i ho;split at hg
  ·rename_i n e y' i' hu U ab;simp only[zz0] at hg;obtain ⟨s,hs,rfl⟩:=hg;simp only[bu] at h;split at h
   ·rename_i kk k hk;split at h
    ·rename_i hb;split at h
     ·rename_i gs hgs;split at h
      ·rename_i hev;split at h
       ·rename_i v hv;split at h
        ·rename_i hok;simp only[u8] at h;subst h;exact Yd ho hu hs U ab hgs hk hb hev hv hok
        ·cases h
       ·cases h
      ·cases h
     ·cases h
    ·cases h
   ·cases h
  ·cases hg
 -- slice
 ·rename_i t y lo hi mx ho;split at hg
  ·rename_i n e y' hu U;split at hg
   ·split at hg
    ·rename_i hinfo;obtain ⟨ti,hti⟩:=zx4.1 hinfo;simp only[u8] at hg;subst hg;simp only[bu] at h;split at h
     ·rename_i m p hp;split at h
      ·rename_i gs hgs;split at h
       ·rename_i hev;simp only[u8] at h;subst h;exact Yo ho hu hti U hp hgs hev.1 hev.2.1 hev.2.2
       ·cases h
      ·cases h
     ·rename_i gs hgs;split at h
      ·rename_i hev;simp only[u8] at h;subst h;exact Yp ho hu hti U hgs hev.1 hev.2.1
      ·cases h
     ·cases h
    ·cases hg
   ·cases hg
  ·rename_i e y' hu U;split at hg
   ·rename_i lo' hi' mx' q1 q2 q3;split at hg
    ·rename_i hc;obtain ⟨ti,hti⟩:=zx4.1 hc.2;simp only[u8] at hg;subst hg;simp only[bu] at h;split at h
     ·rename_i sz es hes;split at h
      ·rename_i hsz;subst hsz;exact yg ho hu hti U q1 q2 q3 hc.1 (.inl hes) h
      ·cases h
     ·rename_i sz hes;split at h
      ·rename_i hsz;subst hsz;exact yg ho hu hti U q1 q2 q3 hc.1 (.inr (.inl ⟨hes,rfl⟩)) h
      ·cases h
     ·rename_i sz hes;split at h
      ·rename_i hsz;subst hsz;exact yg ho hu hti U q1 q2 q3 hc.1 (.inr (.inr ⟨hes,rfl⟩)) h
      ·cases h
     ·rename_i n p sz l0 k hv;split at h
      ·rename_i fs hfs;split at h
       ·rename_i hsz;exact Yn ho hu hti U q1 q2 q3 hc.1 hsz hv hfs h
       ·cases h
      ·cases h
     ·cases h
    ·cases hg
   ·cases hg
  ·cases hg
 -- build
 ·rename_i t parts ho;split at hg
  ·rename_i zs ps hz hp;split at hg
   ·rename_i fs hu;split at hg
    ·rename_i hc;simp only[u8] at hg;subst hg;simp only[bu,zz0] at h;obtain ⟨zs',h,rfl⟩:=h;exact Eg ho hz hp (.inl ⟨fs,hu,hc.1,hc.2⟩) h
    ·cases hg
   ·rename_i n e hu;split at hg
    ·rename_i hc;simp only[u8] at hg;subst hg;simp only[bu,zz0] at h;obtain ⟨zs',h,rfl⟩:=h;exact Eg ho hz hp (.inr ⟨n,e,hu,hc.1,hc.2.1,hc.2.2⟩) h
    ·cases hg
   ·cases hg
  ·cases hg
 -- buildSlice
 ·rename_i t len parts ho;split at hg
  ·rename_i e hu;split at hg
   ·rename_i ps hp;split at hg
    ·rename_i bf;obtain ⟨rfl,rfl,bf⟩:=bf;obtain ⟨ti,hti⟩:=zx4.1 bf;simp only[u8] at hg;subst hg;simp only[bu,u8] at h;subst h;exact XZ ho hu hti
    split at hg
    ·rename_i hc;obtain ⟨c1,c2,c3,lF,nc⟩:=hc;simp only[u8] at hg;subst hg;simp only[bu] at h;split at h
     ·rename_i es hes;split at h
      ·rename_i hev;simp only[u8] at h;subst h;refine XY ho hu hp c1 c2 c3 lF nc hes (fun y hy =>?_) hev.2;have:=zx6.1 hev.1 y hy;simpa using this
      ·cases h
     ·cases h
    ·cases hg
   ·cases hg
  ·cases hg
 -- extract
 ·rename_i y i ho;simp only[zz0] at hg;obtain ⟨z,hz,rfl⟩:=hg;simp only[bu] at h;split at h
  ·rename_i fs hfs;exact X4 ho hz hfs h
  ·cases h
 -- makeFunc
 ·rename_i f first caps ho
  split at hg
  case isFalse=>cases hg
  rename_i hlt;split at hg
  ·rename_i hfirst;simp only[zz0] at hg;obtain ⟨ys,hys,rfl⟩:=hg;simp only[bu] at h;split at h
   ·rename_i hv;simp only[u8] at h;subst h;have hf:first = #[]:=by simpa using hfirst
    rw[hf] at ho;refine Yg hlt ho hys (fun y hy =>?_);have:=zx6.1 hv (al A y) (zy7.2 ⟨y,hy,rfl⟩);exact this
   ·cases h
  ·split at hg
   case isFalse=>cases hg
   rename_i hcaps;simp only[zz0] at hg;obtain ⟨ys,hys,rfl⟩:=hg;simp only[bu] at h;split at h
   ·rename_i hv;simp only[u8] at h;subst h;have hf:caps = #[]:=by simpa using hcaps
    rw[hf] at ho;refine Yh ho hys (fun y hy =>?_);have:=zx6.1 hv (al A y) (zy7.2 ⟨y,hy,rfl⟩);exact this
   ·cases h
 -- alloc
 ·simp only[zz0] at hg;obtain ⟨z,_,rfl⟩:=hg;simp[bu] at h
 -- box
 ·simp only[zz0] at hg;obtain ⟨z,_,rfl⟩:=hg;simp[bu] at h
 -- store
 ·split at hg
  ·split at hg
   ·simp only[u8] at hg;subst hg;simp[bu] at h
   ·cases hg
  ·cases hg
 -- call
 ·split at hg
  ·simp only[zz0] at hg;obtain ⟨z,_,rfl⟩:=hg;simp[bu] at h
  ·simp only[zz0] at hg;obtain ⟨z,_,rfl⟩:=hg;simp[bu] at h
 ·split at hg
  ·simp only[u8] at hg;subst hg;simp[bu] at h
  ·cases hg
 -- len
 ·rename_i args tys ho;split at hg
  ·rename_i y ty hargs htys;have ho':o.op=.call { callee:=.builtin .len,args := #[y],argTypes := #[ty] } :=by
    rw[ho];have e1:args = #[y]:=by apply Array.ext';simpa using hargs
    have e2:tys = #[ty]:=by apply Array.ext';simpa using htys
    rw[e1,e2]
   split at hg
   ·rename_i e hu;simp only[zz0] at hg;obtain ⟨y',hy,rfl⟩:=hg;simp only[bu] at h;split at h
    ·rename_i sz es hes;simp only[u8] at h;subst h;refine rl ho' hu (.inl ⟨e,rfl⟩) hy (fun a w D E hs v hv =>?_);rw[hes] at hv;obtain ⟨ad,cap,e1,e2,e3,_⟩:=oV hv;exact ⟨zv9 e2 e3,fun _=>⟨ad,cap,e1⟩,fun e=>by cases e⟩
    ·rename_i sz hes;simp only[u8] at h;subst h;refine rl (n:=0) ho' hu (.inl ⟨e,rfl⟩) hy (fun a w D E hs v hv =>?_);rw[hes] at hv;obtain ⟨cs,q1,q2⟩:=hv;simp only[ao] at q2;exact ⟨by simp[maxLen],fun _=>⟨none,0,by simpa[bI,I.isAgg,q2] using q1.symm⟩,fun e=>by cases e⟩
    ·rename_i sz hes;simp only[u8] at h;subst h;refine rl (n:=0) ho' hu (.inl ⟨e,rfl⟩) hy (fun a w D E hs v hv =>?_);rw[hes] at hv;obtain ⟨cs,q1,q2⟩:=hv;simp only[ao] at q2;obtain ⟨ad,q2⟩:=q2;exact ⟨by simp[maxLen],fun _=>⟨ad,0,by simpa[bI,I.isAgg,q2] using q1.symm⟩,fun e=>by cases e⟩
    ·rename_i m l hm;split at h
     ·rename_i T sz es hes;split at h
      ·rename_i hl;subst hl;simp only[u8] at h;subst h;refine rl ho' hu (.inl ⟨e,rfl⟩) hy (fun a w D E hs v hv =>?_);rw[hm] at hv;rcases hs.own hes hv with ⟨rfl,_,rfl⟩ | ⟨b,cap,cs,pre,rest,_,rfl,_,_,_,_,_,k8,k9,_⟩
       ·exact ⟨by simp[maxLen],fun _=>⟨none,0,rfl⟩,fun e=>by cases e⟩
       ·exact ⟨zv9 k8 k9,fun _=>⟨_,_,rfl⟩,fun e=>by cases e⟩
      ·cases h
     ·cases h
    ·rename_i n p sz lo k hm;simp only[u8] at h;subst h;refine rl ho' hu (.inl ⟨e,rfl⟩) hy (fun a w D E hs v hv =>?_);rw[hm] at hv;obtain ⟨cs,q1,q2⟩:=hv;simp only[ao] at q2;obtain ⟨b,bh,off,l,_,_,_,q2,q3,q4,_⟩:=q2;exact ⟨by omega,fun _=>⟨_,_,by simpa[bI,I.isAgg,q2] using q1.symm⟩,fun e=>by cases e⟩
    ·cases h
   ·rename_i hu;simp only[zz0] at hg;obtain ⟨y',hy,rfl⟩:=hg;simp only[bu] at h;split at h
    ·rename_i s hs';simp only[u8] at h;subst h;refine rl ho' hu (.inr rfl) hy (fun a w D E hs v hv =>?_);rw[hs'] at hv;obtain ⟨e1,e2⟩:=oW hv;exact ⟨e2,(fun e=>by obtain ⟨_,e⟩:=e;cases e),fun _=>⟨s,e1,rfl⟩⟩
    ·cases h
   ·cases hg
  ·cases hg
 -- append
 ·split at hg
  ·split at hg
   ·split at hg
    ·simp only[zz0] at hg;obtain ⟨z,_,rfl⟩:=hg;simp[bu] at h
    ·split at hg
     ·simp only[zz0] at hg;obtain ⟨z,_,rfl⟩:=hg;simp[bu] at h
     ·cases hg
   ·cases hg
  ·cases hg
 -- cap
 ·rename_i args tys ho;split at hg
  ·rename_i y ty hargs htys;have ho':o.op=.call { callee:=.builtin .cap,args := #[y],argTypes := #[ty] } :=by
    rw[ho];have e1:args = #[y]:=by apply Array.ext';simpa using hargs
    have e2:tys = #[ty]:=by apply Array.ext';simpa using htys
    rw[e1,e2]
   split at hg
   ·rename_i e hu;simp only[zz0] at hg;obtain ⟨y',hy,rfl⟩:=hg;simp only[bu] at h;split at h
    ·rename_i sz hes;simp only[u8] at h;subst h;refine ye ho' hu hy (fun a w D E hs v hv =>?_);rw[hes] at hv;obtain ⟨cs,q1,q2⟩:=hv;simp only[ao] at q2;exact ⟨by simp[maxLen],_,_,by simpa[bI,I.isAgg,q2] using q1.symm⟩
    ·rename_i sz hes;simp only[u8] at h;subst h;refine ye ho' hu hy (fun a w D E hs v hv =>?_);rw[hes] at hv;obtain ⟨cs,q1,q2⟩:=hv;simp only[ao] at q2;obtain ⟨ad,q2⟩:=q2;exact ⟨by simp[maxLen],_,_,by simpa[bI,I.isAgg,q2] using q1.symm⟩
    ·rename_i n p sz lo k hm;split at h
     ·rename_i fs hfs;simp only[u8] at h;subst h;refine ye ho' hu hy (fun a w D E hs v hv =>?_);rw[hm] at hv;obtain ⟨_,b,cs,T,off,c1,c2,c3,_,_,_,_,_,_,_,_,_,_,_,q1,q2⟩:=hs.view hv hfs;exact ⟨by omega,_,_,q2⟩
     ·cases h
    ·cases h
   ·cases hg
  ·cases hg
 -- clear
 ·split at hg
  ·split at hg
   ·simp only[zz0] at hg;obtain ⟨z,_,rfl⟩:=hg;simp[bu] at h
   ·cases hg
  ·cases hg
 -- copy
 ·split at hg
  ·split at hg
   ·split at hg
    ·simp only[u8] at hg;subst hg;simp[bu] at h
    ·cases hg
   ·cases hg
  ·cases hg
 -- delete
 ·split at hg
  ·split at hg
   ·simp only[zz0] at hg;obtain ⟨z,_,rfl⟩:=hg;simp[bu] at h
   ·cases hg
  ·cases hg
 -- max
 ·rename_i args _ ho;split at hg
  ·rename_i x y hargs;split at hg
   ·rename_i x' y' U ab;simp only[u8] at hg;subst hg;simp only[bu] at h;have e1:args = #[x,y]:=by apply Array.ext';simpa using hargs
    rw[e1] at ho;exact Yi ho U ab h
   ·cases hg
  ·cases hg
 ·cases hg
theorem ga.append{α β:Type}{R:α→β→Prop} : ∀ {xs:List α} {ys:List β} {xs':List α} {ys':List β},ga R xs ys→ga R xs' ys'→ga R (xs++xs') (ys++ys')
 |_,_,_,_,.nil,h=>h
 |_,_,_,_,.cons U ab,h=>.cons U (ab.append h)
theorem tS{w:World}{D:aX}{E:bj} : ∀ {xs:List I} {vs:List Value},aO w D E xs vs→ga (bl w D E) xs vs
 | [],vs,h=>by simp only[aO] at h;subst h;exact .nil
 |x::xs,vs,h=>by
  simp only[aO] at h;obtain ⟨v,rest,cs,rfl,U,ab,af⟩:=h;exact .cons (ku U ab) (tS af)
theorem LC {P : Program} {f : FuncId} (h : fq P f = true) : ∃ fn, P.funcs[f]? = some fn ∧ ¬ fn.name = "runtime.NumGoroutine" ∧ ¬ fn.body = none := by
 unfold fq at h;rw[zz1] at h
 replace h:=h.2
 cases hf:P.funcs[f]? with
 |none=>simp[hf] at h
 |some fn =>
  simp only[hf,Option.any_some,zz1,bne_iff_ne,ne_eq] at h;refine ⟨fn,rfl,by simpa using h.1,?_⟩;cases hb:fn.body <;>simp_all
theorem Cm{P:Program}{f:FuncId}(h:fq P f=true):f<1000000:=by
 unfold fq at h;rw[zz1] at h;simpa[Nat.blt_eq] using h.1
theorem oU{P:Program}{w:World}{f:FuncId}{args:Array Value}(h:fq P f=true):(callFunc f args).run P w=.ok (.enter f args) w:=by
 obtain ⟨fn,U,ab,af⟩:=LC h;simp[callFunc,U,ab,af]
theorem bg.kZ{A:ai}{a:Act}{w:World}{D:aX}{E:bj}(h:bg c A a w D E){n:Nat}{e:bO}{b:Nat}(he:E n=some e)(hb:e.aP=some b):c.fo b:=by
 have:=h.bP n;unfold cS at this;split at this
 ·simp[this] at he
 ·obtain ⟨b',cs,T,U,ab,_⟩:=this;rw[U,u8] at he;subst he;simp only[bO.aP,u8] at hb;exact hb▸ab
 ·obtain ⟨aP,U,ab,af⟩:=this;rw[U,u8] at he;subst he;split at af
  ·cases hb
  ·obtain ⟨cs,pre,rest,ar,_⟩:=af;simp only[bO.aP,u8] at hb;exact hb▸ar
 ·obtain ⟨b',U,ab,_⟩:=this;rw[U,u8] at he;subst he;simp only[bO.aP,u8] at hb;exact hb▸ab
 ·obtain ⟨b',es,ck,U,ab,_⟩:=this;rw[U,u8] at he;subst he;simp only[bO.aP,u8] at hb;exact hb▸ab
 ·obtain ⟨b',bb,es,ck,si,se,la,U,ab,_⟩:=this;rw[U,u8] at he;subst he;simp only[bO.aP,u8] at hb;exact hb▸ab
 ·obtain ⟨aP,U,ab,af⟩:=this;rw[U,u8] at he;subst he;split at af
  ·cases hb
  ·obtain ⟨cs,m,ar,_⟩:=af;simp only[bO.aP,u8] at hb;exact hb▸ar
theorem bg.s7{A:ai}{a:Act}{w:World}{D:aX}{E:bj}(h:bg c A a w D E):iD c.P w (cI E) :=
 h.eY.1.YN h.dK (fun _ hb=>hb) fun _ ⟨_,_,U,ab⟩=>h.kZ U ab
theorem bg.yA{A:ai}{a:Act}{w:World}{D:aX}{E:bj}(h:bg c A a w D E):iD c.P w (fun _=>False):=h.s7.vq fun _ h=>h.elim
theorem bg.ry{A:ai}{a:Act}{w:World}{D:aX}{E:bj}(h:bg c A a w D E){ρ:List (Nat×Nat)}{os:List (Nat×ak)} : iD c.P w (cI (ay ρ os E)):=h.s7.vq fun b ⟨n,e,U,ab⟩=>by
 simp only[ay] at U;split at U
 ·exact ⟨_,e,U,ab⟩
 ·cases U
theorem bp.acC{f:FuncId}{avs cargs:List I}{r:I}{vs:List Value}{a:Act}{w:World}{D:aX}{E:bj}(hs:bg c A a w D E)(h:bp c.P f cargs r)(hf:r.flat=true)(hc:bZ true A avs=some cargs)(hv:ga (bl w D E) avs vs) :
  Calls c.P f vs.toArray w fun e w'=>∃ v D',e=.returned v∧bg c A a w' D' E∧bl w' D' E r v:=by
 have hw:iZ true A D E (fun b _=>b<w.heap.size):=by
  refine ⟨fun b o ah=>hs.aK b o ah,fun n T sz es b cap hn ay o _=>hs.gN ay rfl,fun _ n x b bh hn ay o _=>hs.gN ay rfl,fun _ n ks vs b hn ay=>hs.gN ay rfl⟩
 have hrv:=nj (E':=E0) hs (fun _ _ h=>h) hw avs cargs vs (mH _ _ hv (sF hc)) hc;refine (h.2 w _ vs hs.yA (fun _ _ ah=>ah) hrv).mono fun e w' ⟨v,D',he,U,ab,af,ar⟩=>⟨v,D,he,?_,bl.flat hf U⟩
 exact hs.grow ab (fun _ _ ah=>ah) (fun _ _ ah _=>ah) (fun b o ah=>Nat.lt_of_lt_of_le (hs.aK b o ah) ab.size)
theorem bp.acE{f:FuncId}{avs cargs:List I}{r:I}{vs:List Value}{a:Act}{w:World}{D:aX}{E:bj}(hs:bg c A a w D E)(h:bp c.P f cargs r)(hc:bZ false A avs=some cargs)(hv:ga (bl w D E) avs vs) :
  Calls c.P f vs.toArray w fun e w'=>∃ v D',e=.returned v∧bg c A a w' D' E∧bl w' D' E r v:=by
 obtain ⟨hs1,hw⟩:=hs.qm;have hrv:=nj (E':=E0) hs (fun _ _ h=>h) hw avs cargs vs (mH _ _ hv (sF hc)) hc;refine (h.2 w _ vs hs.yA hs1.aK hrv).mono fun e w' ⟨v,D',he,U,ab,af,ar⟩=>⟨v,fun b o=>qj A D E b o∨(w.heap.size≤b∧D' b o),he,?_,?_⟩
 ·refine hs1.grow ab (fun _ _ ah=>.inl ah) ?_ ?_
  ·rintro b o (ah | ⟨hle,_⟩) hlt
   ·exact ah
   ·omega
  ·rintro b o (ah | ⟨_,ah⟩)
   ·exact Nat.lt_of_lt_of_le (hs1.aK b o ah) ab.size
   ·exact af b o ah
 ·refine bl.later (E:=E0) ⟨fun b o ah =>?_,fun _ _ _ _ h=>h,fun n b bh hn=>by simp[E0] at hn,fun n aP l hn=>by simp[E0] at hn,fun n b hn=>by simp[E0] at hn,fun n b hn=>by simp[E0] at hn,fun _ _ _ _ h=>h⟩ U;rcases Nat.lt_or_ge b w.heap.size with hlt | hge
  ·exact .inl (ar b o ah hlt)
  ·exact .inr ⟨hge,ah⟩
theorem E7(p:Nat→Bool)(os:List (Nat×ak))(n:Nat):aj (os.filter fun q=>p q.1) n=if p n then aj os n else none:=by
 induction os with
 |nil=>simp[aj]
 |cons q os ih =>
  obtain ⟨k,v⟩:=q;simp only[zw0];by_cases hk:p k=true
  ·simp only[hk,if_true,aj,ih];by_cases hn:n=k
   ·subst hn;simp only[hk,if_true]
   ·simp only[if_neg hn]
  ·simp only[hk,zz5,if_false,ih,aj];by_cases hn:n=k
   ·subst hn;simp[hk]
   ·simp only[if_neg hn]
theorem pP(ns:List Nat)(os:List (Nat×ak))(n:Nat):aj (dY ns os) n=if ns.contains n then none else aj os n:=by
 rw[dY,E7 (fun n => !ns.contains n)];cases ns.contains n <;>rfl
theorem rB(ns:List Nat)(os:List (Nat×ak))(n:Nat):aj (kW ns os) n=if ns.contains n then aj os n else none:=E7 _ _ _
theorem ze{p:Nat→Bool} : ∀ {os:List (Nat×ak)},b8 p os→∀ k x,aj os k=some x→x.only p=true
 | [],_,k,x,hx=>by simp[aj] at hx
 |(j,v)::r,h,k,x,hx=>by
  simp only[b8] at h;simp only[aj] at hx;split at hx
  ·simp only[u8] at hx;subst hx;exact h.1
  ·exact ze h.2 k x hx
theorem Fa(ns:List Nat):∀ (ts:List (Nat×I)) (t:Nat),bC (jX ns ts) t=if (bC ts t).only (fun n => !ns.contains n) then bC ts t else .dx
 | [],t=>by simp[jX,bC,I.only]
 |(k,v)::r,t=>by
  simp only[jX,zz7,bC];by_cases h:t=k
  ·simp only[if_pos h]
  ·simp only[if_neg h];exact Fa ns r t
theorem bg.Ds{a:Act}{w:World}{D:aX}{E:bj}{ts:List (Nat×I)}{os0:List (Nat×ak)}(h:bg c (au ts os0) a w D E)(ns:List Nat)(ho:b8 (fun n => !ns.contains n) (dY ns os0)) :
  ∃ D' E',bg c (au (jX ns ts) (dY ns os0)) a w D' E'∧iZ true (au ts (kW ns os0)) D E D':=by
 have U:=h.qm.1;have hw1:=h.qm.2;obtain ⟨D1,hD1⟩:∃ D1,D1=qj (au ts os0) D E:=⟨_,rfl⟩
 rw[←hD1] at U hw1;obtain ⟨D2,hD2⟩:∃ D2:aX,D2=fun b o=>D1 b o∨(∃ n x bh,ns.contains n=true∧aj os0 n=some (.box x)∧E n=some (.aR b bh)∧o<x.size)∨∃ n ks vs,ns.contains n=true∧aj os0 n=some (.bE ks vs)∧E n=some (.bE b)∧o=0:=⟨_,rfl⟩
 obtain ⟨E2,hE2⟩:∃ E2:bj,E2=fun n=>if ns.contains n then none else E n:=⟨_,rfl⟩
 have e2:∀ n,(!ns.contains n)=true→E2 n=E n:=fun n hn=>by rw[hE2];simp at hn;simp[hn]
 have hl:ec w D1 E2 w D2 E2:=⟨fun b o ah=>by rw[hD2];exact .inl ah,fun _ _ _ _ h=>h,fun _ _ _ h=>h,fun _ aP l h=>⟨aP,l,h,zz9 _,fun _=>rfl⟩,fun _ _ h=>h,fun _ _ h=>h,fun _ _ _ _ h=>h⟩
 have kA:∀ b o,D2 b o→D1 b o∨∃ n e q,ns.contains n=true∧E n=some e∧e.aP=some b∧c.fo b∧w.heap[b]?=some q:=fun b o ah=>by
  rw[hD2] at ah;rcases ah with ah | ⟨n,x,bh,k1,k2,k3,k4⟩ | ⟨n,ks,vs,k1,k2,k3,_⟩
  ·exact .inl ah
  ·obtain ⟨b',cs,T,q1,q2,q3,_⟩:=h.box (n:=n) (x:=x) (by simpa[au] using k2);rw[k3] at q1;simp only[u8,bO.aR.injEq] at q1;obtain ⟨rfl,rfl⟩:=q1;exact .inr ⟨n,_,_,k1,k3,rfl,q2,q3⟩
  ·obtain ⟨b',es,ck,q1,q2,q3,_⟩:=h.map (n:=n) (ks:=ks) (vs:=vs) (by simpa[au] using k2);rw[k3] at q1;cases q1;exact .inr ⟨n,_,_,k1,k3,rfl,q2,q3⟩
 refine ⟨D2,E2,⟨U.sz,U.eC,fun t =>?_,U.dK,fun b o ah hm =>?_,fun b o ah =>?_,fun n =>?_,fun n m e e' b g1 g2 g3 g4 =>?_,fun n e hn =>?_,U.eL,fun b o ah=>hl.c6 b o (U.cT b o ah),U.eY,U.fA⟩,?_⟩
 ·simp only[au,Fa];have ht:=U.dO t;simp only[au] at ht;split
  ·rename_i hp;exact bl.later hl (bl.de e2 hp ht)
  ·simp[bl]
 ·rcases kA b o ah with ah | ⟨n,e,q,_,_,_,k,_⟩
  ·exact U.c6 b o ah hm
  ·exact absurd k hm
 ·rcases kA b o ah with ah | ⟨n,e,q,_,_,_,_,k⟩
  ·exact U.aK b o ah
  ·exact gu k
 ·simp only[au,pP];by_cases hn:ns.contains n=true
  ·simp only[hn,if_true,cS];rw[hE2];simp only[hn,if_true]
  ·have hnb:(!ns.contains n)=true:=by simpa using hn
   simp only[hn,zz5,if_false];have hob:=U.bP n;simp only[au] at hob;cases hx:aj os0 n with
   |none=>rw[hx] at hob;simp only[cS] at hob ⊢;rw[e2 n hnb];exact hob
   |some x =>
    have hon:=ze ho n x (by rw[pP,if_neg hn];exact hx);have nD:∀ e b,E n=some e→e.aP=some b→∀ o,D2 b o→D1 b o:=fun e b he hb o ah=>by
     rcases kA b o ah with ah | ⟨m,e',q,k1,k3,k2,_⟩
     ·exact ah
     ·have:=h.cQ n m e _ b he k3 hb k2;subst this;exact absurd k1 hn
    rw[hx] at hob;cases x with
    |box x =>
     obtain ⟨b,cs,T,k1,k2,k3,k4,k5⟩:=hob;exact ⟨b,cs,T,(e2 n hnb).trans k1,k2,k3,ao.later hl _ _ (ao.de e2 _ _ (by simpa[ak.only] using hon) k4),fun o ah=>k5 o (nD _ b k1 rfl o ah)⟩
    |bW T sz es =>
     obtain ⟨aP,k1,k2,k3⟩:=hob;refine ⟨aP,(e2 n hnb).trans k1,k2,?_⟩;cases aP with
     |none=>exact k3
     |some bc =>
      obtain ⟨b,cap⟩:=bc;obtain ⟨cs,pre,rest,q1,q2,q3,q4,q5,q6,q7,q8⟩:=k3;exact ⟨cs,pre,rest,q1,q2,q3,aU.later hl _ _ (aU.de e2 _ _ (by simpa[ak.only] using hon) q4),q5,q6,q7,fun o ah=>q8 o (nD _ b k1 rfl o ah)⟩
    |dJ T xs =>
     obtain ⟨aP,k1,k2,k3⟩:=hob;refine ⟨aP,(e2 n hnb).trans k1,k2,?_⟩;cases aP with
     |none=>exact k3
     |some bc =>
      obtain ⟨b,cap⟩:=bc;obtain ⟨cs,r,q1,q2,q3,q4,q5,q6,q7⟩:=k3;exact ⟨cs,r,q1,q2,q3,q4,q5,q6,fun o ah=>q7 o (nD _ b k1 rfl o ah)⟩
    |dI x =>
     obtain ⟨b,k1,k2,k3,k4,k5⟩:=hob;exact ⟨b,(e2 n hnb).trans k1,k2,k3,k4,fun o ah=>k5 o (nD _ b k1 rfl o ah)⟩
    |bE ks vs =>
     obtain ⟨b,es,ck,k1,k2,k3,k4,k5,k6,k7⟩:=hob;simp only[ak.only,zz1] at hon;exact ⟨b,es,ck,(e2 n hnb).trans k1,k2,k3,k4,aO.later hl _ _ (aO.de e2 _ _ hon.1 k5),aO.later hl _ _ (aO.de e2 _ _ hon.2 k6),fun o ah=>k7 o (nD _ b k1 rfl o ah)⟩
    |it ks vs left cur =>
     obtain ⟨r,b,es,ck,si,se,la,k1,k2,k3,k4,k5,k6,k7,k8,k9,k9',k10⟩:=hob;simp only[ak.only,zz1] at hon;exact ⟨r,b,es,ck,si,se,la,(e2 n hnb).trans k1,k2,k3,k4.later hl,aO.later hl _ _ (aO.de e2 _ _ hon.1 k5),aO.later hl _ _ (aO.de e2 _ _ hon.2 k6),k7,k8,k9,k9',fun o ah=>k10 o (nD _ r k1 rfl o ah)⟩
 ·have jU:∀ n e,E2 n=some e→E n=some e:=fun n e he=>by
   rw[hE2] at he;simp only at he;split at he
   ·cases he
   ·exact he
  exact h.cQ n m e e' b (jU n e g1) (jU m e' g2) g3 g4
 ·by_cases hm:ns.contains n=true
  ·left;rw[hE2];simp only[hm,if_true]
  ·rw[e2 n (by simpa using hm)];exact h.dR n e hn
 ·refine ⟨fun b o ah=>by rw[hD2];exact .inl (hw1.c6 b o ah),fun n T sz es b cap hn ay o hlt =>?_,fun _ n x b bh hn ay o hlt =>?_,fun _ n ks vs b hn ay =>?_⟩
  ·simp only[au,rB] at hn;split at hn
   ·rw[hD2];exact .inl (hw1.bW n T sz es b cap hn ay o hlt)
   ·cases hn
  ·simp only[au,rB] at hn;split at hn
   ·rename_i hk;rw[hD2];exact .inr (.inl ⟨n,x,bh,hk,hn,ay,hlt⟩)
   ·cases hn
  ·simp only[au,rB] at hn;split at hn
   ·rename_i hk;rw[hD2];exact .inr (.inr ⟨n,ks,vs,hk,hn,ay,rfl⟩)
   ·cases hn
theorem bp.acD{f:FuncId}{avs cargs:List I}{r:I}{vs:List Value}{a:Act}{w:World}{D:aX}{E:bj}{ts:List (Nat×I)}{os0:List (Nat×ak)}(hs:bg c (au ts os0) a w D E)(ns:List Nat)(ho:b8 (fun n => !ns.contains n) (dY ns os0))
  (h:bp c.P f cargs r) (hc:bZ true (au ts (kW ns os0)) avs=some cargs) (hv:ga (bl w D E) avs vs) :
  Calls c.P f vs.toArray w fun e w'=>∃ v D' E',e=.returned v∧bg c (au (jX ns ts) (dY ns os0)) a w' D' E'∧bl w' D' E' r v:=by
 obtain ⟨D1,E1,hs1,hw⟩:=hs.Ds ns ho;have hu:eA (au ts (kW ns os0)) (au ts os0):=fun n x hx=>by
  simp only[au,rB] at hx ⊢;split at hx
  ·exact hx
  ·cases hx
 have hrv:=nj (E':=E0) hs hu hw avs cargs vs (mH _ _ hv (sF hc)) hc;refine (h.2 w _ vs hs.yA hs1.aK hrv).mono fun e w' ⟨v,D',he,U,ab,af,ar⟩=>⟨v,fun b o=>D1 b o∨(w.heap.size≤b∧D' b o),E1,he,?_,?_⟩
 ·refine hs1.grow ab (fun _ _ ah=>.inl ah) ?_ ?_
  ·rintro b o (ah | ⟨hle,_⟩) hlt
   ·exact ah
   ·omega
  ·rintro b o (ah | ⟨_,ah⟩)
   ·exact Nat.lt_of_lt_of_le (hs1.aK b o ah) ab.size
   ·exact af b o ah
 ·refine bl.later (E:=E0) ⟨fun b o ah =>?_,fun _ _ _ _ h=>h,fun n b bh hn=>by simp[E0] at hn,fun n aP l hn=>by simp[E0] at hn,fun n b hn=>by simp[E0] at hn,fun n b hn=>by simp[E0] at hn,fun _ _ _ _ h=>h⟩ U;rcases Nat.lt_or_ge b w.heap.size with hlt | hge
  ·exact .inl (ar b o ah hlt)
  ·exact .inr ⟨hge,ah⟩
theorem w5{a:Act}{w:World}{D D1:aX}{E:bj}{ts:List (Nat×I)}{os0 os:List (Nat×ak)}{ρ:List (Nat×Nat)}{aR:Bool}{A0:ai}(hs:bg c (au ts os0) a w D E)(hu:eA A0 (au ts os0))(hD:∀ b o,D b o→D1 b o)(hw:iZ aR A0 D E D1) :
  ∀ (avs cargs:List I) (vs:List Value),iF aR A0 ρ os avs cargs→ga (bl w D E) avs vs→aO w D1 (ay ρ os E) cargs vs
 | [],[],vs,_,hv=>by cases hv;simp[aO]
 | [],_::_,_,h,_=>by simp[iF] at h
 |_::_,[],_,h,_=>by simp[iF] at h
 |x::xs,y::ys,vs,h,hv=>by
  cases hv with
  |cons hv hvs =>
  rename_i v vs;simp only[iF] at h;have ih:=w5 hs hu hD hw xs ys vs h.2 hvs;have hl:ec w D (ay ρ os E) w D1 (ay ρ os E):=⟨hD,fun _ _ _ _ h=>h,fun _ _ _ h=>h,fun _ aP l h=>⟨aP,l,h,zz9 _,fun _=>rfl⟩,fun _ _ h=>h,fun _ _ h=>h,fun _ _ _ _ h=>h⟩
  have U:∃ cs,bI y v cs∧ao w D1 (ay ρ os E) y cs:=by
   rcases h.1 with ⟨k1,k2,k3⟩ | k
   ·rw[k1] at hv;have ab:=bl.later hl ((bl.bd (w:=w) (D:=D) (p:=av os) (ρ:=bB ρ) (E:=ay ρ os E) (E':=E) (fun n hn=>by simp only[ay,hn,if_true]) k2).1 hv);cases y <;>simp only[bl] at ab <;>first | (simp[I.bV] at k3;done) | exact ab
   ·have ab:aO w D E [x] [v]:=mH [x] [v] (.cons hv .nil) (by
     intro z hz;simp only[zy2] at hz;subst hz;cases z <;>simp_all[br,I.bV])
    have af:=nj (E':=ay ρ os E) hs hu hw [x] [y] [v] ab (by simp[bZ,k]);simp only[aO] at af;obtain ⟨v',rest,cs,e,k1,k2,_⟩:=af;simp only[zv6] at e;obtain ⟨rfl,_⟩:=e;exact ⟨cs,k1,k2⟩
  obtain ⟨cs,k1,k2⟩:=U;simp only[aO];exact ⟨v,vs,cs,rfl,k1,k2,ih⟩
theorem eA.drop(ts:List (Nat×I))(ns:List Nat)(os0:List (Nat×ak)):eA (au ts (dY ns os0)) (au ts os0):=fun n x hx=>by
 simp only[au,pP] at hx ⊢;split at hx
 ·cases hx
 ·exact hx
theorem pk.use{run:Array Value→World→(Ending→World→Prop)→Prop}{since:World→aX→bj→Prop}{avs cargs:List I}{post:cE}{vs:List Value}{a:Act}{w:World}{D:aX}{E:bj}{ts:List (Nat×I)}{os0 os:List (Nat×ak)}{ρ:List (Nat×Nat)}
  (hs:bg c (au ts os0) a w D E) (h:pk run since cargs os post) (aR:Bool) (hmono:∀ {vs w R R'},run vs w R→(∀ e w,R e w→R' e w)→run vs w R') (hsince:(aR=true→∀ D,since w D (ay ρ os E))∧(aR=false→since w (qj (au ts os0) D E) (ay ρ os E)))
  (hg:hd ρ os os0) (ha:iF aR (au ts (dY (jg ρ os) os0)) ρ os avs cargs) (hb:∀ r os',post r os'→gJ aR ρ os os0 r os') (hv:ga (bl w D E) avs vs) :
  run vs.toArray w fun e w'=>∃ v r os' D2 E2,e=.returned v∧post r os'∧bg c (au ts (dc ρ os'++os0)) a w' D2 E2∧bl w' D2 E2 (r.bd (bB ρ)) v∧∀ m e,ay ρ os E m=some e→av os' m=true→∃ e',E2 (bB ρ m)=some e'∧e.le e':=by
 have notName:∀ n,(jg ρ os).contains n=false→∀ m,av os m=true→bB ρ m≠n:=fun n hn m hm he=>by
  obtain ⟨q,hq,rfl⟩:=yq.1 hm;have:(jg ρ os).contains n=true:=by simp only[jg,List.contains_iff_mem,zy7];exact ⟨q,hq,he⟩
  rw[this] at hn;cases hn
 have other:∀ {D:aX},bg c (au ts os0) a w D E→∀ n e b x,aj (dY (jg ρ os) os0) n=some x→E n=some e→e.aP=some b→¬ cI (ay ρ os E) b:=fun hs n e b x hx he hb ho=>by
  obtain ⟨m,e',U,ab,hb',_⟩:=hs.vc hg ho;rw[pP] at hx;split at hx
  ·cases hx
  ·rename_i hc;have:=hs.cQ n (bB ρ m) e _ b he ab hb hb';exact notName n (by simpa using hc) m U this.symm
 cases aR with
 |true =>
  obtain ⟨D1,hD1⟩:∃ D1:aX,D1=fun b o=>D b o∨(b<w.heap.size∧¬ cI (ay ρ os E) b):=⟨_,rfl⟩
  have hD:∀ b o,D b o→D1 b o:=fun b o ah=>by rw[hD1];exact .inl ah
  have hw:iZ true (au ts (dY (jg ρ os) os0)) D E D1:=by
   refine ⟨hD,fun n T sz es b cap hn ay o _ =>?_,fun _ n x b bh hn ay o _ =>?_,fun _ n ks vs b hn ay =>?_⟩
   ·rw[hD1];exact .inr ⟨hs.gN ay rfl,other hs n _ b _ hn ay rfl⟩
   ·rw[hD1];exact .inr ⟨hs.gN ay rfl,other hs n _ b _ hn ay rfl⟩
   ·rw[hD1];exact .inr ⟨hs.gN ay rfl,other hs n _ b _ hn ay rfl⟩
  have hrv:=w5 hs (eA.drop ts _ os0) hD hw avs cargs vs ha hv;refine hmono (h w D1 (ay ρ os E) vs (hsince.1 rfl _) (fun b o ah=>by
   rw[hD1] at ah;rcases ah with ah | ah
   ·exact hs.aK b o ah
   ·exact ah.1) (hs.Eu hg hD fun b o ah ho=>by
    rw[hD1] at ah;rcases ah with ah | ah
    ·exact ah
    ·exact absurd ho ah.2) hrv) ?_
  rintro e w' ⟨v,D',E',r,os',he,hp,U,ab,af,ar,h5,h6,h7,h8⟩;obtain ⟨D2,E2,k1,k2⟩:=hs.gL hg hD (fun h=>by cases h) (hb r os' hp) U ab af h5 ar h8 h6 h7;exact ⟨v,r,os',D2,E2,he,hp,k1,k2⟩
 |false =>
  obtain ⟨hs1,hw⟩:=hs.qm;have hw':iZ false (au ts (dY (jg ρ os) os0)) D E (qj (au ts os0) D E):=⟨hw.c6,fun n T sz es b cap hn ay o hlt=>hw.bW n T sz es b cap (eA.drop ts _ os0 n _ hn) ay o hlt,(fun hb=>by cases hb),fun hb=>by cases hb⟩
  have hrv:=w5 hs (eA.drop ts _ os0) hw.c6 hw' avs cargs vs ha hv;refine hmono (h w _ (ay ρ os E) vs (hsince.2 rfl) hs1.aK (hs1.Eu hg (fun _ _ h=>h) fun b o ah _=>ah) hrv) ?_;rintro e w' ⟨v,D',E',r,os',he,hp,U,ab,af,ar,h5,h6,h7,h8⟩;obtain ⟨D2,E2,k1,k2⟩:=hs1.gL hg (fun _ _ h=>h) (fun _ _ _ h=>h) (hb r os' hp) U ab af h5 ar h8 h6 h7;exact ⟨v,r,os',D2,E2,he,hp,k1,k2⟩
theorem bg.since{A:ai}{a:Act}{w:World}{D:aX}{E E':bj}(h:bg c A a w D E)(ay:∀ n,E' n=E n∨E' n=none):AH c w D E' :=
 ⟨h.dK,h.cT,h.c6,fun n e hn=>by
  rcases ay n with k | k
  ·rw[k];exact h.dR n e hn
  ·exact .inl k,h.fA,h.s7.vq fun b ⟨n,e,U,ab⟩=>by
   rcases ay n with k | k
   ·rw[k] at U;exact ⟨n,e,U,ab⟩
   ·rw[k] at U;cases U⟩
theorem nk(c:c4)(f:FuncId):c.aY.fn f:=by unfold c4.aY;split <;>trivial
theorem xC(c:c4):c.aY.depth.isSome=true→1≤9:=fun _=>by omega
theorem mc{a:Act}{w:World} : ∀ f,o.about c.P w a.eval=some f→c.aY.fn f:=fun f _=>nk c f
theorem mI{g:bU}(hg:dm c.P o=some g)(r:Option Nat)(ρ:Operand→Value):o.semAt r ρ=execOp ρ o:=by
 cases r with
 |none=>rfl
 |some l =>
  refine Oper.semAt_some l ρ o fun cl h =>?_;unfold dm at hg;rw[h] at hg;simp at hg
theorem Cn{f:FuncId}{args:Array Value}{w:World}{R:Ending→World→Prop}(h:Calls c.P f args w R):CallsIn c.aY (9-1) c.P f args w R:=by
 have U:CallsIn Fence.wide (9-1) c.P f args w R:=callsIn_wide.2 h;unfold c4.aY;split
 ·exact U
 ·exact U
theorem uB.mono{P:Program}{v:Value}{vs:Array Value}{w:World}{R R':Ending→World→Prop}(h:uB P v vs w R)(hr:∀ e w,R e w→R' e w):uB P v vs w R':=by
 obtain ⟨l,U,fn,tmps,assign,body,ab,af⟩:=h;exact ⟨l,U,fn,tmps,assign,body,ab,af.mono hr⟩
theorem abA{l:Nat}{f:FuncId}{tmps:Array Value}{assign body:Code}{w:World}{R:Ending→World→Prop}(h:RoundIn Fence.wide 9 c.P l f tmps assign body w R):RoundIn c.aY (9-1) c.P l f tmps assign body w R:=by
 have U:RoundIn Fence.wide (9-1) c.P l f tmps assign body w R:=⟨h.1,fun cc cs _=>h.2 cc cs (room_wide _)⟩
 unfold c4.aY;split
 ·exact U
 ·exact U
theorem iW.wp{B:ai}{g:bU}(hg:dm c.P o=some g)(h:iW c A o B){a:Act}{w:World}{K:Act→World→Prop}{Q:Exit→Act→World→Prop}(hs:cd c A a w)(hK:∀ a w,cd c B a w→K a w):o.wpIn c.aY 9 c.P a w K Q:=by
 obtain ⟨D,E,hs⟩:=hs;obtain ⟨w',h⟩:=h a w D E hs;refine ⟨mc,?_⟩;rw[mI hg];rcases h with ⟨v,U,ab⟩ | ⟨U,ab⟩
 ·rw[U];exact hK _ _ ab
 ·rw[U];exact hK _ _ ab
theorem xt{dr:Bool}{K:ai→Prop}{f:FuncId}{avs:List I}{a1 a2:Option (List I)}{vs:List Value}{dst:Option Nat}{rest:List aw}{a:Act}{w:World}{Kw:Act→World→Prop}{Q:Exit→Act→World→Prop}{g:bU}(hg:dm c.P o=some g)(U:bZ true A avs=a1)(ab:bZ false A avs=a2)
  (hs:∀ D E,bg c A a w D E→ga (bl w D E) avs vs) (hsim:cd c A a w) (hwp:aW c.P c.Y dr K (.call f avs a1 a2 dst rest A)) (ah:o.dst=dst) (hdn:∀ k,dst=some k→k<c.n)
  (hrun:fq c.P f=true→(execOp a.eval o).run c.P w=.ok (.enter f vs.toArray) w)
  (hK:∀ B a' w',aW c.P c.Y dr K (aC rest B)→cd c B a' w'→Kw a' w'):o.wpIn c.aY 9 c.P a w Kw Q:=by
 obtain ⟨D,E,hsw⟩:=hsim;have qv:∀ {R:Ending→World→Prop},fq c.P f=true→Calls c.P f vs.toArray w R→(∀ e w',R e w'→∃ v,e=.returned v∧Kw (a.put o.dst v) w')→o.wpIn c.aY 9 c.P a w Kw Q:=fun {R} hc hcl hR=>by
  refine ⟨mc,?_⟩;rw[mI hg,hrun hc,Oper.uponIn_enter];refine ⟨xC c,Cn (hcl.mono fun e w' he =>?_)⟩;obtain ⟨v,rfl,hv⟩:=hR e w' he;exact hv
 cases hwp with
 |flat r hspec hflat hrest =>
  refine qv hspec.1 (hspec.acC hsw hflat U (hs D E hsw)) ?_;rintro e w' ⟨v,D',he,hs',hv⟩;refine ⟨v,he,?_⟩;rw[ah];exact hK _ _ _ hrest ⟨D',E,hs'.a8 hdn hv⟩
 |lead r hspec hrest =>
  refine qv hspec.1 (hspec.acE hsw ab (hs D E hsw)) ?_;rintro e w' ⟨v,D',he,hs',hv⟩;refine ⟨v,he,?_⟩;rw[ah];exact hK _ _ _ hrest ⟨D',E,hs'.a8 hdn hv⟩
 |jv ns r hdr hspec hf ho hrest =>
  refine qv hspec.1 (hspec.acD hsw ns ho hf (hs D E hsw)) ?_;rintro e w' ⟨v,D',E',he,hs',hv⟩;refine ⟨v,he,?_⟩;rw[ah];exact hK _ _ _ hrest ⟨D',E',hs'.a8 hdn hv⟩
 |bP aR ρ os cargs post hdr hspec hgv ha hb hrest =>
  refine qv hspec.1 (hspec.2.use hsw aR (fun h=>h.mono) ⟨fun _ _=>hsw.ry,fun _=>hsw.ry⟩ hgv ha hb (hs D E hsw)) ?_;rintro e w' ⟨v,r,os',D2,E2,he,hp,hs',hv,_⟩;refine ⟨v,he,?_⟩;rw[ah];exact hK _ _ _ (hrest r os' hp) ⟨D2,E2,hs'.a8 hdn hv⟩
theorem LF{dr:Bool}{K:ai→Prop}{v:Value}{avs:List I}{vs:List Value}{dst:Option Nat}{rest:List aw}{a:Act}{w:World}{Kw:Act→World→Prop}{Q:Exit→Act→World→Prop}{g:bU}(hg:dm c.P o=some g)
  (hs:∀ D E,bg c A a w D E→ga (bl w D E) avs vs) (hsim:cd c A a w) (hwp:aW c.P c.Y dr K (.mg v avs dst rest A)) (ah:o.dst=dst) (hdn:∀ k,dst=some k→k<c.n)
  (hrun:∀ l,v=.func (.yield l) #[] #[]→(execOp a.eval o).run c.P w=(Instr.yield l vs.toArray).run c.P w)
  (hK:∀ B a' w',aW c.P c.Y dr K (aC rest B)→cd c B a' w'→Kw a' w'):o.wpIn c.aY 9 c.P a w Kw Q:=by
 obtain ⟨D,E,hsw⟩:=hsim;cases hwp with
 |wJ os cargs post hdr hY hgv ha hb hrest =>
  have hyr:=(hsw.eY.2 _ _ _ _ hY).use (ρ:=[]) hsw false (fun h=>h.mono) ⟨(fun h=>by cases h),fun _=>hsw.qm.1.since (fun n=>by simp only[ay,bB];split <;>simp)⟩ hgv ha hb (hs D E hsw);obtain ⟨l,rfl,fn,tmps,assign,body,ab,af⟩:=hyr;refine ⟨mc,?_⟩;rw[mI hg,hrun l rfl,ab,Oper.uponIn_round];refine ⟨xC c,abA (af.mono fun e w' he =>?_)⟩;obtain ⟨v,r,os',D2,E2,rfl,hp,hs',hv,_⟩:=he;rw[ah];exact hK _ _ _ (hrest r os' hp) ⟨D2,E2,hs'.a8 hdn hv⟩
end
section
variable {c:c4} {A:ai} {o:Oper}
theorem pA{P:Program}{n:Nat}{bo:Array Oper}{g:aw}(h:nd P n bo o=some g):dm P o=some g.op∧g.dst=o.dst∧(∀ k,o.dst=some k→k<n) ∧
  ((o.guard=none∧g.guard=none)∨∃ j b t,o.guard=some (j,b)∧(bo[j]?).bind (·.dst)=some t∧g.guard=some (t,b)):=by
 unfold nd at h;split at h
 ·cases h
 rename_i g' hg';split at h
 case isFalse=>cases h
 rename_i ah;have hdst:∀ k,o.dst=some k→k<n:=by
  intro k hk;rw[hk] at ah;simpa[CT] using ah
 split at h
 ·rename_i hgd;simp only[u8] at h;subst h;exact ⟨hg',rfl,hdst,.inl ⟨hgd,rfl⟩⟩
 ·rename_i j b hgd;split at h
  ·rename_i t ht;simp only[u8] at h;subst h;exact ⟨hg',rfl,hdst,.inr ⟨j,b,t,hgd,ht,rfl⟩⟩
  ·cases h
theorem Ed{dr:Bool}{K:ai→Prop}{op:bU}{dst:Option Nat}{rest:List aw}{a:Act}{w:World}{Kw:Act→World→Prop}{Q:Exit→Act→World→Prop}(hop:dm c.P o=some op)(ah:o.dst=dst)(hdn:∀ k,dst=some k→k<c.n)
  (hsim:cd c A a w) (hK:∀ B a' w',aW c.P c.Y dr K (aC rest B)→cd c B a' w'→Kw a' w') (h:aW c.P c.Y dr K (cX (bu A op) fun v=>aC rest (A.a8 dst v))):o.wpIn c.aY 9 c.P a w Kw Q:=by
 cases hv:bu A op with
 |some v =>
  rw[hv] at h;exact ((Ga hop hv).does (by rw[ah];exact hdn)).wp hop hsim (fun a' w' hs=>by rw[ah] at hs;exact hK _ a' w' h hs)
 |none=>rw[hv] at h;cases h
theorem Xz{dr:Bool}{K:ai→Prop}{dst:Option Nat}{rest:List aw}{a:Act}{w:World}{Kw:Act→World→Prop}{Q:Exit→Act→World→Prop}{z:I}(hop:dm c.P o=some (.alloc z))(ah:o.dst=dst)(hdn:∀ k,dst=some k→k<c.n)
  (hwp:aW c.P c.Y dr K (bt A dst (.alloc z) rest (aC rest))) (hsim:cd c A a w) (hK:∀ B a' w',aW c.P c.Y dr K (aC rest B)→cd c B a' w'→Kw a' w'):o.wpIn c.aY 9 c.P a w Kw Q:=by
 have hop0:=hop;simp only[bt] at hwp;split at hwp
 case h_2=>cases hwp
 rename_i d;split at hwp
 case h_2=>cases hwp
 rename_i hf;unfold dm at hop;split at hop <;>try (first | (simp at hop;done) | ((repeat' split at hop) <;>simp at hop;done))
 rename_i t ho;simp only[zz0,bU.alloc.injEq] at hop;obtain ⟨z',hz,rfl⟩:=hop;exact (OC ho hz ah (hdn d rfl) hf).wp hop0 hsim (fun a' w' hs=>hK _ a' w' hwp hs)
theorem XC{dr:Bool}{K:ai→Prop}{dst:Option Nat}{rest:List aw}{a:Act}{w:World}{Kw:Act→World→Prop}{Q:Exit→Act→World→Prop}{x:aV}(hop:dm c.P o=some (.box x))(ah:o.dst=dst)(hdn:∀ k,dst=some k→k<c.n)
  (hwp:aW c.P c.Y dr K (bt A dst (.box x) rest (aC rest))) (hsim:cd c A a w) (hK:∀ B a' w',aW c.P c.Y dr K (aC rest B)→cd c B a' w'→Kw a' w'):o.wpIn c.aY 9 c.P a w Kw Q:=by
 have hop0:=hop;simp only[bt] at hwp;split at hwp
 case h_2=>cases hwp
 rename_i d;split at hwp
 case h_2=>cases hwp
 rename_i hf;split at hwp
 case isFalse=>cases hwp
 rename_i hv;unfold dm at hop;split at hop <;>try (first | (simp at hop;done) | ((repeat' split at hop) <;>simp at hop;done))
 rename_i t y ho;simp only[zz0,bU.box.injEq] at hop;obtain ⟨z',hz,rfl⟩:=hop;exact (OH ho hz hv ah (hdn d rfl) hf).wp hop0 hsim (fun a' w' hs=>hK _ a' w' hwp hs)
theorem XO{dr:Bool}{K:ai→Prop}{dst:Option Nat}{rest:List aw}{a:Act}{w:World}{Kw:Act→World→Prop}{Q:Exit→Act→World→Prop}{s:Option Nat}{x v:aV}(hop:dm c.P o=some (.bm s x v))(ah:o.dst=dst)(hdn:∀ k,dst=some k→k<c.n)
  (hwp:aW c.P c.Y dr K (bt A dst (.bm s x v) rest (aC rest))) (hsim:cd c A a w) (hK:∀ B a' w',aW c.P c.Y dr K (aC rest B)→cd c B a' w'→Kw a' w'):o.wpIn c.aY 9 c.P a w Kw Q:=by
 have hop0:=hop;simp only[bt] at hwp;split at hwp
 case h_2=>cases hwp
 split at hwp
 case h_2=>cases hwp
 rename_i n p hp;split at hwp
 case h_2=>cases hwp
 rename_i b hb;split at hwp
 case h_2=>cases hwp
 rename_i old hat;split at hwp
 case isFalse=>cases hwp
 rename_i hok;unfold dm at hop;split at hop <;>try (first | (simp at hop;done) | ((repeat' split at hop) <;>simp at hop;done))
 rename_i t y z ho;split at hop
 case h_2=>cases hop
 rename_i s' x' v' U ab af;split at hop
 case isFalse=>cases hop
 rename_i hk;simp only[u8,bU.bm.injEq] at hop;obtain ⟨rfl,rfl,rfl⟩:=hop;exact (OO ho U hk ab af hp hb hat hok.1 hok.2.1 hok.2.2 ah).wp hop0 hsim (fun a' w' hs=>hK _ a' w' hwp hs)
theorem XD{dr:Bool}{K:ai→Prop}{dst:Option Nat}{rest:List aw}{a:Act}{w:World}{Kw:Act→World→Prop}{Q:Exit→Act→World→Prop}{f:FuncId}{args:List aV}(hop:dm c.P o=some (.call f args))(ah:o.dst=dst)(hdn:∀ k,dst=some k→k<c.n)
  (hwp:aW c.P c.Y dr K (bt A dst (.call f args) rest (aC rest))) (hsim:cd c A a w) (hK:∀ B a' w',aW c.P c.Y dr K (aC rest B)→cd c B a' w'→Kw a' w'):o.wpIn c.aY 9 c.P a w Kw Q:=by
 have hop0:=hop;simp only[bt] at hwp;unfold dm at hop;split at hop <;>try (first | (simp at hop;done) | ((repeat' split at hop) <;>simp at hop;done))
 rename_i f' xs ts ho;split at hop
 case isFalse=>simp at hop
 simp only[zz0,bU.call.injEq] at hop;obtain ⟨ys,hys,rfl,rfl⟩:=hop;refine xt (vs:=xs.toList.map a.eval) hop0 rfl rfl (fun D E hs=>me hs xs.toList ts.toList ys hys) hsim hwp ah hdn (fun hc =>?_) hK;have e:xs.map a.eval=(xs.toList.map a.eval).toArray:=by apply Array.ext';simp
 simp only[execOp,ho,resolve,Act.eval,Deferred.ofValue,Sem.run_bind,Sem.run_pure,Result.andThen_ok,invoke,Array.append_empty,Array.empty_append,oU hc];rw[←e]
theorem XP{dr:Bool}{K:ai→Prop}{dst:Option Nat}{rest:List aw}{a:Act}{w:World}{Kw:Act→World→Prop}{Q:Exit→Act→World→Prop}{f:FuncId}{args:List aV}(hop:dm c.P o=some (.lD f args))(ah:o.dst=dst)(hdn:∀ k,dst=some k→k<c.n)
  (hwp:aW c.P c.Y dr K (bt A dst (.lD f args) rest (aC rest))) (hsim:cd c A a w) (hK:∀ B a' w',aW c.P c.Y dr K (aC rest B)→cd c B a' w'→Kw a' w'):o.wpIn c.aY 9 c.P a w Kw Q:=by
 have hop0:=hop;simp only[bt] at hwp;unfold dm at hop;split at hop <;>try (first | (simp at hop;done) | ((repeat' split at hop) <;>simp at hop;done))
 rename_i f' xs ts ho;split at hop
 case isTrue=>simp at hop
 simp only[zz0,bU.lD.injEq] at hop;obtain ⟨ys,hys,rfl,rfl⟩:=hop;obtain ⟨D,E,hs⟩:=hsim;cases hwp with
 |ext r hdr hx hw =>
  obtain ⟨v,g1,g2⟩:=hx c a w D E (xs.toList.map a.eval) rfl hs (me hs xs.toList ts.toList ys hys);have e:xs.map a.eval=(xs.toList.map a.eval).toArray:=by apply Array.ext';simp
  have hrun:(execOp a.eval o).run c.P w=.ok (.value v) w:=by
   simp only[execOp,ho,resolve,Act.eval,Deferred.ofValue,Sem.run_bind,Sem.run_pure,Result.andThen_ok,invoke,Array.append_empty,Array.empty_append];rw[←e] at g1;exact g1
  refine ⟨mc,?_⟩;rw[mI hop0,hrun,Oper.uponIn_value];exact hK _ _ _ hw ⟨D,E,by rw[ah];exact hs.a8 hdn g2⟩
theorem XI{dr:Bool}{K:ai→Prop}{dst:Option Nat}{rest:List aw}{a:Act}{w:World}{Kw:Act→World→Prop}{Q:Exit→Act→World→Prop} (hop:dm c.P o=some (.jB))(ah:o.dst=dst)(hdn:∀ k,dst=some k→k<c.n)
  (hwp:aW c.P c.Y dr K (bt A dst (.jB) rest (aC rest))) (hsim:cd c A a w) (hK:∀ B a' w',aW c.P c.Y dr K (aC rest B)→cd c B a' w'→Kw a' w'):o.wpIn c.aY 9 c.P a w Kw Q:=by
 have hop0:=hop;simp only[bt] at hwp;split at hwp
 case h_2=>cases hwp
 rename_i d;split at hwp
 case h_2=>cases hwp
 rename_i hf;unfold dm at hop;split at hop <;>try (first | (simp at hop;done) | ((repeat' split at hop) <;>simp at hop;done))
 rename_i t ho;exact (OL ho ah (hdn d rfl) hf).wp hop0 hsim (fun a' w' hs=>hK _ a' w' hwp hs)
theorem XJ{dr:Bool}{K:ai→Prop}{dst:Option Nat}{rest:List aw}{a:Act}{w:World}{Kw:Act→World→Prop}{Q:Exit→Act→World→Prop}{e:TypeId}{bytes:Nat}{z:I}{n:aV}(hop:dm c.P o=some (.lM e bytes z n))(ah:o.dst=dst)(hdn:∀ k,dst=some k→k<c.n)
  (hwp:aW c.P c.Y dr K (bt A dst (.lM e bytes z n) rest (aC rest))) (hsim:cd c A a w) (hK:∀ B a' w',aW c.P c.Y dr K (aC rest B)→cd c B a' w'→Kw a' w'):o.wpIn c.aY 9 c.P a w Kw Q:=by
 have hop0:=hop;simp only[bt] at hwp;split at hwp
 case h_2=>cases hwp
 rename_i d;split at hwp
 case h_2=>cases hwp
 rename_i hf;split at hwp
 case h_2=>cases hwp
 rename_i k m hn;split at hwp
 case isFalse=>cases hwp
 rename_i hc;unfold dm at hop;split at hop <;>try (first | (simp at hop;done) | ((repeat' split at hop) <;>simp at hop;done))
 rename_i t l l' ho;split at hop
 case h_2=>cases hop
 rename_i e' n' hu hl;split at hop
 case h_2=>cases hop
 rename_i z' hz;split at hop
 case isFalse=>cases hop
 rename_i hc2;simp only[u8,bU.lM.injEq] at hop;obtain ⟨rfl,rfl,rfl,rfl⟩:=hop;obtain ⟨j,rfl⟩:=Int.eq_ofNat_of_zero_le hc.1;simp only[Int.toNat_natCast] at hc hwp;exact (OM ho (abH hc2.1) hu hl hn hz hc2.2.1 hc2.2.2 hc.2.1 hc.2.2 ah (hdn d rfl) hf).wp hop0 hsim (fun a' w' hs=>hK _ a' w' hwp hs)
theorem XK{dr:Bool}{K:ai→Prop}{dst:Option Nat}{rest:List aw}{a:Act}{w:World}{Kw:Act→World→Prop}{Q:Exit→Act→World→Prop}{ty:cH}{m k v:aV}(hop:dm c.P o=some (.fg ty m k v))(ah:o.dst=dst)(hdn:∀ k,dst=some k→k<c.n)
  (hwp:aW c.P c.Y dr K (bt A dst (.fg ty m k v) rest (aC rest))) (hsim:cd c A a w) (hK:∀ B a' w',aW c.P c.Y dr K (aC rest B)→cd c B a' w'→Kw a' w'):o.wpIn c.aY 9 c.P a w Kw Q:=by
 have hop0:=hop;simp only[bt] at hwp;split at hwp
 case h_2=>cases hwp
 split at hwp
 case h_2=>cases hwp
 rename_i n hm;split at hwp
 case h_2=>cases hwp
 rename_i ks vs hn;split at hwp
 case h_2=>cases hwp
 rename_i ks' vs' hl;unfold dm at hop;split at hop <;>try (first | (simp at hop;done) | ((repeat' split at hop) <;>simp at hop;done))
 all_goals
  rename_i t mo ko vo ho;split at hop
  case h_2=>cases hop
  rename_i kt et m' k' hu U ab;split at hop
  case h_2=>cases hop
  rename_i ty' v' hk af;simp only[u8,bU.fg.injEq] at hop;obtain ⟨rfl,rfl,rfl,rfl⟩:=hop
 ·exact (CR (.inl ho) hu hk U ab af hm hn hl ah).wp hop0 hsim (fun a' w' hs=>hK _ a' w' hwp hs)
 ·exact (CR (.inr ho) hu hk U ab af hm hn hl ah).wp hop0 hsim (fun a' w' hs=>hK _ a' w' hwp hs)
theorem XH{dr:Bool}{K:ai→Prop}{dst:Option Nat}{rest:List aw}{a:Act}{w:World}{Kw:Act→World→Prop}{Q:Exit→Act→World→Prop}{ty:cH}{m k:aV}(hop:dm c.P o=some (.jA ty m k))(ah:o.dst=dst)(hdn:∀ k,dst=some k→k<c.n)
  (hwp:aW c.P c.Y dr K (bt A dst (.jA ty m k) rest (aC rest))) (hsim:cd c A a w) (hK:∀ B a' w',aW c.P c.Y dr K (aC rest B)→cd c B a' w'→Kw a' w'):o.wpIn c.aY 9 c.P a w Kw Q:=by
 have hop0:=hop;simp only[bt] at hwp;split at hwp
 case h_2=>cases hwp
 split at hwp
 case h_2=>cases hwp
 rename_i n hm;split at hwp
 case h_2=>cases hwp
 rename_i ks vs hn;split at hwp
 case h_2=>cases hwp
 rename_i ks' vs' hl;unfold dm at hop;split at hop <;>try (first | (simp at hop;done) | ((repeat' split at hop) <;>simp at hop;done))
 rename_i args tys ho;split at hop
 case h_2=>cases hop
 rename_i mo ko t t' ha ht;split at hop
 case h_2=>cases hop
 rename_i kt et m' k' hu U ab;simp only[zz0,bU.jA.injEq] at hop;obtain ⟨ty',hk,rfl,rfl,rfl⟩:=hop;have ha':args = #[mo,ko]:=by apply Array.ext';simpa using ha
 have ht':tys = #[t,t']:=by apply Array.ext';simpa using ht
 subst ha' ht';exact (OK ho hu hk U ab hm hn hl ah).wp hop0 hsim (fun a' w' hs=>hK _ a' w' hwp hs)
theorem XN{dr:Bool}{K:ai→Prop}{dst:Option Nat}{rest:List aw}{a:Act}{w:World}{Kw:Act→World→Prop}{Q:Exit→Act→World→Prop}{x:aV}(hop:dm c.P o=some (.kG x))(ah:o.dst=dst)(hdn:∀ k,dst=some k→k<c.n)
  (hwp:aW c.P c.Y dr K (bt A dst (.kG x) rest (aC rest))) (hsim:cd c A a w) (hK:∀ B a' w',aW c.P c.Y dr K (aC rest B)→cd c B a' w'→Kw a' w'):o.wpIn c.aY 9 c.P a w Kw Q:=by
 have hop0:=hop;simp only[bt] at hwp;split at hwp
 case h_2=>cases hwp
 rename_i d;split at hwp
 case h_2=>cases hwp
 rename_i hf;split at hwp
 case h_2=>cases hwp
 rename_i ks vs hx;unfold dm at hop;split at hop <;>try (first | (simp at hop;done) | ((repeat' split at hop) <;>simp at hop;done))
 rename_i t y ho;split at hop
 case h_2=>cases hop
 rename_i kt et hu;simp only[zz0,bU.kG.injEq] at hop;obtain ⟨z,hz,rfl⟩:=hop;exact (ON ho hu hz hx ah (hdn d rfl) hf).wp hop0 hsim (fun a' w' hs=>hK _ a' w' hwp hs)
theorem XM{dr:Bool}{K:ai→Prop}{dst:Option Nat}{rest:List aw}{a:Act}{w:World}{Kw:Act→World→Prop}{Q:Exit→Act→World→Prop}{x:aV}(hop:dm c.P o=some (.jh x))(ah:o.dst=dst)(hdn:∀ k,dst=some k→k<c.n)
  (hwp:aW c.P c.Y dr K (bt A dst (.jh x) rest (aC rest))) (hsim:cd c A a w) (hK:∀ B a' w',aW c.P c.Y dr K (aC rest B)→cd c B a' w'→Kw a' w'):o.wpIn c.aY 9 c.P a w Kw Q:=by
 have hop0:=hop;simp only[bt] at hwp;split at hwp
 case h_2=>cases hwp
 rename_i n hx;split at hwp
 case h_2=>cases hwp
 rename_i ks vs left cur hn;unfold dm at hop;split at hop <;>try (first | (simp at hop;done) | ((repeat' split at hop) <;>simp at hop;done))
 rename_i y ho;simp only[zz0,bU.jh.injEq] at hop;obtain ⟨z,hz,rfl⟩:=hop;obtain ⟨D,E,hs⟩:=hsim;obtain ⟨w',v,hrun,hor⟩:=ZA ho hz hx hn (by rw[ah];exact hdn) hs;refine ⟨mc,?_⟩;rw[mI hop0,hrun,Oper.uponIn_value];rw[ah] at hor;split at hwp
 ·rename_i hl;rcases hor with ⟨_,hor⟩ | ⟨i,k,x,hi,_⟩
  ·exact hK _ _ _ hwp (by rw[ah];exact hor)
  ·rw[hl] at hi;cases hi
 ·rename_i hl;rcases hor with ⟨h,_⟩ | ⟨i,k,x,hi,hk,hx,hor⟩
  ·exact absurd h hl
  ·cases hwp with
   |any hdr hall =>
    have:=hall i hi;simp only[hk,hx] at this;exact hK _ _ _ this (by rw[ah];exact hor)
theorem XE{dr:Bool}{K:ai→Prop}{dst:Option Nat}{rest:List aw}{a:Act}{w:World}{Kw:Act→World→Prop}{Q:Exit→Act→World→Prop}{x:aV}{args:List aV}(hop:dm c.P o=some (.fQ x args))(ah:o.dst=dst)(hdn:∀ k,dst=some k→k<c.n)
  (hwp:aW c.P c.Y dr K (bt A dst (.fQ x args) rest (aC rest))) (hsim:cd c A a w) (hK:∀ B a' w',aW c.P c.Y dr K (aC rest B)→cd c B a' w'→Kw a' w'):o.wpIn c.aY 9 c.P a w Kw Q:=by
 have hop0:=hop;simp only[bt] at hwp;unfold dm at hop;split at hop <;>try (first | (simp at hop;done) | ((repeat' split at hop) <;>simp at hop;done))
 rename_i y xs ts _ ho;split at hop
 case h_2=>cases hop
 rename_i y' ys U ab;simp only[u8,bU.fQ.injEq] at hop;obtain ⟨rfl,rfl⟩:=hop;obtain ⟨D,E,hs⟩:=hsim;have hv:=b5 hs U;split at hwp
 ·rename_i f caps hx;rw[hx] at hv;obtain ⟨cs,q1,q2⟩:=hv;simp only[ao] at q2;obtain ⟨vs,q3,q4⟩:=q2;have hval:a.eval y=kp f vs:=by simpa[bI,I.isAgg,q3] using q1.symm
  have caps_ok:∀ D' E',bg c A a w D' E'→ga (bl w D' E') caps vs:=fun D' E' hs'=>by
   have hv':=b5 hs' U;rw[hx] at hv';obtain ⟨cs',q1',q2'⟩:=hv';simp only[ao] at q2';obtain ⟨vs',q3',q4'⟩:=q2';have hval':a.eval y=kp f vs':=by simpa[bI,I.isAgg,q3'] using q1'.symm
   rw[hval] at hval';have:=PF hval';subst this;exact tS q4'
  have e:xs.map a.eval=(xs.toList.map a.eval).toArray:=by apply Array.ext';simp
  rcases Nat.lt_or_ge f 1000000 with hf | hf
  ·rw[xV hf,xU hf] at hwp;rw[oC hf] at hval;refine xt (vs:=xs.toList.map a.eval++vs) hop0 rfl rfl (fun D' E' hs'=>(me hs' xs.toList ts.toList ys ab).append (caps_ok D' E' hs')) ⟨D,E,hs⟩ hwp ah hdn (fun hc =>?_) hK;simp only[execOp,ho,resolve,hval,Deferred.ofValue,Sem.run_bind,Sem.run_pure,Result.andThen_ok,invoke,Array.empty_append,oU hc];rw[e];simp
  ·obtain ⟨g,rfl⟩:∃ g:Nat,f=g+1000000:=⟨Nat.sub f 1000000,(Nat.sub_add_cancel hf).symm⟩
   rw[uZ,xT] at hwp;rw[sH] at hval;refine xt (vs:=vs++xs.toList.map a.eval) hop0 rfl rfl (fun D' E' hs'=>(caps_ok D' E' hs').append (me hs' xs.toList ts.toList ys ab)) ⟨D,E,hs⟩ hwp ah hdn (fun hc =>?_) hK;simp only[execOp,ho,resolve,hval,Deferred.ofValue,Sem.run_bind,Sem.run_pure,Result.andThen_ok,invoke,Array.append_empty,oU hc];rw[e];simp
 ·rename_i u hx;rw[hx] at hv;obtain ⟨cs,q1,q2⟩:=hv;simp only[ao] at q2;have hval:a.eval y=u:=by simpa[bI,I.isAgg,q2.1] using q1.symm
  refine LF (vs:=xs.toList.map a.eval) hop0 (fun D' E' hs'=>me hs' xs.toList ts.toList ys ab) ⟨D,E,hs⟩ hwp ah hdn (fun l hl =>?_) hK;subst hl;have e:xs.map a.eval=(xs.toList.map a.eval).toArray:=by apply Array.ext';simp
  simp only[execOp,ho,resolve,hval,Deferred.ofValue,Sem.run_bind,Sem.run_pure,Result.andThen_ok,invoke,Array.empty_append];rw[e]
 ·cases hwp
theorem XL{dr:Bool}{K:ai→Prop}{dst:Option Nat}{rest:List aw}{a:Act}{w:World}{Kw:Act→World→Prop}{Q:Exit→Act→World→Prop}{neg:Bool}{x:aV}(hop:dm c.P o=some (.nilS neg x))(ah:o.dst=dst)(hdn:∀ k,dst=some k→k<c.n)
  (hwp:aW c.P c.Y dr K (bt A dst (.nilS neg x) rest (aC rest))) (hsim:cd c A a w) (hK:∀ B a' w',aW c.P c.Y dr K (aC rest B)→cd c B a' w'→Kw a' w'):o.wpIn c.aY 9 c.P a w Kw Q:=by
 have hop0:=hop;simp only[bt] at hwp;split at hwp
 case isFalse=>exact Ed hop ah hdn hsim hK hwp
 rename_i hu;cases hwp with
 |any hdr hall =>
 unfold dm at hop;split at hop <;>try (first | (simp at hop;done) | ((repeat' split at hop) <;>simp at hop;done))
 rename_i bop t y z yt ho;split at hop
 ·simp at hop
 ·simp at hop
 ·rename_i e y' z' hut U ab;split at hop
  ·rename_i s;split at hop
   ·rename_i hopp;simp only[u8,bU.nilS.injEq] at hop;obtain ⟨rfl,rfl⟩:=hop;have ho':o.op=.binOp (if (bop==.neq)=true then .neq else .eql) t y z yt:=by
     rcases hopp with rfl | rfl <;>simpa using ho
    obtain ⟨D,E,hs⟩:=hsim;have hund:∃ sz,al A y'=.slice sz []∨al A y'=.c0 sz:=by
     generalize al A y'=q at hu;cases q <;>simp only[kM,zz5,List.isEmpty_iff] at hu
     ·rename_i sz;exact ⟨sz,.inr rfl⟩
     ·rename_i sz es;subst hu;exact ⟨sz,.inl rfl⟩
    obtain ⟨b,hrun⟩:=ZC ho' hut U ab hund hs;refine ⟨mc,?_⟩;rw[mI hop0,hrun,Oper.uponIn_value];have hb:=hall (if b then 0 else 1) (by cases b <;>simp);refine hK _ _ _ hb ⟨D,E,?_⟩;rw[ah];have e:((if b=true then (0:Nat) else 1)==0)=b:=by cases b <;>rfl
    rw[e];exact hs.a8 hdn (pQ b)
   ·cases hop
  ·cases hop
 ·split at hop <;>simp at hop
 ·split at hop <;>simp at hop
 ·cases hop
theorem XA{dr:Bool}{K:ai→Prop}{dst:Option Nat}{rest:List aw}{a:Act}{w:World}{Kw:Act→World→Prop}{Q:Exit→Act→World→Prop}{e:TypeId}{esz bytes:Nat}{z:I}{s x:aV}(hop:dm c.P o=some (.dy e esz bytes z s x))(ah:o.dst=dst)(hdn:∀ k,dst=some k→k<c.n)
  (hwp:aW c.P c.Y dr K (bt A dst (.dy e esz bytes z s x) rest (aC rest))) (hsim:cd c A a w) (hK:∀ B a' w',aW c.P c.Y dr K (aC rest B)→cd c B a' w'→Kw a' w'):o.wpIn c.aY 9 c.P a w Kw Q:=by
 have hop0:=hop;simp only[bt] at hwp;unfold dm at hop;split at hop <;>try (first | (simp at hop;done) | ((repeat' split at hop) <;>simp at hop;done))
 rename_i args tys ho;split at hop
 case h_2=>cases hop
 rename_i y q t t' ha ht;split at hop
 case h_2=>cases hop
 rename_i e' s' x' k1 k2 k3;split at hop
 case isFalse=>split at hop <;>simp at hop
 rename_i hk;simp only[zz0,bU.dy.injEq] at hop;obtain ⟨zz,hz1,rfl,rfl,rfl,rfl,rfl,rfl⟩:=hop;obtain ⟨rfl,hk2,hk3⟩:=hk;have ha':args = #[y,q]:=by apply Array.ext';simpa using ha
 have ht':tys = #[t,t]:=by apply Array.ext';simpa using ht
 subst ha' ht';rw[hz1] at hk3;simp only[zy6,u8] at hk3;have hinfo:(c.P.info? e').isSome=true:=by
  obtain ⟨ti,_,hti,_⟩:=mT hz1;rw[hti];rfl
 have grow:∀ es ys,eI A (c.P.cellsOf e') (al A s')=some es→eI A (c.P.cellsOf e') (al A x')=some ys→ys≠[]→(∀ a w D E,bg c A a w D E→∀ ad l cp,a.eval y=.slice ad l cp→cp<l+ys.length) →
   aW c.P c.Y dr K (gK A dst (c.P.cellsOf e') (c.P.bytesOf e') zz es ys (aC rest))→o.wpIn c.aY 9 c.P a w Kw Q:=fun es ys hse hsx hne hfull h=>by
  simp only[gK] at h;split at h
  case h_2=>cases h
  rename_i d;split at h
  case h_2=>cases h
  rename_i hf;split at h
  case isFalse=>cases h
  rename_i hb;cases h with
  |any hdr hall =>
   obtain ⟨D,E,hs⟩:=hsim;obtain ⟨v,w',m,g1,g2,g3⟩:=J5 ho k1 k2 k3 hz1 hk3 hse hsx hb.1 ah (hdn d rfl) hf hne hs (hfull a w D E hs) hb.2;refine ⟨mc,?_⟩;rw[mI hop0,g1,Oper.uponIn_value,ah];rw[ah] at g3;exact hK _ _ _ (hall m g2) g3
 split at hwp
 ·rename_i n l hs';split at hwp
  case h_2=>cases hwp
  rename_i sz ys hx';split at hwp
  case h_3=>cases hwp
  case h_2 =>
   rename_i T xs hn;split at hwp
   case isFalse=>cases hwp
   rename_i hok;obtain ⟨U,ab,af,ar,h5,h6,h7,h8⟩:=hok;subst af ar;have hl5:ys.length=(sS ys).length:=(congrArg List.length h5).trans (by simp);rw[hl5] at h7 h8 hwp;rw[h5] at hx';have hd':=OE (o:=o) ho k1 k2 k3 hz1 ab hs' hn U hx' (fun e=>h6 (by rw[h5,e];rfl)) h7 h8 (by rw[ah];exact hdn);exact hd'.wp hop0 hsim (fun a' w' hs=>by rw[ah] at hs;exact hK _ a' w' hwp hs)
  rename_i T sz' es hn;split at hwp
  case isFalse=>cases hwp
  rename_i hok;obtain ⟨U,ab,af,ar,h5,h6,h7⟩:=hok;subst ab af ar;have hd':=OD (o:=o) ho k1 k2 k3 hz1 hk3 hk2 hs' hn U hx' rfl h5 h6 h7 (by rw[ah];exact hdn);exact hd'.wp hop0 hsim (fun a' w' hs=>by rw[ah] at hs;exact hK _ a' w' hwp hs)
 ·simp only[fp] at hwp;split at hwp
  case h_2=>cases hwp
  rename_i es ys hse hsx;split at hwp
  ·rename_i hne;subst hne;exact ((OG ho k1 hinfo k2 k3 hse hsx).does (by rw[ah];exact hdn)).wp hop0 hsim (fun a' w' hs=>by rw[ah] at hs;exact hK _ a' w' hwp hs)
  ·rename_i hne;have hpos:0<ys.length:=List.length_pos_iff.2 hne;split at hwp
   ·rename_i z0 hsv;refine grow es ys hse hsx hne (fun a w D E hs ad l cp hv =>?_) hwp;have bf:=b5 hs k2;rw[hsv] at bf;obtain ⟨cs,q1,q2⟩:=bf;simp only[ao] at q2;have:a.eval y=.slice none 0 0:=by simpa[bI,I.isAgg,q2] using q1.symm
    rw[this] at hv;simp only[Value.slice.injEq] at hv;omega
   ·rename_i z0 hsv;refine grow es ys hse hsx hne (fun a w D E hs ad l cp hv =>?_) hwp;have bf:=b5 hs k2;rw[hsv] at bf;obtain ⟨cs,q1,q2⟩:=bf;simp only[ao] at q2;obtain ⟨ad',q2⟩:=q2;have:a.eval y=.slice ad' 0 0:=by simpa[bI,I.isAgg,q2] using q1.symm
    rw[this] at hv;simp only[Value.slice.injEq] at hv;omega
   ·rename_i n p sz lo l hsv;split at hwp
    case h_2=>cases hwp
    rename_i b hn;split at hwp
    case h_2=>cases hwp
    rename_i fs hat;split at hwp
    ·rename_i hroom;split at hwp
     case isFalse=>cases hwp
     rename_i hok;obtain ⟨rfl,hsh⟩:=hok;exact (OF ho k1 hinfo k2 k3 hsv hn hat hsx hroom hsh (by rw[ah];exact hdn)).wp hop0 hsim (fun a' w' hs=>by rw[ah] at hs;exact hK _ a' w' hwp hs)
    ·rename_i hroom;refine grow es ys hse hsx hne (fun a w D E hs ad l' cp hv =>?_) hwp;have bf:=b5 hs k2;rw[hsv] at bf;obtain ⟨_,bb,cs,T,off,c1,c2,c3,_,_,_,_,_,_,_,_,_,_,lr,jH,p5⟩:=hs.view (fs:=fs) bf (by simp only[cM,hn,hat]);rw[p5] at hv;simp only[Value.slice.injEq] at hv;omega
   ·cases hwp
theorem XB{dr:Bool}{K:ai→Prop}{dst:Option Nat}{rest:List aw}{a:Act}{w:World}{Kw:Act→World→Prop}{Q:Exit→Act→World→Prop}{e:TypeId}{esz bytes:Nat}{z:I}{s n:aV}(hop:dm c.P o=some (.mZ e esz bytes z s n))(ah:o.dst=dst)(hdn:∀ k,dst=some k→k<c.n)
  (hwp:aW c.P c.Y dr K (bt A dst (.mZ e esz bytes z s n) rest (aC rest))) (hsim:cd c A a w) (hK:∀ B a' w',aW c.P c.Y dr K (aC rest B)→cd c B a' w'→Kw a' w'):o.wpIn c.aY 9 c.P a w Kw Q:=by
 have hop0:=hop;simp only[bt] at hwp;unfold dm at hop;split at hop <;>try (first | (simp at hop;done) | ((repeat' split at hop) <;>simp at hop;done))
 rename_i args tys ho;split at hop
 case h_2=>cases hop
 rename_i y q t t' ha ht;split at hop
 case h_2=>cases hop
 rename_i e' s' x' k1 k2 k3;split at hop
 case isTrue=>simp at hop
 split at hop
 case isFalse=>cases hop
 rename_i hk;simp only[zz0,bU.mZ.injEq] at hop;obtain ⟨zz,hz1,rfl,rfl,rfl,rfl,rfl,rfl⟩:=hop;obtain ⟨hint,hk2,hk3⟩:=hk;have ha':args = #[y,q]:=by apply Array.ext';simpa using ha
 have ht':tys = #[t,t']:=by apply Array.ext';simpa using ht
 subst ha' ht';rw[hz1] at hk3;simp only[zy6,u8] at hk3;obtain ⟨kt,hkt⟩:∃ kt,c.P.underlying t'=some (.int kt):=by
  cases hu:c.P.underlying t' with
  |none=>rw[hu] at hint;cases hint
  |some dsc=>cases dsc <;>rw[hu] at hint <;>first | exact ⟨_,rfl⟩ | cases hint
 split at hwp
 case h_2=>cases hwp
 rename_i kx cg hx';simp only[w4] at hwp;split at hwp
 case h_2=>cases hwp
 rename_i es hse;split at hwp
 case h_2=>cases hwp
 rename_i nn p sz lo l hsv;split at hwp
 case h_2=>cases hwp
 rename_i bb hn;split at hwp
 case h_2=>cases hwp
 rename_i fs hat;split at hwp
 case isFalse=>cases hwp
 rename_i hroom;simp only[gK] at hwp;split at hwp
 case h_2=>cases hwp
 rename_i d;split at hwp
 case h_2=>cases hwp
 rename_i hf;split at hwp
 case isFalse=>cases hwp
 rename_i hb;rw[List.length_replicate] at hb;cases hwp with
 |any hdr hall =>
  obtain ⟨D,E,hs⟩:=hsim;obtain ⟨v,w',m,g1,g2,g3⟩:=J6 ho k1 k2 k3 hkt hx' rfl hroom.1 hk2 hz1 hk3 hse hb.1 ah (hdn d rfl) hf hs (fun ad l' cp hv=>by
   have bf:=b5 hs k2;rw[hsv] at bf;have hsv':=hse;obtain ⟨_,b1,cs,T,off,c1,c2,c3,_,_,_,_,_,_,_,_,_,_,lr,jH,p5⟩:=hs.view (fs:=fs) bf (by simp only[cM,hn,hat]);rw[p5] at hv;simp only[Value.slice.injEq] at hv;have hel:es.length=l:=by
    rw[hsv] at hse;simp only[eI,cM,hn,hat] at hse;split at hse
    ·simp only[u8] at hse;rw[←hse,zx9,List.length_drop];omega
    ·cases hse
   omega) hb.2
  refine ⟨mc,?_⟩;rw[mI hop0,g1,Oper.uponIn_value,ah];rw[ah] at g3;have:=hall m (by rw[List.length_replicate];exact g2);rw[List.length_replicate] at this;exact hK _ _ _ this g3
theorem XF{dr:Bool}{K:ai→Prop}{dst:Option Nat}{rest:List aw}{a:Act}{w:World}{Kw:Act→World→Prop}{Q:Exit→Act→World→Prop}{esz:Nat}{z:I}{x:aV}(hop:dm c.P o=some (.kh esz z x))(ah:o.dst=dst)(hdn:∀ k,dst=some k→k<c.n)
  (hwp:aW c.P c.Y dr K (bt A dst (.kh esz z x) rest (aC rest))) (hsim:cd c A a w) (hK:∀ B a' w',aW c.P c.Y dr K (aC rest B)→cd c B a' w'→Kw a' w'):o.wpIn c.aY 9 c.P a w Kw Q:=by
 have hop0:=hop;simp only[bt] at hwp;split at hwp
 case h_2=>cases hwp
 unfold dm at hop;split at hop <;>try (first | (simp at hop;done) | ((repeat' split at hop) <;>simp at hop;done))
 rename_i args tys ho;split at hop
 case h_2=>cases hop
 rename_i y t ha ht;split at hop
 case h_2=>cases hop
 rename_i e' x' k1 k2;simp only[zz0,bU.kh.injEq] at hop;obtain ⟨zz,hz1,rfl,rfl,rfl⟩:=hop;have ha':args = #[y]:=by apply Array.ext';simpa using ha
 have ht':tys = #[t]:=by apply Array.ext';simpa using ht
 subst ha' ht';have nothing:aW c.P c.Y dr K (aC rest A)→(∀ a w D E,bg c A a w D E→∃ ad cp,a.eval y=.slice ad 0 cp)→o.wpIn c.aY 9 c.P a w Kw Q:=fun h hv=>by
  obtain ⟨D,E,hs⟩:=hsim;obtain ⟨ad,cp,hv⟩:=hv a w D E hs;refine ⟨mc,?_⟩;have hrun:(execOp a.eval o).run c.P w=.ok (.value (.tuple #[])) w:=by
   cases ad <;>simp[execOp,ho,resolve,invoke,builtin,Builtin.clear_,run_underlying k1,hv]
  rw[mI hop0,hrun,Oper.uponIn_value,ah];exact hK _ _ _ h ⟨D,E,hs⟩
 unfold ox at hwp;split at hwp
 ·rename_i n p sz lo l hv;split at hwp
  case h_2=>cases hwp
  rename_i b hn;split at hwp
  case h_2=>cases hwp
  rename_i fs hat;split at hwp
  case isFalse=>cases hwp
  rename_i hok;obtain ⟨rfl,hsh⟩:=hok;exact (OI ho k1 k2 hz1 hv hn hat hsh ah).wp hop0 hsim (fun a' w' hs=>hK _ a' w' hwp hs)
 ·rename_i z0 hv;refine nothing hwp fun a w D E hs =>?_;have bf:=b5 hs k2;rw[hv] at bf;obtain ⟨cs,q1,q2⟩:=bf;simp only[ao] at q2;exact ⟨none,0,by simpa[bI,I.isAgg,q2] using q1.symm⟩
 ·rename_i z0 hv;refine nothing hwp fun a w D E hs =>?_;have bf:=b5 hs k2;rw[hv] at bf;obtain ⟨cs,q1,q2⟩:=bf;simp only[ao] at q2;obtain ⟨ad,q2⟩:=q2;exact ⟨ad,0,by simpa[bI,I.isAgg,q2] using q1.symm⟩
 ·cases hwp
theorem XG{dr:Bool}{K:ai→Prop}{dst:Option Nat}{rest:List aw}{a:Act}{w:World}{Kw:Act→World→Prop}{Q:Exit→Act→World→Prop}{esz:Nat}{x y:aV}(hop:dm c.P o=some (.ml esz x y))(ah:o.dst=dst)(hdn:∀ k,dst=some k→k<c.n)
  (hwp:aW c.P c.Y dr K (bt A dst (.ml esz x y) rest (aC rest))) (hsim:cd c A a w) (hK:∀ B a' w',aW c.P c.Y dr K (aC rest B)→cd c B a' w'→Kw a' w'):o.wpIn c.aY 9 c.P a w Kw Q:=by
 have hop0:=hop;simp only[bt] at hwp;unfold dm at hop;split at hop <;>try (first | (simp at hop;done) | ((repeat' split at hop) <;>simp at hop;done))
 rename_i args tys ho;split at hop
 case h_2=>cases hop
 rename_i u v t t' ha ht;split at hop
 case h_2=>cases hop
 rename_i e' x' y' k1 k2 k3;split at hop
 case isFalse=>cases hop
 rename_i hk;simp only[u8,bU.ml.injEq] at hop;obtain ⟨rfl,rfl,rfl⟩:=hop;obtain ⟨rfl,hinfo⟩:=hk;have ha':args = #[u,v]:=by apply Array.ext';simpa using ha
 have ht':tys = #[t,t]:=by apply Array.ext';simpa using ht
 subst ha' ht';unfold uO at hwp;split at hwp
 ·rename_i n p sz lo l ys hv hsx;split at hwp
  case h_2=>cases hwp
  rename_i b hn;split at hwp
  case h_2=>cases hwp
  rename_i fs hat;split at hwp
  case isFalse=>cases hwp
  rename_i hok;obtain ⟨rfl,hsh⟩:=hok;exact (OJ ho k1 hinfo k2 k3 hv hn hat hsx rfl hsh (by rw[ah];exact hdn)).wp hop0 hsim (fun a' w' hs=>by rw[ah] at hs;exact hK _ a' w' hwp hs)
 ·cases hwp
theorem vb{dr:Bool}{K:ai→Prop}{op:bU}{dst:Option Nat}{rest:List aw}{a:Act}{w:World}{Kw:Act→World→Prop}{Q:Exit→Act→World→Prop}(hop:dm c.P o=some op)(ah:o.dst=dst)(hdn:∀ k,dst=some k→k<c.n)
  (hwp:aW c.P c.Y dr K (bt A dst op rest (aC rest))) (hsim:cd c A a w) (hK:∀ B a' w',aW c.P c.Y dr K (aC rest B)→cd c B a' w'→Kw a' w'):o.wpIn c.aY 9 c.P a w Kw Q:=by
 cases op with
 |alloc z=>exact Xz hop ah hdn hwp hsim hK
 |box x=>exact XC hop ah hdn hwp hsim hK
 |bm s x v=>exact XO hop ah hdn hwp hsim hK
 |call f args=>exact XD hop ah hdn hwp hsim hK
 |lD f args=>exact XP hop ah hdn hwp hsim hK
 |jB=>exact XI hop ah hdn hwp hsim hK
 |lM e bytes z n=>exact XJ hop ah hdn hwp hsim hK
 |fg ty m k v=>exact XK hop ah hdn hwp hsim hK
 |jA ty m k=>exact XH hop ah hdn hwp hsim hK
 |kG x=>exact XN hop ah hdn hwp hsim hK
 |jh x=>exact XM hop ah hdn hwp hsim hK
 |fQ x args=>exact XE hop ah hdn hwp hsim hK
 |nilS neg x=>exact XL hop ah hdn hwp hsim hK
 |dy e esz bytes z s x=>exact XA hop ah hdn hwp hsim hK
 |mZ e esz bytes z s n=>exact XB hop ah hdn hwp hsim hK
 |kh esz z x=>exact XF hop ah hdn hwp hsim hK
 |ml esz x y=>exact XG hop ah hdn hwp hsim hK
 |_=>exact Ed hop ah hdn hsim hK (by simpa only[bt] using hwp)
theorem vg{j t:Nat}{bo:Array Oper}{a:Act}{w:World}{b b':Bool}(hs:cd c A a w)(hg:o.guard=some (j,b))(ht:(bo[j]?).bind (·.dst)=some t)(hv:A.t t=.bool b'):Region.wanted o (yielded bo a.tmps)=(b'==b):=by
 obtain ⟨D,E,hs⟩:=hs;have h:=hs.dO t;rw[hv] at h;have h:=lU h;have hy:yielded bo a.tmps j=some b':=by
  unfold yielded;rw[ht];simp only[Option.bind_some];simp only[Array.getD_eq_getD_getElem?] at h;cases hh:a.tmps[t]? with
  |none=>simp[hh,undef] at h
  |some v=>simp only[hh,Option.getD_some] at h;subst h;rfl
 unfold Region.wanted;rw[hg];simp only[hy];cases b <;>cases b' <;>rfl
theorem vh{j t:Nat}{bo:Array Oper}{a:Act}{w:World}{b:Bool}(hs:cd c A a w)(hg:o.guard=some (j,b))(ht:(bo[j]?).bind (·.dst)=some t)(hv:A.t t=.undef):Region.wanted o (yielded bo a.tmps)=false:=by
 obtain ⟨D,E,hs⟩:=hs;have h:=hs.dO t;rw[hv] at h;simp only[bl] at h;have hy:yielded bo a.tmps j=none:=by
  unfold yielded;rw[ht];simp only[Option.bind_some];simp only[Array.getD_eq_getD_getElem?] at h;cases hh:a.tmps[t]? with
  |none=>rfl
  |some v=>simp only[hh,Option.getD_some] at h;subst h;rfl
 unfold Region.wanted;rw[hg];simp only[hy];rfl
theorem cd.oP{a:Act}{w:World}(h:cd c A a w){d:Option Nat}(ah:∀ k,d=some k→k<c.n):cd c (A.a8 d .undef) (a.put d undef) w:=by
 obtain ⟨D,E,h⟩:=h;exact ⟨D,E,h.a8 ah (by simp[bl])⟩
theorem vf{dr:Bool}{K:ai→Prop}{bo:Array Oper}{Q:Exit→Act→World→Prop}(hQ:∀ B a w,K B→cd c B a w→Q .normal a w):∀ (l:List Oper) (gs:List aw) (A:ai) (a:Act) (w:World),gO c.P c.n bo l=some gs→aW c.P c.Y dr K (aC gs A) →
  cd c A a w→wpListIn c.aY 9 c.P bo Q l a w
 | [],gs,A,a,w,hc,hwp,hs=>by
  simp only[gO,u8] at hc;subst hc;simp only[aC] at hwp;cases hwp with
  |done hk=>exact hQ A a w hk hs
 |o::l,gs,A,a,w,hc,hwp,hs=>by
  simp only[gO] at hc;split at hc
  case h_2=>cases hc
  rename_i g gs' hg hgs;simp only[u8] at hc;subst hc;obtain ⟨U,ab,af,ar⟩:=pA hg;have step:aW c.P c.Y dr K (bt A g.dst g.op gs' (aC gs'))→o.wpIn c.aY 9 c.P a w (wpListIn c.aY 9 c.P bo Q l) Q:=fun h =>
   vb U ab.symm (by rw[ab];exact af) h hs (fun B a' w' hw hs'=>vf hQ l gs' B a' w' hgs hw hs')
  simp only[wpListIn];simp only[aC] at hwp;rcases ar with ⟨h5,h6⟩ | ⟨j,b,t,h5,h6,h7⟩
  ·rw[h6] at hwp;have hw:Region.wanted o (yielded bo a.tmps)=true:=by simp[Region.wanted,h5]
   rw[hw,if_pos rfl];exact step hwp
  ·rw[h7] at hwp;simp only at hwp;split at hwp
   ·rename_i b' hb';rw[vg hs h5 h6 hb'];split at hwp
    ·rename_i hbb;subst hbb;simp only[BEq.rfl,if_true];exact step hwp
    ·rename_i hbb;have:(b'==b)=false:=by simpa using hbb
     rw[this];simp only[zz5,if_false];exact ⟨fun f _=>nk c f,vf hQ l gs' _ _ w hgs hwp (by rw[ab];exact hs.oP af)⟩
   ·rename_i hb';rw[vh hs h5 h6 hb'];simp only[zz5,if_false];exact ⟨fun f _=>nk c f,vf hQ l gs' _ _ w hgs hwp (by rw[ab];exact hs.oP af)⟩
   ·cases hwp
end
def aV.sl:aV→List Nat
 | .t n=>[n]
 | .c _=>[]
def vE:Option aV→List Nat
 |some x=>x.sl
 |none=>[]
def kJ(l:List aV):List Nat:=l.flatMap aV.sl
def bU.cY:bU→List Nat
 | .mv x=>x.sl
 | .pick c a b=>c.sl++(a.sl++b.sl)
 | .bin _ x y=>x.sl++y.sl
 | .eqv _ _ x y=>x.sl++y.sl
 | .nilS _ x=>x.sl
 | .conv _ x=>x.sl
 | .un _ x=>x.sl
 | .ld _ x=>x.sl
 | .fa _ _ x=>x.sl
 | .fl _ _ _ x=>x.sl
 | .ia _ _ x i=>x.sl++i.sl
 | .is _ x i=>x.sl++i.sl
 | .ix _ _ _ x i=>x.sl++i.sl
 | .len x=>x.sl
 | .lenT x=>x.sl
 | .va _ _ x=>x.sl
 | .sl _ x lo hi mx=>x.sl++(vE lo++(vE hi++vE mx))
 | .bld _ ps=>kJ (ps.map (·.2))
 | .bs _ _ ps=>kJ ps
 | .ext x _=>x.sl
 | .mk _ caps=>kJ caps
 | .alloc _=>[]
 | .box x=>x.sl
 | .bm _ x v=>x.sl++v.sl
 | .dy _ _ _ _ s x=>s.sl++x.sl
 | .mZ _ _ _ _ s x=>s.sl++x.sl
 | .cap x=>x.sl
 | .bs0 _=>[]
 | .kh _ _ x=>x.sl
 | .ml _ x y=>x.sl++y.sl
 | .call _ args=>kJ args
 | .fQ x args=>x.sl++kJ args
 | .lD _ args=>kJ args
 | .nilC x=>x.sl
 | .ptrE _ x y=>x.sl++y.sl
 | .max2 x y=>x.sl++y.sl
 | .lM _ _ _ n=>n.sl
 | .jB=>[]
 | .lk _ _ _ m k=>m.sl++k.sl
 | .fg _ m k v=>m.sl++(k.sl++v.sl)
 | .jA _ m k=>m.sl++k.sl
 | .kG x=>x.sl
 | .jh x=>x.sl
 | .ent x=>x.sl
def aw.cY(g:aw):List Nat:=g.op.cY++(match g.guard with | some (t,_)=>[t] | none=>[])
def bU.ir:bU→Nat
 | .mv _ | .pick .. | .bin .. | .eqv .. | .nilS .. | .conv .. | .un .. | .fl .. | .ix .. | .lenT _ | .bld .. | .ext .. | .mk .. | .nilC _ | .ptrE .. | .max2 .. =>0
 | .ld .. | .fa .. | .ia .. | .is .. | .len _ | .va .. | .bs .. | .sl .. | .cap _ | .bs0 _ | .lk .. | .ent _=>1
 | .call .. | .fQ .. =>2
 | .alloc _ | .box _=>3
 | .bm .. =>4
 | .dy .. | .mZ .. | .kh .. | .ml .. | .lD .. | .lM .. | .jB | .fg .. | .jA .. | .kG _ | .jh _=>5
def xz(a b:Nat):Bool:=(decide (a≤2)&&decide (b≤3))||(a==0&&b==4)
def oD(g h:aw):Bool:=xz g.op.ir h.op.ir&&(match g.dst with
  |some d => !h.cY.contains d&&h.dst != some d
  |none=>true)&&(match h.dst with
  |some d => !g.cY.contains d
  |none=>true)
def ej(A A':ai)(l:List Nat):Prop:=∀ k∈l,A'.t k=A.t k
section
variable {A A':ai}
theorem df{x:aV}(h:ej A A' x.sl):al A' x=al A x:=by
 cases x with
 |t n=>exact h n (by simp[aV.sl])
 |c x=>rfl
theorem ej.l{l m:List Nat}(h:ej A A' (l++m)):ej A A' l:=fun k hk=>h k (zv7 _ hk)
theorem ej.r{l m:List Nat}(h:ej A A' (l++m)):ej A A' m:=fun k hk=>h k (List.mem_append_right _ hk)
theorem ni:∀ {l:List aV},ej A A' (kJ l)→l.map (al A')=l.map (al A)
 | [],_=>rfl
 |x::l,h=>by
  simp only[kJ,List.flatMap_cons] at h;simp only[zz7,df h.l,ni (l:=l) h.r]
theorem re{x:Option aV}(h:ej A A' (vE x)):x.map (al A')=x.map (al A):=by
 cases x with
 |none=>rfl
 |some x=>simp only[zy6,df (x:=x) h]
theorem C3:∀ {l:List (Nat×aV)},ej A A' (kJ (l.map (·.2)))→(l.map fun p=>(p.1,al A' p.2))=l.map fun p=>(p.1,al A p.2)
 | [],_=>rfl
 |x::l,h=>by
  simp only[kJ,zz7,List.flatMap_cons] at h;simp only[zz7,df h.l,C3 (l:=l) h.r]
theorem td{f g:I→Option I}(h:∀ x v,f x=some v→g x=some v):∀ {xs vs:List I},gC f xs=some vs→gC g xs=some vs
 | [],vs,hx=>by simpa only[gC] using hx
 |x::xs,vs,hx=>by
  simp only[gC] at hx ⊢;cases U:f x with
  |none=>rw[U] at hx;cases hx
  |some y=>cases ab:gC f xs with
   |none=>rw[U,ab] at hx;cases hx
   |some ys=>rw[U,ab] at hx;rw[h x y U,td h ab];exact hx
theorem x1(hu:eA A A'):∀ (k:Nat) (x v:I),c7 A k x=some v→c7 A' k x=some v
 |0,_,_,h=>by simp[c7] at h
 |k+1,x,v,h=>by
  have ih:=x1 hu k;simp only[c7] at h ⊢;split at h
  ·rename_i hc;rw[if_pos hc];exact h
  ·rename_i hc;rw[if_neg hc];cases x <;>simp only[] at h ⊢ <;>try (cases h;done)
   case agg fs =>
    simp only[zz0] at h ⊢;obtain ⟨a,U,ab⟩:=h;exact ⟨a,td ih U,ab⟩
   case func f fs =>
    split at h
    case isFalse hf=>rw[if_neg hf];exact h
    rename_i hf;rw[if_pos hf];simp only[zz0] at h ⊢;obtain ⟨a,U,ab⟩:=h;exact ⟨a,td ih U,ab⟩
   case ptr n p =>
    cases ah:cM A (.ptr n p) with
    |none=>rw[ah] at h;cases h
    |some y =>
     rw[ah] at h;rw[ki hu ah];simp only[zz0] at h ⊢;obtain ⟨a,U,ab⟩:=h;exact ⟨a,ih _ _ U,ab⟩
   case view n p sz lo l =>
    cases ah:cM A (.ptr n p) with
    |none=>rw[ah] at h;cases h
    |some y=>rw[ah] at h;rw[ki hu ah];exact h
   case mref n =>
    cases ho:A.o n with
    |none=>rw[ho] at h;cases h
    |some y =>
     rw[ho] at h;rw[hu n y ho];cases y <;>try (cases h;done)
     simp only at h ⊢;split at h
     ·rename_i hk;rw[if_pos hk];simp only[zz0] at h ⊢;obtain ⟨a,U,ab⟩:=h;exact ⟨a,td ih U,ab⟩
     ·cases h
   case own n l =>
    cases ho:A.o n with
    |none=>rw[ho] at h;cases h
    |some y=>rw[ho] at h;rw[hu n y ho];exact h
mutual
theorem Di(hu:eA A A'){aR:Bool} : ∀ {x v:I},br aR A x=some v→br aR A' x=some v
 | .ptr n p,v,h=>by
  simp only[br] at h ⊢;cases aR <;>simp only[zz5,if_false,if_true] at h ⊢
  ·exact h
  ·cases ah:cM A (.ptr n p) with
   |none=>rw[ah] at h;cases h
   |some y =>
    rw[ah] at h;rw[ki hu ah];simp only at h ⊢;split at h
    ·rename_i hc;rw[if_pos hc];exact h
    ·rename_i hc;rw[if_neg hc];simp only[zz0] at h ⊢;obtain ⟨a,U,ab⟩:=h;exact ⟨a,x1 hu 9 _ _ U,ab⟩
 | .mref n,v,h=>by
  simp only[br] at h ⊢;cases aR <;>simp only[zz5,if_false,if_true] at h ⊢
  ·exact h
  ·cases ho:A.o n with
   |none=>rw[ho] at h;cases h
   |some y =>
    rw[ho] at h;rw[hu n y ho];cases y <;>try (cases h;done)
    simp only at h ⊢;split at h
    ·rename_i hk;rw[if_pos hk];simp only[zz0] at h ⊢;obtain ⟨a,U,ab⟩:=h;exact ⟨a,td (x1 hu 9) U,ab⟩
    ·cases h
 | .dv _,_,h=>by simp[br] at h
 | .dp _ _,_,h=>by simpa only[br] using h
 | .own n k,v,h=>by
  simp only[br] at h ⊢;cases ho:A.o n with
  |none=>rw[ho] at h;cases h
  |some y=>rw[ho] at h;rw[hu n y ho];exact h
 | .view n p sz lo k,v,h=>by
  simp only[br] at h ⊢;cases aR <;>simp only[zz5,if_false,if_true] at h ⊢
  ·exact h
  ·cases ah:cM A (.ptr n p) with
   |none=>rw[ah] at h;cases h
   |some y=>rw[ah] at h;rw[ki hu ah];exact h
 | .func f caps,v,h=>by
  simp only[br] at h ⊢;split at h
  case isFalse hf=>rw[if_neg hf];exact h
  rename_i hf;rw[if_pos hf];simp only[zz0] at h ⊢;obtain ⟨a,U,ab⟩:=h;exact ⟨a,mr hu U,ab⟩
 | .agg fs,v,h=>by
  simp only[br,zz0] at h ⊢;obtain ⟨a,U,ab⟩:=h;exact ⟨a,mr hu U,ab⟩
 | .nils _,_,h | .c0 _,_,h | .tuple _,_,h | .undef,_,h | .dx,_,h | .bool _,_,h | .int _ _,_,h | .bT _,_,h | .nilp,_,h | .dE,_,h | .ed,_,h | .any,_,h | .raw _,_,h | .slice _ _,_,h | .ref _,_,h | .iface _ _,_,h=>by simpa only[br] using h
theorem mr(hu:eA A A'){aR:Bool} : ∀ {xs vs:List I},bZ aR A xs=some vs→bZ aR A' xs=some vs
 | [],vs,h=>by simpa only[bZ] using h
 |x::xs,vs,h=>by
  simp only[bZ] at h ⊢;cases U:br aR A x with
  |none=>rw[U] at h;cases h
  |some y=>cases ab:bZ aR A xs with
   |none=>rw[U,ab] at h;cases h
   |some ys=>rw[U,ab] at h;rw[Di hu U,mr hu ab];exact h
end
theorem zq{op:bU}(hc:op.ir=0)(h:ej A A' op.cY):bu A' op=bu A op:=by
 cases op <;>simp only[bU.ir] at hc <;>try (cases hc;done)
 all_goals simp only[bU.cY] at h
 case mv x=>simp only[bu,df h]
 case pick c a b=>simp only[bu,df h.l,df h.r.l,df h.r.r]
 case bin _ x y=>simp only[bu,df h.l,df h.r]
 case eqv _ _ x y=>simp only[bu,df h.l,df h.r]
 case nilS x=>simp only[bu,df h]
 case conv x=>simp only[bu,df h]
 case un x=>simp only[bu,df h]
 case fl x=>simp only[bu,df h]
 case ix x i=>simp only[bu,df h.l,df h.r]
 case lenT x=>simp only[bu,df h]
 case bld zs ps=>simp only[bu,C3 h]
 case ext x i=>simp only[bu,df h]
 case mk f caps=>simp only[bu,ni h]
 case nilC x=>simp only[bu,df h]
 case ptrE neg x y=>simp only[bu,df h.l,df h.r]
 case max2 x y=>simp only[bu,df h.l,df h.r]
theorem Zh(hu:eA A A'){m:I}{q:List I×List I}(h:gS A m=some q):gS A' m=some q:=by
 cases m with
 |mref n =>
  simp only[gS] at h ⊢;cases ah:A.o n with
  |none=>simp only[ah] at h;cases h
  |some y=>simp only[ah] at h;simp only[hu n y ah];exact h
 |raw v=>cases v <;>first | (cases h;done) | (rename_i m;cases m <;>first | exact h | cases h)
 |dp ks vs=>exact h
 |_=>simp only[gS] at h;cases h
theorem F9{op:bU}(hu:eA A A')(h:ej A A' op.cY){v:I}(hv:bu A op=some v):bu A' op=some v:=by
 by_cases hc:op.ir=0
 ·rw[zq hc h];exact hv
 cases op <;>try (exact absurd rfl hc)
 all_goals simp only[bU.cY] at h
 case ld s x =>
  simp only[bu,df h] at hv ⊢;cases ah:cM A (al A x) with
  |none=>rw[ah] at hv;cases hv
  |some y=>rw[ah] at hv;rw[ki hu ah];exact hv
 case fa f off x =>
  simp only[bu,df h] at hv ⊢;generalize al A x=z at *;cases z <;>try (first | exact hv | (rename_i y;cases y <;>exact hv))
  rename_i n p;cases ah:cM A (.ptr n p) with
  |none=>simp only[ah] at hv;cases hv
  |some y=>simp only[ah] at hv;simp only[ki hu ah];exact hv
 case ia n esz x i =>
  simp only[bu,df h.l,df h.r] at hv ⊢;generalize al A x=z at *;cases z <;>try (first | exact hv | (rename_i y;cases y <;>exact hv))
  rename_i n p;cases ah:cM A (.ptr n p) with
  |none=>simp only[ah] at hv;(repeat' split at hv) <;>cases hv
  |some y=>simp only[ah] at hv;simp only[ki hu ah];exact hv
 case is esz x i =>
  simp only[bu,df h.l,df h.r] at hv ⊢;generalize al A i=q at *;cases q <;>try (exact hv)
  simp only at hv ⊢;generalize al A x=z at *;cases z <;>try (first | exact hv | (rename_i y;cases y <;>exact hv))
  ·rename_i n p;cases ah:A.o n with
   |none=>simp only[ah] at hv;cases hv
   |some y=>simp only[ah] at hv;simp only[hu n y ah];exact hv
  ·rename_i n p sz lo k;simp only at hv ⊢;cases ah:cM A (.ptr n p) with
   |none=>simp only[ah] at hv;cases hv
   |some y=>simp only[ah] at hv;simp only[ki hu ah];exact hv
 case len x =>
  simp only[bu,df h] at hv ⊢;generalize al A x=z at *;cases z <;>try (first | exact hv | (rename_i y;cases y <;>exact hv))
  rename_i n p;cases ah:A.o n with
  |none=>simp only[ah] at hv;cases hv
  |some y=>simp only[ah] at hv;simp only[hu n y ah];exact hv
 case cap x =>
  simp only[bu,df h] at hv ⊢;generalize al A x=z at *;cases z <;>try (first | exact hv | (rename_i y;cases y <;>exact hv))
  rename_i n p sz lo k;simp only at hv ⊢;cases ah:cM A (.ptr n p) with
  |none=>simp only[ah] at hv;cases hv
  |some y=>simp only[ah] at hv;simp only[ki hu ah];exact hv
 case bs0 esz=>exact hv
 case sl esz x lo hi mx =>
  simp only[bu,df h.l,re h.r.l,re h.r.r.l,re h.r.r.r] at hv ⊢;generalize al A x=z at *;cases z <;>try (first | exact hv | (rename_i y;cases y <;>exact hv))
  rename_i n p sz l0 k;simp only at hv ⊢;cases ah:cM A (.ptr n p) with
  |none=>simp only[ah] at hv;cases hv
  |some y=>simp only[ah] at hv;simp only[ki hu ah];exact hv
 case va n esz x =>
  simp only[bu,df h] at hv ⊢;generalize al A x=z at *;cases z <;>try (first | exact hv | (rename_i y;cases y <;>exact hv))
  rename_i n p;cases ah:cM A (.ptr n p) with
  |none=>simp only[ah] at hv;cases hv
  |some y=>simp only[ah] at hv;simp only[ki hu ah];exact hv
 case lk ty z ok m k =>
  simp only[bu,df h.l,df h.r] at hv ⊢;cases ah:gS A (al A m) with
  |none=>rw[ah] at hv;cases hv
  |some y=>rw[ah] at hv;rw[Zh hu ah];exact hv
 case ent x =>
  simp only[bu,df h] at hv ⊢;generalize al A x=z at *;cases z <;>try (exact hv)
  rename_i n;simp only at hv ⊢;cases ah:A.o n with
  |none=>simp only[ah] at hv;cases hv
  |some y=>simp only[ah] at hv;simp only[hu n y ah];exact hv
 case bs esz ps =>
  simp only[bu,ni h] at hv ⊢;cases ah:bZ false A (ps.map (al A)) with
  |none=>rw[ah] at hv;cases hv
  |some y=>rw[ah] at hv;rw[mr hu ah];exact hv
 all_goals (simp only[bu] at hv;cases hv)
end
def pass(A:ai)(g:aw):Prop:=match g.guard with | none=>True | some (t,b)=>A.t t=.bool b
def ig(A:ai)(g:aw):Prop:=match g.guard with | none=>False | some (t,b)=>A.t t=.bool (!b)∨A.t t=.undef
inductive j9 (P:Program) (A:ai):bU→I→Prop where
 |pure {op:bU} {v:I} : bu A op=some v→j9 P A op v
 |flat {f:FuncId} {args:List aV} {cargs:List I} {r:I} : bZ true A (args.map (al A))=some cargs→bp P f cargs r→r.flat=true→j9 P A (.call f args) r
 |lead {f:FuncId} {args:List aV} {cargs:List I} {r:I} : bZ false A (args.map (al A))=some cargs→bp P f cargs r→j9 P A (.call f args) r
 |wH {x:aV} {f:FuncId} {caps:List I} {args:List aV} {cargs:List I} {r:I} : al A x=.func f caps→bZ true A (jc f (args.map (al A)) caps)=some cargs→bp P (mq f) cargs r→r.flat=true→j9 P A (.fQ x args) r
 |wI {x:aV} {f:FuncId} {caps:List I} {args:List aV} {cargs:List I} {r:I} : al A x=.func f caps→bZ false A (jc f (args.map (al A)) caps)=some cargs→bp P (mq f) cargs r→j9 P A (.fQ x args) r
def uw(A:ai)(op:bU)(x:I):Prop:=op=.alloc x∨∃ y,op=.box y∧(al A y).bV=true∧x=al A y
def ux(A:ai)(op:bU)(n:Nat)(z:ak):Prop:=∃ s x v p b old,op=.bm s x v∧al A x=.ptr n p∧A.o n=some (.box b)∧b.at p=some old∧zc s (al A v) old∧z=.box (b.eF p (al A v))
def Jt(A:ai)(dst:Option Nat)(op:bU)(B:ai):Prop:=op.ir=5∧∀ (rest:List aw) (k:ai→cR),bt A dst op rest k=k B
theorem acz{A:ai}{neg:Bool}{x:aV}{v:I}(h:bu A (.nilS neg x)=some v):kM (al A x)=false:=by
 simp only[bu] at h;generalize al A x=q at *;cases q <;>simp only[kM] <;>simp only at h <;>try (cases h;done)
 rename_i sz es;cases es with
 |nil=>simp at h
 |cons=>rfl
inductive dD (P:Program) (g:aw) (A:ai):ai→Prop where
 |skip:ig A g→dD P g A (A.a8 g.dst .undef)
 |val {v:I} : pass A g→j9 P A g.op v→dD P g A (A.a8 g.dst v)
 |j0 {d:Nat} {x:I} : pass A g→g.dst=some d→uw A g.op x→A.o d=none→dD P g A ((A.aZ d (.box x)).put d (.ptr d []))
 |bm {n:Nat} {z:ak} : pass A g→g.dst=none→ux A g.op n z→dD P g A (A.aZ n z)
 |iS {B:ai} : pass A g→Jt A g.dst g.op B→dD P g A B
theorem xb{b' b:Bool}(h:b'≠b):b' = !b:=by cases b <;>cases b' <;>simp_all
section
variable {P:Program} {Y:Value→List I→List (Nat×ak)→cE→Prop} {K:ai→Prop}
theorem dD.FD{A:ai}{g:aw}{rest:List aw}(hp:pass A g)(h:aW P Y true K (bt A g.dst g.op rest (aC rest))):∃ B,dD P g A B∧aW P Y true K (aC rest B):=by
 have pure:aW P Y true K (cX (bu A g.op) fun v=>aC rest (A.a8 g.dst v))→∃ B,dD P g A B∧aW P Y true K (aC rest B):=by
  intro h;cases hv:bu A g.op with
  |none=>rw[hv] at h;cases h
  |some v=>rw[hv] at h;exact ⟨_,.val hp (.pure hv),h⟩
 obtain ⟨dst,op,gd⟩:=g;cases op with
 |alloc z =>
  simp only[bt] at h;split at h
  case h_2=>cases h
  split at h
  case h_2=>cases h
  rename_i ah _ ho;exact ⟨_,.j0 hp rfl (.inl rfl) ho,h⟩
 |box x =>
  simp only[bt] at h;split at h
  case h_2=>cases h
  split at h
  case h_2=>cases h
  rename_i ah _ ho;split at h
  case isFalse=>cases h
  rename_i hv;exact ⟨_,.j0 hp rfl (.inr ⟨x,rfl,hv,rfl⟩) ho,h⟩
 |bm s x v =>
  simp only[bt] at h;split at h
  case h_2=>cases h
  split at h
  case h_2=>cases h
  rename_i n p hx;split at h
  case h_2=>cases h
  rename_i b hb;split at h
  case h_2=>cases h
  rename_i old hat;split at h
  case isFalse=>cases h
  rename_i hok;exact ⟨_,.bm hp rfl ⟨s,x,v,p,b,old,rfl,hx,hb,hat,hok,rfl⟩,h⟩
 |nilS neg x =>
  simp only[bt] at h;split at h
  ·cases h with | any hdr=>cases hdr
  ·exact pure h
 |dy e esz bytes z s x =>
  simp only[bt] at h;split at h
  ·rename_i n l hs';split at h
   case h_2=>cases h
   rename_i sz ys hx';split at h
   case h_3=>cases h
   case h_2 =>
    rename_i T xs hn;split at h
    case isFalse=>cases h
    rename_i hok;exact ⟨_,.iS hp ⟨rfl,fun rest k=>by simp only[bt,hs',hx',hn,if_pos hok]⟩,h⟩
   rename_i T sz' es hn;split at h
   case isFalse=>cases h
   rename_i hok;exact ⟨_,.iS hp ⟨rfl,fun rest k=>by simp only[bt,hs',hx',hn,if_pos hok]⟩,h⟩
  ·rename_i hno;have hg:∀ (rest:List aw) (k:ai→cR),bt A dst (.dy e esz bytes z s x) rest k=fp A dst esz bytes z (al A s) (eI A esz (al A s)) (eI A esz (al A x)) k:=fun rest k=>by
    simp only[bt]
   simp only[fp] at h hg;split at h
   case h_2=>cases h
   rename_i es ys hse hsx;simp only[hse,hsx] at hg;have grow:¬ aW P Y true K (gK A dst esz bytes z es ys (aC rest)):=fun h=>by
    simp only[gK] at h;split at h
    case h_2=>cases h
    split at h
    case h_2=>cases h
    split at h
    case isFalse=>cases h
    cases h with | any hdr=>cases hdr
   split at h
   ·rename_i hne;simp only[if_pos hne] at hg;exact ⟨_,.iS hp ⟨rfl,hg⟩,h⟩
   ·rename_i hne;simp only[if_neg hne] at hg;split at h
    ·exact absurd h grow
    ·exact absurd h grow
    ·rename_i n p sz lo l hsv;split at h
     case h_2=>cases h
     rename_i b hn;split at h
     case h_2=>cases h
     rename_i fs hat;split at h
     ·rename_i hroom;split at h
      case isFalse=>cases h
      rename_i hok;simp only[hsv,hn,hat,if_pos hroom,if_pos hok] at hg;exact ⟨_,.iS hp ⟨rfl,hg⟩,h⟩
     ·exact absurd h grow
    ·cases h
 |lD f args =>
  simp only[bt] at h;cases h with | ext r hdr=>cases hdr
 |mZ e esz bytes z s n =>
  exfalso
  simp only[bt] at h;split at h
  case h_2=>cases h
  simp only[w4] at h;split at h
  case h_2=>cases h
  split at h
  case h_2=>cases h
  split at h
  case h_2=>cases h
  split at h
  case h_2=>cases h
  split at h
  case isFalse=>cases h
  simp only[gK] at h;split at h
  case h_2=>cases h
  split at h
  case h_2=>cases h
  split at h
  case isFalse=>cases h
  cases h with | any hdr=>cases hdr
 |jB =>
  simp only[bt] at h;split at h
  case h_2=>cases h
  rename_i d;split at h
  case h_2=>cases h
  rename_i hf;exact ⟨_,.iS hp ⟨rfl,fun rest k=>by simp only[bt,hf]⟩,h⟩
 |lM e bytes z n =>
  simp only[bt] at h;split at h
  case h_2=>cases h
  rename_i d;split at h
  case h_2=>cases h
  rename_i hf;split at h
  case h_2=>cases h
  rename_i k m hn;split at h
  case isFalse=>cases h
  rename_i hc;exact ⟨_,.iS hp ⟨rfl,fun rest k=>by simp only[bt,hf,hn,if_pos hc]⟩,h⟩
 |fg ty m key v =>
  simp only[bt] at h;split at h
  case h_2=>cases h
  split at h
  case h_2=>cases h
  rename_i n hm;split at h
  case h_2=>cases h
  rename_i ks vs hn;split at h
  case h_2=>cases h
  rename_i ks' vs' hl;exact ⟨_,.iS hp ⟨rfl,fun rest k=>by simp only[bt,hm,hn,hl]⟩,h⟩
 |jA ty m key =>
  simp only[bt] at h;split at h
  case h_2=>cases h
  split at h
  case h_2=>cases h
  rename_i n hm;split at h
  case h_2=>cases h
  rename_i ks vs hn;split at h
  case h_2=>cases h
  rename_i ks' vs' hl;exact ⟨_,.iS hp ⟨rfl,fun rest k=>by simp only[bt,hm,hn,hl]⟩,h⟩
 |kG x =>
  simp only[bt] at h;split at h
  case h_2=>cases h
  rename_i d;split at h
  case h_2=>cases h
  rename_i hf;split at h
  case h_2=>cases h
  rename_i ks vs hx;exact ⟨_,.iS hp ⟨rfl,fun rest k=>by simp only[bt,hf,hx]⟩,h⟩
 |jh x =>
  simp only[bt] at h;split at h
  case h_2=>cases h
  rename_i n hx;split at h
  case h_2=>cases h
  rename_i ks vs left cur hn;split at h
  ·rename_i hl;exact ⟨_,.iS hp ⟨rfl,fun rest k=>by simp only[bt,hx,hn,if_pos hl]⟩,h⟩
  ·cases h with | any hdr=>cases hdr
 |kh esz z x =>
  simp only[bt] at h;split at h
  case h_2=>cases h
  have hg:∀ (rest:List aw) (k:ai→cR),bt A none (.kh esz z x) rest k=ox A esz z k (al A x):=fun rest k=>rfl;simp only[ox] at h hg;split at h
  ·rename_i n p sz lo l hv;split at h
   case h_2=>cases h
   rename_i b hn;split at h
   case h_2=>cases h
   rename_i fs hat;split at h
   case isFalse=>cases h
   rename_i hok;simp only[hv,hn,hat,if_pos hok] at hg;exact ⟨_,.iS hp ⟨rfl,hg⟩,h⟩
  ·rename_i z0 hv;simp only[hv] at hg;exact ⟨_,.iS hp ⟨rfl,hg⟩,h⟩
  ·rename_i z0 hv;simp only[hv] at hg;exact ⟨_,.iS hp ⟨rfl,hg⟩,h⟩
  ·cases h
 |ml esz x y =>
  have hg:∀ (rest:List aw) (k:ai→cR),bt A dst (.ml esz x y) rest k=uO A dst esz k (al A x) (eI A esz (al A y)):=fun rest k=>rfl;simp only[bt] at h;simp only[uO] at h hg;split at h
  ·rename_i n p sz lo l ys hv hsx;split at h
   case h_2=>cases h
   rename_i b hn;split at h
   case h_2=>cases h
   rename_i fs hat;split at h
   case isFalse=>cases h
   rename_i hok;simp only[hv,hsx,hn,hat,if_pos hok] at hg;exact ⟨_,.iS hp ⟨rfl,hg⟩,h⟩
  ·cases h
 |call f args =>
  simp only[bt] at h;generalize U:bZ true A (args.map (al A))=a1 at h;generalize ab:bZ false A (args.map (al A))=a2 at h;cases h with
  |flat r hc hf hw=>exact ⟨_,.val hp (.flat U hc hf),hw⟩
  |lead r hc hw=>exact ⟨_,.val hp (.lead ab hc),hw⟩
  |jv ns r hdr=>cases hdr
  |bP aR ρ os cargs post hdr=>cases hdr
 |fQ x args =>
  simp only[bt] at h;split at h
  case h_3=>cases h
  case h_2=>cases h with | wJ os cargs post hdr=>cases hdr
  rename_i f caps hx;generalize U:bZ true A (jc f (args.map (al A)) caps)=a1 at h;generalize ab:bZ false A (jc f (args.map (al A)) caps)=a2 at h;cases h with
  |flat r hc hf hw=>exact ⟨_,.val hp (.wH hx U hc hf),hw⟩
  |lead r hc hw=>exact ⟨_,.val hp (.wI hx ab hc),hw⟩
  |jv ns r hdr=>cases hdr
  |bP aR ρ os cargs post hdr=>cases hdr
 |_=>exact pure (by simpa only[bt] using h)
theorem dD.y9{A:ai}{g:aw}{rest:List aw}(h:aW P Y true K (aC (g::rest) A)):∃ B,dD P g A B∧aW P Y true K (aC rest B):=by
 simp only[aC] at h;split at h
 ·rename_i hg;exact dD.FD (by simp only[pass,hg]) h
 ·rename_i t b hg;split at h
  ·rename_i b' hb;split at h
   ·rename_i hbb;subst hbb;exact dD.FD (by simp only[pass,hg];exact hb) h
   ·rename_i hbb;refine ⟨_,.skip (by simp only[ig,hg];exact .inl (by rw[hb,xb hbb])),h⟩
  ·rename_i hb;exact ⟨_,.skip (by simp only[ig,hg];exact .inr hb),h⟩
  ·cases h
theorem px{A:ai}{g:aw}{rest:List aw}(hp:pass A g):aC (g::rest) A=bt A g.dst g.op rest (aC rest):=by
 simp only[aC];cases hg:g.guard with
 |none=>rfl
 |some tb =>
  obtain ⟨t,b⟩:=tb;simp only[pass,hg] at hp;simp only[hp,if_true]
theorem dD.Af{A B:ai}{g:aw}{rest:List aw}(h:dD P g A B)(hw:aW P Y true K (aC rest B)):aW P Y true K (aC (g::rest) A):=by
 cases h with
 |skip hn =>
  simp only[aC];cases hg:g.guard with
  |none=>simp only[ig,hg] at hn
  |some tb =>
   obtain ⟨t,b⟩:=tb;simp only[ig,hg] at hn;rcases hn with hn | hn
   ·simp only[hn];rw[if_neg (by cases b <;>simp)];exact hw
   ·simp only[hn];exact hw
 |val hp hv =>
  rw[px hp];obtain ⟨dst,op,gd⟩:=g;cases hv with
  |pure hv =>
   have hv':bu A op=some _:=hv;cases op <;>try (simp only[bt,hv',cX] <;>first | exact hw | (simp only[bu] at hv';cases hv');done)
   all_goals first
    |(simp only[bu] at hv';cases hv';done)
    |(simp only[bt,acz hv',zz5,if_false,hv',cX];exact hw)
  |flat U ab af=>simp only[bt,U];exact .flat _ ab af hw
  |lead U ab=>simp only[bt,U];exact .lead _ ab hw
  |wH bf U ab af=>simp only[bt,bf,U];exact .flat _ ab af hw
  |wI bf U ab=>simp only[bt,bf,U];exact .lead _ ab hw
 |j0 hp ah hm ho =>
  rw[px hp];obtain ⟨dst,op,gd⟩:=g;simp only at ah;subst ah;rcases hm with hm | ⟨y,hm,hv,rfl⟩ <;>simp only at hm <;>subst hm
  ·simp only[bt,ho];exact hw
  ·simp only[bt,ho,hv,if_true];exact hw
 |bm hp ah hm =>
  rw[px hp];obtain ⟨dst,op,gd⟩:=g;simp only at ah;subst ah;obtain ⟨s,x,v,p,b,old,U,ab,af,ar,h5,rfl⟩:=hm;simp only at U;subst U;simp only[bt,ab,af,ar,if_pos h5];exact hw
 |iS hp hm =>
  rw[px hp,hm.2];exact hw
theorem j9.cT{A A':ai}{op:bU}{v:I}(h:j9 P A op v)(hu:eA A A')(ha:ej A A' op.cY):j9 P A' op v:=by
 cases h with
 |pure h=>exact .pure (F9 hu ha h)
 |flat U ab af=>exact .flat (by rw[ni ha];exact mr hu U) ab af
 |lead U ab=>exact .lead (by rw[ni ha];exact mr hu U) ab
 |wH bf U ab af=>simp only[bU.cY] at ha;exact .wH (by rw[df ha.l];exact bf) (by rw[ni ha.r];exact mr hu U) ab af
 |wI bf U ab=>simp only[bU.cY] at ha;exact .wI (by rw[df ha.l];exact bf) (by rw[ni ha.r];exact mr hu U) ab
theorem j9.jv{A A':ai}{op:bU}{v:I}(h:j9 P A op v)(hc:op.ir=0)(ha:ej A A' op.cY):j9 P A' op v:=by
 cases h with
 |pure h=>exact .pure (by rw[zq hc ha];exact h)
 |_=>simp[bU.ir] at hc
theorem oK{A A':ai}{g:aw}(ha:ej A A' g.cY)(h:pass A g):pass A' g:=by
 unfold pass at *;cases hg:g.guard with
 |none=>trivial
 |some tb=>simp only[hg] at h ⊢;rw[ha tb.1 (by simp[aw.cY,hg])];exact h
theorem rH{A A':ai}{g:aw}(ha:ej A A' g.cY)(h:ig A g):ig A' g:=by
 unfold ig at *;cases hg:g.guard with
 |none=>simp only[hg] at h
 |some tb=>simp only[hg] at h ⊢;rw[ha tb.1 (by simp[aw.cY,hg])];exact h
theorem aw.ln{A A':ai}{g:aw}(ha:ej A A' g.cY):ej A A' g.op.cY:=fun k hk=>ha k (zv7 _ hk)
def ma(P:Program)(g:aw)(A:ai)(v:I):Prop:=(ig A g∧v=.undef)∨(pass A g∧j9 P A g.op v)
theorem ma.step{A:ai}{g:aw}{v:I}(h:ma P g A v):dD P g A (A.a8 g.dst v):=by
 rcases h with ⟨h,rfl⟩ | ⟨h,k⟩
 ·exact .skip h
 ·exact .val h k
theorem ma.cT{A A':ai}{g:aw}{v:I}(h:ma P g A v)(hu:eA A A')(ha:ej A A' g.cY):ma P g A' v:=by
 rcases h with ⟨h,rfl⟩ | ⟨h,k⟩
 ·exact .inl ⟨rH ha h,rfl⟩
 ·exact .inr ⟨oK ha h,k.cT hu (aw.ln ha)⟩
theorem ma.jv{A A':ai}{g:aw}{v:I}(h:ma P g A v)(hc:g.op.ir=0)(ha:ej A A' g.cY):ma P g A' v:=by
 rcases h with ⟨h,rfl⟩ | ⟨h,k⟩
 ·exact .inl ⟨rH ha h,rfl⟩
 ·exact .inr ⟨oK ha h,k.jv hc (aw.ln ha)⟩
theorem dD.Ac{A B:ai}{g:aw}(h:dD P g A B)(hc:g.op.ir≤2):∃ v,ma P g A v∧B=A.a8 g.dst v:=by
 cases h with
 |skip h=>exact ⟨_,.inl ⟨h,rfl⟩,rfl⟩
 |val h k=>exact ⟨_,.inr ⟨h,k⟩,rfl⟩
 |j0 U ab af ar=>rcases af with af | ⟨y,af,_⟩ <;>(rw[af] at hc;simp[bU.ir] at hc)
 |bm U ab af=>obtain ⟨s,x,v,p,b,old,ar,_⟩:=af;rw[ar] at hc;simp[bU.ir] at hc
 |iS U af=>rw[af.1] at hc;omega
theorem rM{A:ai}{a b:Option Nat}{v u:I}(h:∀ d,a=some d→b≠some d):(A.a8 a v).a8 b u=(A.a8 b u).a8 a v:=by
 cases a with
 |none=>rfl
 |some d=>cases b with
  |none=>rfl
  |some e =>
   have hne:d≠e:=fun he=>h d rfl (by rw[he]);simp only[ai.a8,ai.put,ai.mk.injEq,and_true]
   funext k
   by_cases U:k=e <;>by_cases ab:k=d <;>simp_all
theorem jm{A:ai}{d:Option Nat}{v:I} : (A.a8 d v).o=A.o:=by cases d <;>rfl
theorem nC{A:ai}{d:Option Nat}{v:I}{l:List Nat}(h:∀ k,d=some k→k∉l):ej A (A.a8 d v) l:=by
 cases d with
 |none=>exact fun _ _=>rfl
 |some e =>
  intro k hk;have:k≠e:=fun he=>h e rfl (he▸hk);simp[ai.a8,ai.put,this]
theorem ej.symm{A A':ai}{l:List Nat}(h:ej A A' l):ej A' A l:=fun k hk=>(h k hk).symm
theorem uw.same{A A':ai}{op:bU}{x:I}(h:uw A op x)(ha:ej A A' op.cY):uw A' op x:=by
 rcases h with h | ⟨y,U,ab,af⟩
 ·exact .inl h
 ·subst U;have:=df (x:=y) ha;exact .inr ⟨y,rfl,by rw[this];exact ab,by rw[this];exact af⟩
theorem ux.same{A A':ai}{op:bU}{n:Nat}{z:ak}(h:ux A op n z)(ho:A'.o=A.o)(ha:ej A A' op.cY):ux A' op n z:=by
 obtain ⟨s,x,v,p,b,old,U,ab,af,ar,h5,h6⟩:=h;subst U;simp only[bU.cY] at ha;have e1:=df ha.l;have e2:=df ha.r;exact ⟨s,x,v,p,b,old,rfl,by rw[e1];exact ab,by rw[ho];exact af,ar,by rw[e2];exact h5,by rw[e2];exact h6⟩
theorem YB{g h:aw}(hi:oD g h=true):xz g.op.ir h.op.ir=true∧(∀ d,g.dst=some d→d∉h.cY)∧(∀ d,g.dst=some d→h.dst≠some d)∧(∀ d,h.dst=some d→d∉g.cY):=by
 simp only[oD,zz1] at hi;obtain ⟨⟨U,ab⟩,af⟩:=hi;refine ⟨U,fun d ah =>?_,fun d ah =>?_,fun d ah =>?_⟩
 ·rw[ah] at ab;simp at ab;exact ab.1
 ·rw[ah] at ab;simp at ab;exact ab.2
 ·rw[ah] at af;simpa using af
theorem dD.ub{A B C:ai}{g h:aw}(hi:oD g h=true)(U:dD P g A B)(ab:dD P h B C):∃ B',dD P h A B'∧dD P g B' C:=by
 obtain ⟨hc,i1,i2,i3⟩:=YB hi;simp only[xz,Bool.or_eq_true,zz1,decide_eq_true_eq,beq_iff_eq] at hc;have hg2:g.op.ir≤2:=by rcases hc with hc | hc <;>omega
 obtain ⟨v,hv,rfl⟩:=U.Ac hg2;have ag:ej (A.a8 g.dst v) A h.cY:=(nC i1).symm;have cT:eA (A.a8 g.dst v) A:=fun n x hx=>by rwa [jm] at hx
 cases ab with
 |skip hn =>
  exact ⟨_,.skip (rH ag hn),by
   rw[rM i2];exact (hv.cT (by intro n x hx;rwa [jm]) (nC i3)).step⟩
 |val hp hu =>
  exact ⟨_,.val (oK ag hp) (hu.cT cT (aw.ln ag)),by
   rw[rM i2];exact (hv.cT (by intro n x hx;rwa [jm]) (nC i3)).step⟩
 |j0 hp ah hm ho =>
  rename_i d x;rw[jm] at ho;refine ⟨_,.j0 (oK ag hp) ah (hm.same (aw.ln ag)) ho,?_⟩;have e:((A.a8 g.dst v).aZ d (.box x)).put d (.ptr d [])=((A.aZ d (.box x)).put d (.ptr d [])).a8 g.dst v:=by
   cases hgd:g.dst with
   |none=>rfl
   |some e =>
    have hne:e≠d:=fun he=>i2 e hgd (by rw[ah,he]);simp only[ai.a8,ai.put,ai.aZ,ai.mk.injEq,and_true]
    funext k
    by_cases U:k=e <;>by_cases ab:k=d <;>simp_all
  rw[e];refine (hv.cT (fun n y hy =>?_) (fun k hk =>?_)).step
  ·have:n≠d:=fun he=>by rw[he,ho] at hy;cases hy
   simp only[ai.put,ai.aZ,this,if_false];exact hy
  ·have:k≠d:=fun he=>i3 d ah (he▸hk);simp only[ai.put,ai.aZ,this,if_false]
 |bm hp ah hm =>
  rename_i n z;have hc0:g.op.ir=0:=by
   obtain ⟨s,x,v,p,b,old,ar,_⟩:=hm;rcases hc with hc | hc
   ·rw[ar] at hc;exact absurd hc.2 (by simp[bU.ir])
   ·exact hc.1
  refine ⟨_,.bm (oK ag hp) ah (hm.same jm.symm (aw.ln ag)),?_⟩;have e:(A.a8 g.dst v).aZ n z=(A.aZ n z).a8 g.dst v:=by cases g.dst <;>rfl
  rw[e];exact (ma.jv (A':=A.aZ n z) hv hc0 (fun _ _=>rfl)).step
 |iS hp hm =>
  exfalso
  rw[hm.1] at hc;omega
theorem aW.ub{A:ai}{g h:aw}{rest:List aw}(hi:oD g h=true)(hw:aW P Y true K (aC (g::h::rest) A)):aW P Y true K (aC (h::g::rest) A):=by
 obtain ⟨B,U,ab⟩:=dD.y9 hw;obtain ⟨C,af,ar⟩:=dD.y9 ab;obtain ⟨B',h5,h6⟩:=dD.ub hi U af;exact h5.Af (h6.Af ar)
theorem aW.qS{g:aw} : ∀ {l:List aw} {r:List aw} {A:ai},(∀ j∈l,oD j g=true)→aW P Y true K (aC (l++g::r) A)→aW P Y true K (aC (g::(l++r)) A)
 | [],r,A,_,h=>h
 |j::l,r,A,hi,h=>by
  obtain ⟨B,U,ab⟩:=dD.y9 (g:=j) (rest:=l++g::r) h;have af:=aW.qS (l:=l) (r:=r) (fun k hk=>hi k (by simp[hk])) ab;exact aW.ub (hi j (by simp)) (U.Af af)
end
def cC(o:Oper):List Nat:=(o.after.toList.filter fun e=>Region.binds .any e).map (·.on)
def mR(cl:List Nat):List Nat→Nat
 | []=>0
 |k::ks=>(2^k ||| cl.getD k 0) ||| mR cl ks
def uT(on:List (List Nat))(gs:List aw)(cl:List Nat):Bool :=
 (List.range gs.length).all fun i=>(on.getD i []).all (fun k=>decide (k<i))&&Nat.beq (cl.getD i 0) (mR cl (on.getD i [])) &&
  (List.range i).all fun j=>(cl.getD i 0).testBit j||oD (gs.getD j default) (gs.getD i default)
theorem uf{cl:List Nat}{j:Nat} : ∀ {l:List Nat},(mR cl l).testBit j=true→j∈l∨∃ k∈l,(cl.getD k 0).testBit j=true
 | [],h=>by simp[mR] at h
 |k::ks,h=>by
  simp only[mR,Nat.testBit_or,Bool.or_eq_true,Nat.testBit_two_pow,decide_eq_true_eq] at h;rcases h with (h | h) | h
  ·exact .inl (by simp[h])
  ·exact .inr ⟨k,by simp,h⟩
  ·rcases uf h with h | ⟨m,U,ab⟩
   ·exact .inl (by simp[h])
   ·exact .inr ⟨m,by simp[U],ab⟩
structure wN (l:List Oper) (gs:List aw):Prop where
 gL:∀ i o,l[i]?=some o→∀ k∈cC o,k<i
 sR:∀ (S:Nat→Prop),(∀ i o,l[i]?=some o→S i→∀ k∈cC o,S k)→∀ i o g j,l[i]?=some o→gs[i]?=some g→(∀ k∈cC o,S k)→j<i→¬ S j→oD (gs.getD j default) g=true
theorem OS{l:List Oper}{gs:List aw}{cl:List Nat}(hlen:gs.length=l.length)(h:uT (l.map cC) gs cl=true):wN l gs:=by
 simp only[uT,zx6,zy9] at h;have gp:∀ i o,l[i]?=some o→∃ g,gs[i]?=some g∧(∀ k∈cC o,k<i)∧(∀ j,(cl.getD i 0).testBit j=true→j∈cC o∨∃ k∈cC o,(cl.getD k 0).testBit j=true)∧∀ j,j<i→(cl.getD i 0).testBit j=true∨oD (gs.getD j default) g=true:=by
  intro i o ho;have hi:i<l.length:=(zy0.1 ho).1;have U:=h i (by omega);have hon:(l.map cC).getD i []=cC o:=by simp[zz2,ho]
  have hgi:i<gs.length:=by omega
  have hg:gs[i]?=some gs[i]:=zx3 hgi;have hgd:gs.getD i default=gs[i]:=by simp[zz2,hg]
  rw[hon,hgd] at U;simp only[zz1,zx6,decide_eq_true_eq,Bool.or_eq_true,zy9] at U;have hb:=Nat.eq_of_beq_eq_true U.1.2;exact ⟨_,hg,U.1.1,fun j hj=>uf (by rw[←hb];exact hj),U.2⟩
 refine ⟨fun i o ho=>(gp i o ho).choose_spec.2.1,?_⟩;intro S hS i o g j ho hg hon hj hnj;have key:∀ n i o,i≤n→l[i]?=some o→(∀ k∈cC o,S k)→∀ j,(cl.getD i 0).testBit j=true→S j:=by
  intro n
  induction n with
  |zero =>
   intro i o hi ho hon j hj;obtain ⟨g,_,U,ab,_⟩:=gp i o ho;rcases ab j hj with h | ⟨k,hk,_⟩
   ·exact hon j h
   ·have:=U k hk;omega
  |succ n ih =>
   intro i o hi ho hon j hj;obtain ⟨g,_,U,ab,_⟩:=gp i o ho;rcases ab j hj with h | ⟨k,hk,hjk⟩
   ·exact hon j h
   ·have hki:=U k hk;have hkl:k<l.length:=Nat.lt_trans hki (zy0.1 ho).1;obtain ⟨ok,hok⟩:∃ ok,l[k]?=some ok:=⟨l[k],zx3 hkl⟩
    exact ih k ok (by omega) hok (hS k ok hok (hon k hk)) j hjk
 obtain ⟨g',hg',_,_,af⟩:=gp i o ho;rw[hg,u8] at hg';subst hg';rcases af j hj with h | h
 ·exact absurd (key i i o (zz9 _) ho hon j h) hnj
 ·exact h
def jI(listed:Array Bool)(n:Nat):List Nat:=(List.range n).filter fun i => !listed.getD i true
def qa(gs:List aw)(listed:Array Bool)(n:Nat):List aw:=(jI listed n).map fun i=>gs.getD i default
theorem Ha{i n:Nat}(h:i<n):List.range n=List.range i++i::(List.range (n-(i+1))).map (i+1 + ·):=by
 conv=>lhs;rw[show n=(i+1)+(n-(i+1)) by omega,List.range_add]
 rw[List.range_succ];simp
theorem abe{listed:Array Bool}{i n:Nat}(h:i<n)(hs:listed.size=n)(hu:listed.getD i true=false):∃ l1 l2,jI listed n=l1++i::l2∧jI (listed.setIfInBounds i true) n=l1++l2∧∀ j∈l1,j<i∧listed.getD j true=false:=by
 have same:∀ j,j≠i→(listed.setIfInBounds i true).getD j true=listed.getD j true:=fun j hj=>getD_set_ne true (Ne.symm hj);have hit:(listed.setIfInBounds i true).getD i true=true:=by simp[hs,h]
 refine ⟨(List.range i).filter fun j => !listed.getD j true,((List.range (n-(i+1))).map (i+1 + ·)).filter fun j => !listed.getD j true,?_,?_,?_⟩
 ·simp only[jI];rw[Ha h,List.filter_append,zw0];simp only[hu,Bool.not_false,if_true]
 ·simp only[jI];rw[Ha h,List.filter_append,zw0];simp only[hit,Bool.not_true,zz5,if_false]
  congr 1
  ·refine List.filter_congr fun j hj =>?_;rw[same j (by have:=zy9.1 hj;omega)]
  ·refine List.filter_congr fun j hj =>?_;obtain ⟨k,_,rfl⟩:=zy7.1 hj;rw[same _ (by omega)]
 ·intro j hj;simp only[zx5,zy9,Bool.not_eq_true'] at hj;exact hj
theorem Hk{n:Nat} : jI (Array.replicate n false) n=List.range n:=by
 simp only[jI];refine List.filter_eq_self.2 fun i hi =>?_;have:=zy9.1 hi;simp[this]
theorem Zi(gs:List aw):((List.range gs.length).map fun i=>gs.getD i default)=gs:=by
 apply List.ext_getElem
 ·simp
 ·intro i U ab;simp[zz2,ab]
section
variable {c:c4}
theorem lH{P:Program}{n:Nat}{bo:Array Oper} : ∀ {l:List Oper} {gs:List aw},gO P n bo l=some gs→gs.length=l.length∧∀ (i:Nat) (o:Oper),l[i]?=some o→∃ g,gs[i]?=some g∧nd P n bo o=some g
 | [],gs,h=>by simp only[gO,u8] at h;subst h;exact ⟨rfl,fun i o ho=>by simp at ho⟩
 |o::l,gs,h=>by
  simp only[gO] at h;split at h
  case h_2=>cases h
  rename_i g gs' hg hgs;simp only[u8] at h;subst h;obtain ⟨U,ab⟩:=lH (l:=l) hgs;refine ⟨by simp[U],fun i o' ho =>?_⟩;cases i with
  |zero=>simp only[List.getElem?_cons_zero,u8] at ho;subst ho;exact ⟨g,rfl,hg⟩
  |succ i=>simpa using ab i o' (by simpa using ho)
theorem Xx{K:ai→Prop}{bo:Array Oper}{Q:Exit→Act→World→Prop}{o:Oper}{g:aw}{rest:List aw}{A:ai}{a:Act}{w:World}{Kw:Act→World→Prop}(hg:nd c.P c.n bo o=some g)(hwp:aW c.P c.Y true K (aC (g::rest) A))(hs:cd c A a w)
  (hK:∀ B a' w',aW c.P c.Y true K (aC rest B)→cd c B a' w'→Kw a' w'):if Region.wanted o (yielded bo a.tmps) then o.wpIn c.aY 9 c.P a w Kw Q else (∀ f,o.about c.P w a.eval=some f→c.aY.fn f)∧Kw (a.put o.dst undef) w:=by
 obtain ⟨U,ab,af,ar⟩:=pA hg;have step:aW c.P c.Y true K (bt A g.dst g.op rest (aC rest))→o.wpIn c.aY 9 c.P a w Kw Q:=fun h =>
  vb U ab.symm (by rw[ab];exact af) h hs (fun B a' w' hw hs'=>hK B a' w' hw hs')
 simp only[aC] at hwp;rcases ar with ⟨h5,h6⟩ | ⟨j,b,t,h5,h6,h7⟩
 ·rw[h6] at hwp;have hw:Region.wanted o (yielded bo a.tmps)=true:=by simp[Region.wanted,h5]
  rw[hw,if_pos rfl];exact step hwp
 ·rw[h7] at hwp;simp only at hwp;split at hwp
  ·rename_i b' hb';rw[vg hs h5 h6 hb'];split at hwp
   ·rename_i hbb;subst hbb;simp only[BEq.rfl,if_true];exact step hwp
   ·rename_i hbb;have:(b'==b)=false:=by simpa using hbb
    rw[this];simp only[zz5,if_false];exact ⟨fun f _=>nk c f,hK _ _ _ hwp (by rw[ab];exact hs.oP af)⟩
  ·rename_i hb';rw[vh hs h5 h6 hb'];simp only[zz5,if_false];exact ⟨fun f _=>nk c f,hK _ _ _ hwp (by rw[ab];exact hs.oP af)⟩
  ·cases hwp
theorem JS{K:ai→Prop}{bo:Array Oper}{gs:List aw}{Q:Exit→Act→World→Prop}(hQ:∀ B a w,K B→cd c B a w→Q .normal a w)(hgs:gO c.P c.n bo bo.toList=some gs)(ah:wN bo.toList gs) :
  ∀ (fuel:Nat) (listed:Array Bool) (A:ai) (a:Act) (w:World),listed.size=bo.size→(∀ i o,bo.toList[i]?=some o→listed.getD i false=true→∀ k∈cC o,listed.getD k false=true)→(jI listed bo.size).length≤fuel →
   aW c.P c.Y true K (aC (qa gs listed bo.size) A)→cd c A a w→wpAnyIn c.aY 9 c.P .any bo Q fuel listed a w:=by
 obtain ⟨hlen,hat⟩:=lH hgs;have onOf_mem:∀ (o:Oper) (e:Edge),e∈o.after→Region.binds .any e=true→e.on∈cC o:=fun o e he hb=>by
  simp only[cC,zy7,zx5];exact ⟨e,⟨by simpa using he,hb⟩,rfl⟩
 have of_onOf:∀ (o:Oper) (k:Nat),k∈cC o→∃ e∈o.after,Region.binds .any e=true∧e.on=k:=fun o k hk=>by
  simp only[cC,zy7,zx5] at hk;obtain ⟨e,⟨U,ab⟩,af⟩:=hk;exact ⟨e,by simpa using U,ab,af⟩
 have last:∀ (listed:Array Bool) (A:ai) (a:Act) (w:World),listed.size=bo.size→Region.ready .any bo listed=[]→aW c.P c.Y true K (aC (qa gs listed bo.size) A)→cd c A a w→Q .normal a w:=by
  intro listed A a w hsz hr hwp hs;have hnone:jI listed bo.size=[]:=by
   have all:∀ n,∀ i,i<n→i<bo.size→listed.getD i true=true:=by
    intro n
    induction n with
    |zero=>intro i hi;omega
    |succ n ih =>
     intro i hi his;cases hb:listed.getD i true with
     |true=>rfl
     |false =>
      exfalso
      have ho:bo[i]?=some bo[i]:=Array.getElem?_eq_getElem his;have:i∈Region.ready .any bo listed:=mem_ready.2 ⟨hb,bo[i],ho,fun e he hbd=>by
       have hlt:=ah.gL i bo[i] (by simp) e.on (onOf_mem _ e he hbd);have U:=ih e.on (by omega) (by omega);have ab:e.on<listed.size:=by omega
       simpa[Array.getD_eq_getD_getElem?,ab] using U⟩
      rw[hr] at this;cases this
   simp only[jI];refine List.filter_eq_nil_iff.2 fun i hi =>?_;have:=all (i+1) i (by omega) (zy9.1 hi);simp only[this,Bool.not_true,zz5,not_false_eq_true]
  simp only[qa,hnone,zx8,aC] at hwp;cases hwp with
  |done hk=>exact hQ A a w hk hs
 intro fuel
 induction fuel with
 |zero =>
  intro listed A a w hsz hcl hcnt hwp hs;have hnone:jI listed bo.size=[]:=List.length_eq_zero_iff.1 (by omega);have hr:Region.ready .any bo listed=[]:=by
   refine List.eq_nil_iff_forall_not_mem.2 fun i hi =>?_;obtain ⟨U,o,ho,_⟩:=mem_ready.1 hi;have:i∈jI listed bo.size:=by
    simp only[jI,zx5,zy9,U,Bool.not_false,and_true];exact (zx1.1 ho).1
   rw[hnone] at this;cases this
  exact ⟨hr,last listed A a w hsz hr hwp hs⟩
 |succ fuel ih =>
  intro listed A a w hsz hcl hcnt hwp hs;refine ⟨fun hr=>last listed A a w hsz hr hwp hs,fun i hi =>?_⟩;obtain ⟨hun,o,ho,hall⟩:=mem_ready.1 hi;have hin:i<bo.size:=(zx1.1 ho).1;obtain ⟨l1,l2,e1,e2,hl1⟩:=abe hin hsz hun;have hol:bo.toList[i]?=some o:=by simpa using ho
  obtain ⟨g,hgi,hcg⟩:=hat i o hol;have hon:∀ k∈cC o,listed.getD k false=true:=fun k hk=>by
   obtain ⟨e,U,ab,af⟩:=of_onOf o k hk;exact af▸hall e U ab
  have hgd:gs.getD i default=g:=by simp[zz2,hgi]
  have hwp':aW c.P c.Y true K (aC (g::qa gs (listed.setIfInBounds i true) bo.size) A):=by
   simp only[qa,e1,zx2,zz7,hgd] at hwp;simp only[qa,e2,zx2];refine aW.qS (fun j hj =>?_) hwp;obtain ⟨k,hk,rfl⟩:=zy7.1 hj;obtain ⟨hk1,hk2⟩:=hl1 k hk;refine ah.sR (fun k=>listed.getD k false=true) hcl i o g k hol hgi hon hk1 ?_;have hks:k<listed.size:=by omega
   simp[Array.getD_eq_getD_getElem?,hks] at hk2 ⊢;exact hk2
  unfold wpOpIn;rw[ho];refine Xx hcg hwp' hs fun B a' w' hw hs'=>ih _ B a' w' (by simpa using hsz) ?_ ?_ hw hs'
  ·intro m om hom hm k hk;by_cases hmi:m=i
   ·subst hmi;rw[hol,u8] at hom;subst hom;exact getD_set_true (hon k hk)
   ·rw[getD_set_ne false (Ne.symm hmi)] at hm;exact getD_set_true (hcl m om hom hm k hk)
  ·have:(jI listed bo.size).length=(jI (listed.setIfInBounds i true) bo.size).length+1:=by
    rw[e1,e2];simp;omega
   omega
theorem abd{K:ai→Prop}{bo:Array Oper}{gs:List aw}{Q:Exit→Act→World→Prop}{id:Nat}{A:ai}{a:Act}{w:World}(hm:c.P.follows .mixedOrders=true)(hQ:∀ B a w,K B→cd c B a w→Q .normal a w)(hgs:gO c.P c.n bo bo.toList=some gs)(ah:wN bo.toList gs)
  (hwp:aW c.P c.Y true K (aC gs A)) (hs:cd c A a w):(Code.region id bo true).wpIn c.aY 9 c.P Q a w:=by
 refine wpIn_region_any hm (JS hQ hgs ah bo.size (Array.replicate bo.size false) A a _ (by simp) ?_ ?_ ?_ ?_)
 ·intro i o _ h
  exfalso
  simp only[Array.getD_eq_getD_getElem?,Array.getElem?_replicate] at h;split at h <;>simp at h
 ·rw[Hk];simp
 ·have hl:=(lH hgs).1;simp only[zw4] at hl;simp only[qa,Hk];rw[←hl,Zi];exact hwp
 ·obtain ⟨D,E,hs⟩:=hs;exact ⟨D,E,hs.grow (w' := { w with drawn:=w.drawn+1 }) ⟨rfl,rfl,rfl,zz9 _,fun _ _=>rfl⟩ (fun _ _ h=>h) (fun _ _ h _=>h) (fun b o h=>hs.aK b o h)⟩
end
inductive bH where
 |cj (on:Option (List (List Nat))) (gs:List aw)
 |seq (x y:bH)
 |cond (b:aV) (x y:bH)
 |block (id:Nat) (x:bH)
 |loop (x:bH)
 |exit (id:Nat)
 |ret
 |skip
 |scope (x:bH)
 |label
 |w7
 |nN (f:aV) (ps:List Nat) (x y:bH)
 deriving Inhabited
def eJ(P:Program)(n:Nat):Code→Option bH
 | .region _ bo draw=>match gO P n bo bo.toList with
  |some gs=>if (!draw||P.follows .mixedOrders)=true then some (.cj (bif draw then some (bo.toList.map cC) else none) gs) else none
  |none=>some .w7
 | .seq x y=>match eJ P n x,eJ P n y with
  |some x,some y=>some (.seq x y)
  |_,_=>none
 | .cond b x y=>match bF P 0 b,eJ P n x,eJ P n y with
  |some b,some x,some y=>some (.cond b x y)
  |_,_,_=>none
 | .block id x=>match eJ P n x with
  |some x=>some (.block id x)
  |none=>none
 | .loop x=>match eJ P n x with
  |some x=>some (.loop x)
  |none=>none
 | .exit id=>some (.exit id)
 | .ret=>some .ret
 | .skip=>some .skip
 | .scope x=>match eJ P n x with
  |some x=>some (.scope x)
  |none=>none
 | .label _=>some .label
 | .rangeFunc f ps x y=>match bF P 0 f,eJ P n x,eJ P n y with
  |some f,some x,some y=>if (ps.toList.all fun p=>p<n)=true then some (.nN f ps.toList x y) else none
  |_,_,_=>none
 |_=>none
def vr(c:c4)(Q:Exit→ai→Prop):Exit→Act→World→Prop:=fun e a w=>∃ A,Q e A∧cd c A a w
def ae(c:c4)(x:bH)(Q:Exit→ai→Prop)(A:ai):Prop :=
 ∀ code,eJ c.P c.n code=some x→∀ a w,cd c A a w→code.wpIn c.aY 9 c.P (vr c Q) a w
def ee(k:ai→Prop)(Q:Exit→ai→Prop):Exit→ai→Prop
 | .normal,A=>k A
 |e,A=>Q e A
def jT(id:Nat)(Q:Exit→ai→Prop):Exit→ai→Prop
 | .exit id',A=>if id'=id then Q .normal A else Q (.exit id') A
 |e,A=>Q e A
section
variable {c:c4} {A:ai} {Q:Exit→ai→Prop}
def Ou(d:Option (List (List Nat)))(gs:List aw)(cl:List Nat):Bool:=match d with
 |none=>true
 |some on=>uT on gs cl
theorem ae.cj{d:Option (List (List Nat))}{gs:List aw}{cl:List Nat}(ah:Ou d gs cl=true)(h:∀ K:ai→Prop,(∀ B,Q .normal B→K B)→aW c.P c.Y d.isSome K (aC gs A)):ae c (.cj d gs) Q A:=by
 intro code hc a w hs;cases code <;>simp only[eJ] at hc <;>try (first | (cases hc;done) | ((repeat' split at hc) <;>cases hc;done))
 rename_i id bo draw;split at hc
 ·rename_i gs' hgs;split at hc
  case isFalse=>cases hc
  rename_i hok;simp only[u8,bH.cj.injEq] at hc;obtain ⟨rfl,rfl⟩:=hc;cases draw with
  |false=>exact wpIn_region_list (vf (K:=Q .normal) (fun B a w hk hs=>⟨B,hk,hs⟩) bo.toList gs' A a w hgs (h _ fun _ hb=>hb) hs)
  |true =>
   simp only[Bool.not_true,Bool.false_or] at hok;exact abd (K:=Q .normal) hok (fun B a w hk hs=>⟨B,hk,hs⟩) hgs (OS (lH hgs).1 ah) (h _ fun _ hb=>hb) hs
 ·cases hc
theorem ae.seq{x y:bH}(h:ae c x (ee (fun B=>ae c y Q B) Q) A):ae c (.seq x y) Q A:=by
 intro code hc a w hs;cases code <;>simp only[eJ] at hc <;>try (first | (cases hc;done) | ((repeat' split at hc) <;>cases hc;done))
 rename_i cx cy;split at hc
 ·rename_i x' y' hx hy;simp only[u8,bH.seq.injEq] at hc;obtain ⟨rfl,rfl⟩:=hc;refine wpIn_seq (wpIn_mono (h cx hx a w hs) ?_);rintro e a' w' ⟨B,hq,hs'⟩;cases e <;>simp only[ee,Exit.then] at * <;>first | exact hq cy hy a' w' hs' | exact ⟨B,hq,hs'⟩
 ·cases hc
theorem ae.cond{b:aV}{x y:bH}{t:Bool}(hb:al A b=.bool t)(U:t=true→ae c x Q A)(ab:t=false→ae c y Q A):ae c (.cond b x y) Q A:=by
 intro code hc a w hs;cases code <;>simp only[eJ] at hc <;>try (first | (cases hc;done) | ((repeat' split at hc) <;>cases hc;done))
 rename_i cb cx cy;split at hc
 ·rename_i b' x' y' hb' hx hy;simp only[u8,bH.cond.injEq] at hc;obtain ⟨rfl,rfl,rfl⟩:=hc;obtain ⟨D,E,hs'⟩:=hs;have hv:=b5 hs' hb';rw[hb] at hv;exact wpIn_cond_split (lU hv) (fun ht=>U ht cx hx a w ⟨D,E,hs'⟩) (fun ht=>ab ht cy hy a w ⟨D,E,hs'⟩)
 ·cases hc
theorem ae.block{id:Nat}{x:bH}(h:ae c x (jT id Q) A):ae c (.block id x) Q A:=by
 intro code hc a w hs;cases code <;>simp only[eJ] at hc <;>try (first | (cases hc;done) | ((repeat' split at hc) <;>cases hc;done))
 rename_i id' cx;split at hc
 ·rename_i x' hx;simp only[u8,bH.block.injEq] at hc;obtain ⟨rfl,rfl⟩:=hc;refine wpIn_block (wpIn_mono (h cx hx a w hs) ?_);rintro e a' w' ⟨B,hq,hs'⟩;cases e <;>simp only[jT,Exit.inBlock] at * <;>first
   |exact ⟨B,hq,hs'⟩
   |(split at hq
     ·rename_i he;rw[if_pos he];exact ⟨B,hq,hs'⟩
     ·rename_i he;rw[if_neg he];exact ⟨B,hq,hs'⟩)
 ·cases hc
theorem ae.exit{id:Nat}(h:Q (.exit id) A):ae c (.exit id) Q A:=by
 intro code hc a w hs;cases code <;>simp only[eJ] at hc <;>try (first | (cases hc;done) | ((repeat' split at hc) <;>cases hc;done))
 simp only[u8,bH.exit.injEq] at hc;subst hc;exact wpIn_exit ⟨A,h,hs⟩
theorem ae.ret(h:Q .ret A):ae c .ret Q A:=by
 intro code hc a w hs;cases code <;>simp only[eJ] at hc <;>try (first | (cases hc;done) | ((repeat' split at hc) <;>cases hc;done))
 exact wpIn_ret ⟨A,h,hs⟩
theorem ae.skip(h:Q .normal A):ae c .skip Q A:=by
 intro code hc a w hs;cases code <;>simp only[eJ] at hc <;>try (first | (cases hc;done) | ((repeat' split at hc) <;>cases hc;done))
 exact wpIn_skip ⟨A,h,hs⟩
theorem C5{p:Nat→Prop}(h:∃ n,p n):∃ n,p n∧∀ m,p m→n≤m:=by
 obtain ⟨n,hn⟩:=h
 induction n using Nat.strongRecOn with
 |_ n ih =>
  by_cases hm:∃ m,m<n∧p m
  ·obtain ⟨m,U,ab⟩:=hm;exact ih m U ab
  ·exact ⟨n,hn,fun m hp=>Nat.le_of_not_lt fun hlt=>hm ⟨m,hlt,hp⟩⟩
open Classical in
noncomputable def least(p:Nat→Prop):Nat:=if h:∃ n,p n then (C5 h).choose else 0
theorem ER{p:Nat→Prop}(h:∃ n,p n):p (least p)∧∀ m,p m→least p≤m:=by
 simp only[least,dif_pos h];exact (C5 h).choose_spec
theorem acL{aY:Fence}{N:Nat}{P:Program}{code:Code}{QQ:Exit→Act→World→Prop}(aq:Nat→Act→World→Prop)(round:∀ n a w,aq n a w→code.wpIn aY N P (Exit.then (fun a' w'=>∃ m,m<n∧aq m a' w') QQ) a w) :
  ∀ n a w,aq n a w→(Code.loop code).wpIn aY N P QQ a w:=by
 intro n a w h;refine wpIn_loop (fun a w=>∃ n,aq n a w) (fun a w=>least fun n=>aq n a w) ⟨n,h⟩ ?_;intro a w hI;have hm:=(ER hI).1;refine wpIn_mono (round _ a w hm) ?_;intro e a' w' hq;cases e <;>simp only[Exit.then] at hq ⊢ <;>try exact hq
 obtain ⟨m,U,ab⟩:=hq;exact ⟨⟨m,ab⟩,Nat.lt_of_le_of_lt ((ER ⟨m,ab⟩).2 m ab) U⟩
def bn(A B:ai):Prop:=∀ (c:c4) (a:Act) (w:World),cd c A a w→cd c B a w
theorem bn.refl(A:ai):bn A A:=fun _ _ _ h=>h
theorem bn.trans{A B C:ai}(h:bn A B)(k:bn B C):bn A C:=fun c a w hs=>k c a w (h c a w hs)
theorem ae.sub{x:bH}{B:ai}(hsub:bn A B)(h:ae c x Q B):ae c x Q A:=fun code hc a w hs=>h code hc a w (hsub c a w hs)
theorem ae.mono{x:bH}{Q':Exit→ai→Prop}(h:ae c x Q A)(hq:∀ e B,Q e B→Q' e B):ae c x Q' A :=
 fun code hc a w hs=>wpIn_mono (h code hc a w hs) fun e a' w' ⟨B,U,ab⟩=>⟨B,hq e B U,ab⟩
theorem ae.loop{σ:Type}(S:σ→ai)(C:σ→Prop)(m:σ→Nat)(s0:σ){x:bH}(bf:C s0)(hsub:bn A (S s0))
  (round:∀ s,C s→ae c x (ee (fun B=>∃ s',C s'∧m s'<m s∧bn B (S s')) Q) (S s)):ae c (.loop x) Q A:=by
 intro code hc a w hs;cases code <;>simp only[eJ] at hc <;>try (first | (cases hc;done) | ((repeat' split at hc) <;>cases hc;done))
 rename_i cx;split at hc
 ·rename_i x' hx;simp only[u8,bH.loop.injEq] at hc;subst hc;refine acL (fun n a w=>∃ s,C s∧m s=n∧cd c (S s) a w) ?_ (m s0) a w ⟨s0,bf,rfl,hsub c a w hs⟩;rintro n a w ⟨s,hC,rfl,hs⟩;refine wpIn_mono (round s hC cx hx a w hs) ?_;rintro e a' w' ⟨B,hq,hs'⟩;cases e <;>simp only[ee,Exit.then] at * <;>first
   |exact ⟨B,hq,hs'⟩
   |(obtain ⟨s',U,ab,af⟩:=hq;exact ⟨m s',ab,s',U,rfl,af c a' w' hs'⟩)
 ·cases hc
end
inductive bR where
 |tmp (t:Nat)
 |cell (a:Nat) (s:Option Nat)
def iG(P:Program):List ResultVar→Option (List bR)
 | []=>some []
 | .tmp t::l=>(iG P l).map (.tmp t :: ·)
 | .cell a t::l=>match gB P t,iG P l with
  |some s,some l=>some (.cell a s::l)
  |_,_=>none
def wh(A:ai):bR→Option I
 | .tmp t=>br true A (A.t t)
 | .cell a s=>match cM A (A.t a) with
  |some x=>if cn s x then br true A x else none
  |none=>none
def fw(A:ai):List bR→Option (List I)
 | []=>some []
 |r::rs=>match wh A r,fw A rs with
  |some x,some xs=>some (x::xs)
  |_,_=>none
def lp:List I→I
 | [x]=>x
 |xs=>.tuple xs
def qv(args:List I):ai:=⟨fun t=>args.getD t .undef,fun _=>none⟩
def kE(rs:List bR)(r:I):Exit→ai→Prop
 | .ret,A=>∃ xs,fw A rs=some xs∧lp xs=r
 | .normal,A=>∃ xs,fw A rs=some xs∧lp xs=r
 |_,_=>False
def qw(args:List I)(os:List (Nat×ak)):ai:=⟨fun t=>args.getD t .undef,aj os⟩
theorem Aa{P:Program}{n:Nat}{w:World}{D:aX}{E:bj}{Y:Value→List I→List (Nat×ak)→cE→Prop}{args:List I}{os:List (Nat×ak)}{vs:List Value}(hD:∀ b o,D b o→b<w.heap.size)(ho:kO (fun _=>True) w D E (aj os))
  (hv:aO w D E args vs) (hn:vs.length≤n) (hos:∀ m,av os m=true→n≤m∧1000000≤m) (hy:qI ⟨P,w,D,n,cI E,E,Y,none,none⟩) :
  bg ⟨P,w,D,n,cI E,E,Y,none,none⟩ (qw args os) { tmps:=vs.toArray++Array.replicate (n-vs.toArray.size) undef,defers:=[] } w D E:=by
 refine ⟨by simp;omega,⟨[],rfl,.nil,fun _ h=>by simp at h⟩,fun t =>?_,fm.refl _ _,fun _ _ h _=>h,hD,fun m =>?_,ho.cQ,fun m e h=>.inr ⟨e,h,.refl e⟩,fun m hm =>?_,fun _ _ h=>h,hy,.refl _ _⟩
 ·have key:∀ (args:List I) (vs:List Value) (t:Nat),aO w D E args vs→bl w D E (args.getD t .undef) (vs.getD t undef):=by
   intro args
   induction args with
   |nil=>intro vs t h;simp only[aO] at h;subst h;simp[bl]
   |cons x xs ih =>
    intro vs t h;simp only[aO] at h;obtain ⟨v,rest,cs,rfl,U,ab,af⟩:=h;cases t with
    |zero=>simpa using ku U ab
    |succ t=>simpa using ih rest t af
  have:=key args vs t hv;have e:(vs.toArray++Array.replicate (n-vs.toArray.size) undef).getD t undef=vs.getD t undef:=by
   simp only[Array.getD_eq_getD_getElem?,zz2];rcases Nat.lt_or_ge t vs.length with h | h
   ·rw[Array.getElem?_append_left (by simpa using h)];simp
   ·rw[Array.getElem?_append_right (by simpa using h),List.getElem?_eq_none h];simp only[Array.getElem?_replicate];split <;>rfl
  simp only[qw];rw[e];exact this
 ·have h:=ho.bP m;simp only[qw];cases hx:aj os m with
  |none=>rw[hx] at h;exact h
  |some x =>
   rw[hx] at h;cases x with
   |box x =>
    obtain ⟨b,cs,T,k1,_,k3⟩:=h;exact ⟨b,cs,T,k1,.inr ⟨m,_,k1,rfl⟩,k3⟩
   |bW T sz es =>
    obtain ⟨aP,k1,k2,k3⟩:=h;refine ⟨aP,k1,k2,?_⟩;cases aP with
    |none=>exact k3
    |some bc =>
     obtain ⟨b,cap⟩:=bc;obtain ⟨cs,pre,rest,_,k4⟩:=k3;exact ⟨cs,pre,rest,.inr ⟨m,_,k1,rfl⟩,k4⟩
   |dJ T xs =>
    obtain ⟨aP,k1,k2,k3⟩:=h;refine ⟨aP,k1,k2,?_⟩;cases aP with
    |none=>exact k3
    |some bc =>
     obtain ⟨b,cap⟩:=bc;obtain ⟨cs,rest,_,k4⟩:=k3;exact ⟨cs,rest,.inr ⟨m,_,k1,rfl⟩,k4⟩
   |dI x =>
    obtain ⟨b,k1,_,k3⟩:=h;exact ⟨b,k1,.inr ⟨m,_,k1,rfl⟩,k3⟩
   |bE ks vs =>
    obtain ⟨b,es,ck,k1,_,k3⟩:=h;exact ⟨b,es,ck,k1,.inr ⟨m,_,k1,rfl⟩,k3⟩
   |it ks vs left cur =>
    obtain ⟨r,b,es,ck,si,se,la,k1,_,k3⟩:=h;exact ⟨r,b,es,ck,si,se,la,k1,.inr ⟨m,_,k1,rfl⟩,k3⟩
 ·have h:=ho.bP m;refine hos m ?_;cases hx:aj os m with
  |none=>rw[hx] at h;exact absurd h hm
  |some x=>simp[av,hx]
def tN(tmps:Array Value):ResultVar→Sem Value
 | .tmp t=>pure (tmps.getD t undef)
 | .cell a t=>do loadVar t (←asAddr (tmps.getD a undef))
theorem abo(fn:Func)(tmps:Array Value):results fn tmps=(do
  let vs ←fn.results.mapM (tN tmps)
  pure (if h:vs.size=1 then vs[0] else .tuple vs)):=by
 unfold results;rfl
def tG(A:ai):bR→Option I
 | .tmp t=>some (A.t t)
 | .cell a s=>match cM A (A.t a) with
  |some x=>if cn s x then some x else none
  |none=>none
def nJ(A A0:ai)(os:List (Nat×ak)):List bR→List I→Prop
 | [],[]=>True
 |r::rs,y::ys=>(∃ x,tG A r=some x∧((y=x∧x.bV=true∧x.only (av os)=true)∨br true A0 x=some y))∧nJ A A0 os rs ys
 |_,_=>False
def ai.lV(A:ai)(os:List (Nat×ak)):ai:=⟨A.t,fun n=>if av os n then none else A.o n⟩
def jS(rs:List bR)(post:cE)(A:ai):Prop :=
 ∃ (os:List (Nat×ak)) (xs:List I),(∀ n x,aj os n=some x→A.o n=some x∧x.only (av os)=true∧x.en=true)∧nJ A (A.lV os) os rs xs∧post (lp xs) os
def qe(rs:List bR)(post:cE):Exit→ai→Prop
 | .ret,A=>jS rs post A
 | .normal,A=>jS rs post A
 |_,_=>False
theorem zF{c:c4}{A:ai}{a:Act}{w:World}{D:aX}{E:bj}(hs:bg c A a w D E){A0:ai}(hu:eA A0 A){os:List (Nat×ak)}{D':aX}{E':bj}(hw:iZ true A0 D E D')(ay:∀ n,av os n=true→E' n=E n)(hE':∀ n,av os n=false→E' n=none) :
  ∀ (rs:List ResultVar) (ls:List bR) (xs:List I),iG c.P rs=some ls→nJ A A0 os ls xs→∃ vs:List Value,(rs.mapM (tN a.tmps)).run c.P w=.ok vs w∧aO w D' E' xs vs
 | [],ls,xs,hc,hr=>by
  simp only[iG,u8] at hc;subst hc;cases xs with
  |nil=>exact ⟨[],by simp,by simp[aO]⟩
  |cons x xs=>simp[nJ] at hr
 |r::rs,ls,xs,hc,hr=>by
  have hl:ec w D E' w D' E':=⟨hw.c6,fun _ _ _ _ h=>h,fun _ _ _ h=>h,fun _ aP l h=>⟨aP,l,h,zz9 _,fun _=>rfl⟩,fun _ _ h=>h,fun _ _ h=>h,fun _ _ _ _ h=>h⟩
  have fin1:∀ {x y:I} {v:Value},bl w D E x v→((y=x∧x.bV=true∧x.only (av os)=true)∨br true A0 x=some y)→∃ cs,bI y v cs∧ao w D' E' y cs:=by
   intro x y v hv hf;rcases hf with ⟨rfl,U,ab⟩ | hf
   ·have af:=bl.later hl (bl.de ay ab hv);cases y <;>simp only[bl] at af <;>first | (simp[I.bV] at U;done) | exact af
   ·have U:aO w D E [x] [v]:=mH [x] [v] (.cons hv .nil) (by
     intro z hz;simp only[zy2] at hz;subst hz;cases z <;>simp_all[br,I.bV])
    have ab:=nj (E':=E') hs hu hw [x] [y] [v] U (by simp[bZ,hf]);simp only[aO] at ab;obtain ⟨v',rest,cs,e,k1,k2,_⟩:=ab;simp only[zv6] at e;obtain ⟨rfl,_⟩:=e;exact ⟨cs,k1,k2⟩
  cases r with
  |tmp t =>
   simp only[iG,zz0] at hc;obtain ⟨ls',hl',rfl⟩:=hc;cases xs with
   |nil=>simp[nJ] at hr
   |cons y ys =>
    simp only[nJ] at hr;obtain ⟨⟨x,U,ab⟩,af⟩:=hr;simp only[tG,u8] at U;subst U;obtain ⟨vs,k1,k2⟩:=zF hs hu hw ay hE' rs ls' ys hl' af;obtain ⟨cs,k3,k4⟩:=fin1 (hs.dO t) ab;refine ⟨a.tmps.getD t undef::vs,?_,?_⟩
    ·simp only[List.mapM_cons,Sem.run_bind,tN,Sem.run_pure,Result.andThen_ok,k1]
    ·simp only[aO];exact ⟨_,vs,cs,rfl,k3,k4,k2⟩
  |cell ad t =>
   simp only[iG] at hc;split at hc
   ·rename_i s ls' hk hl';simp only[u8] at hc;subst hc;cases xs with
    |nil=>simp[nJ] at hr
    |cons y ys =>
     simp only[nJ] at hr;obtain ⟨⟨x,U,ab⟩,af⟩:=hr;obtain ⟨vs,k1,k2⟩:=zF hs hu hw ay hE' rs ls' ys hl' af;simp only[tG] at U;split at U
     ·rename_i z hz;split at U
      ·rename_i hok;simp only[u8] at U;subst U;obtain ⟨b,off,cs,q1,q2,q3⟩:=hs.A2 (hs.dO ad) hz;obtain ⟨v,q4,q5⟩:=HJ hk hok q2 q3;obtain ⟨cs',k3,k4⟩:=fin1 q5 ab;refine ⟨v::vs,?_,?_⟩
       ·have e:(tN a.tmps (.cell ad t)).run c.P w=.ok v w:=by
         simp only[tN,Sem.run_bind,q1,asAddr,Sem.run_pure,Result.andThen_ok,q4]
        simp only[List.mapM_cons,Sem.run_bind,Sem.run_pure,Result.andThen_ok,k1,e]
       ·simp only[aO];exact ⟨_,vs,cs',rfl,k3,k4,k2⟩
      ·cases U
     ·cases U
   ·cases hc
theorem bg.CD{c:c4}{A:ai}{a:Act}{w:World}{D:aX}{E:bj}(h:bg c A a w D E)(hb:c.fO=none){B:Nat}{ds:List Deferred}(ah:a.defers = { target:=.collected B,args := #[] } :: ds) :
  w.heap[B]?=some (.deferred (some []))∧bg c A { a with defers:=ds } (w.putObj B (.deferred none)) D E:=by
 have hdf:=h.eC;rw[hb] at hdf;obtain ⟨Bs,U,ab,af⟩:=hdf;rw[ah] at U;cases Bs with
 |nil=>cases U
 |cons B' Bs =>
  simp only[zz7,zv6,Deferred.mk.injEq,Target.collected.injEq,and_true] at U;obtain ⟨rfl,rfl⟩:=U;have hB:=af B (by simp);have hlt:B<w.heap.size:=(zx1.1 hB.2).1;have hl:ec w D E (w.putObj B (.deferred none)) D E :=
   ⟨fun _ _ h=>h,fun b o v _ hv=>xv hB.2 rfl hv,fun _ _ _ h=>h,fun _ aP l h=>⟨aP,l,h,zz9 _,fun _=>rfl⟩,fun _ _ h=>h,fun _ _ h=>h,fun b es ck _ hm=>(World.putObj_heap_other (fun e=>by rw[e,hB.2] at hm;cases hm)).trans hm⟩
  have hne:∀ {b:Nat} {cs:Array Value} {T:TypeId},w.heap[b]?=some (.cells cs T (0,0))→(w.putObj B (.deferred none)).heap[b]?=w.heap[b]?:=fun {b cs T} hb =>
   World.putObj_heap_other (fun e=>by rw[e,hB.2] at hb;cases hb)
  refine ⟨hB.2,h.sz,by rw[hb];refine ⟨Bs,rfl,(List.nodup_cons.1 ab).2,fun B2 hB2=>⟨(af B2 (by simp[hB2])).1,?_⟩⟩;rw[World.putObj_heap_other (fun e=>(List.nodup_cons.1 ab).1 (by rw[←e];exact hB2))];exact (af B2 (by simp[hB2])).2,fun t=>bl.later hl (h.dO t),h.dK.trans ⟨rfl,rfl,rfl,by simp,fun k hk =>?_⟩,h.c6,fun b o ah=>by have:=h.aK b o ah;simpa using this,fun n =>?_,h.cQ,h.dR,h.eL,h.cT,h.eY,h.l3 hl⟩
  ·exact World.putObj_heap_other (fun e=>hk (e▸.inl hB.1))
  ·refine (h.bP n).later hl rfl fun e b he hb=>⟨?_,fun _ h=>h⟩
   have hob:=h.bP n;unfold cS at hob;split at hob
   ·rw[hob] at he;cases he
   ·obtain ⟨b',cs,T,k1,_,k3,_⟩:=hob;rw[k1,u8] at he;subst he;simp only[bO.aP,u8] at hb;subst hb;exact hne k3
   ·obtain ⟨aP,k1,_,k3⟩:=hob;rw[k1,u8] at he;subst he;split at k3
    ·simp[bO.aP] at hb
    ·obtain ⟨cs,pre,rest,_,k5,_⟩:=k3;simp only[bO.aP,u8] at hb;subst hb;exact hne k5
   ·obtain ⟨b',k1,_,k3,k4,_⟩:=hob;rw[k1,u8] at he;subst he;simp only[bO.aP,u8] at hb;subst hb;exact World.putObj_heap_other (fun e=>by rw[e,hB.2] at k3;cases k3;cases k4)
   ·obtain ⟨b',es,ck,k1,_,k3,_⟩:=hob;rw[k1,u8] at he;subst he;cases hb;exact World.putObj_heap_other (fun e=>by rw[e,hB.2] at k3;cases k3)
   ·obtain ⟨r,b',es,ck,si,se,la,k1,_,k3,_⟩:=hob;rw[k1,u8] at he;subst he;cases hb;exact World.putObj_heap_other (fun e=>by rw[e,hB.2] at k3;cases k3)
   ·obtain ⟨aP,k1,_,k3⟩:=hob;rw[k1,u8] at he;subst he;split at k3
    ·simp[bO.aP] at hb
    ·obtain ⟨cs,m,_,k5,_⟩:=k3;simp only[bO.aP,u8] at hb;subst hb;exact hne k5
def mV(w:World)(D:aX)(E:bj)(post:cE)(v:Value)(w':World):Prop :=
 ∃ D' E' r os',post r os'∧bl w' D' E' r v∧kO (fun b=>w.heap.size≤b∨cI E b) w' D' E' (aj os') ∧
  fm (fun b=>w.heap.size≤b∨cI E b) w w'∧(∀ b o,D b o→D' b o)∧(∀ b o,D' b o→b<w'.heap.size)∧(∀ b o,D' b o→b<w.heap.size→¬ cI E b→D b o) ∧
  (∀ n e,E n=some e→av os' n=true→∃ e',E' n=some e'∧e.le e')∧iE w D w'
theorem bg.yD{P:Program}{n:Nat}{w:World}{D:aX}{E:bj}{Y:Value→List I→List (Nat×ak)→cE→Prop}{ly:Option Nat}{fO:Option (List Deferred)}{A:ai}{a:Act}{w':World}{D':aX}{E':bj}
  (hs:bg ⟨P,w,D,n,cI E,E,Y,ly,fO⟩ A a w' D' E') {os:List (Nat×ak)} (U:∀ n x,aj os n=some x→A.o n=some x∧x.only (av os)=true∧x.en=true) :
  ∃ D2 E2,iZ true (A.lV os) D' E' D2∧(∀ n,av os n=true→E2 n=E' n)∧(∀ n,av os n=false→E2 n=none)∧kO (fun b=>w.heap.size≤b∨cI E b) w' D2 E2 (aj os) ∧
   fm (fun b=>w.heap.size≤b∨cI E b) w w'∧(∀ b o,D b o→D2 b o)∧(∀ b o,D2 b o→b<w'.heap.size)∧(∀ b o,D2 b o→b<w.heap.size→¬ cI E b→D b o) ∧
   (∀ n e,E n=some e→av os n=true→∃ e',E2 n=some e'∧e.le e')∧iE w D w':=by
 obtain ⟨c,hc⟩:∃ c:c4,c=⟨P,w,D,n,cI E,E,Y,ly,fO⟩:=⟨_,rfl⟩
 rw[←hc] at hs;have hM:c.fo=fun b=>w.heap.size≤b∨cI E b:=by rw[hc];rfl
 obtain ⟨E2,hE2⟩:∃ E2:bj,E2=fun n=>if av os n then E' n else none:=⟨_,rfl⟩
 obtain ⟨D2,hD2⟩:∃ D2:aX,D2=fun b o=>b<w'.heap.size∧(D' b o∨(¬ cI E2 b∧c.fo b)):=⟨_,rfl⟩
 have e2:∀ n,av os n=true→E2 n=E' n:=fun n hn=>by rw[hE2];simp only[hn,if_true]
 have jU:∀ n e,E2 n=some e→av os n=true∧E' n=some e:=fun n e he=>by
  rw[hE2] at he;simp only at he;split at he
  ·exact ⟨by assumption,he⟩
  ·cases he
 have up2:∀ b o,D' b o→D2 b o:=fun b o ah=>by
  rw[hD2];exact ⟨hs.aK b o ah,.inl ah⟩
 have down:∀ b o,D2 b o→cI E2 b→D' b o:=fun b o ah hb=>by
  rw[hD2] at ah;rcases ah.2 with h | h
  ·exact h
  ·exact absurd hb h.1
 have hu:eA (A.lV os) A:=fun n x hx=>by
  simp only[ai.lV] at hx;split at hx
  ·cases hx
  ·exact hx
 have notOwn:∀ n e b,(A.lV os).o n≠none→E' n=some e→e.aP=some b→¬ cI E2 b:=fun n e b hn he hb ho=>by
  obtain ⟨m,e',k1,k3⟩:=ho;obtain ⟨k1,k2⟩:=jU m e' k1;have:=hs.cQ n m e _ b he k2 hb k3;subst this;simp[ai.lV,k1] at hn
 have hw:iZ true (A.lV os) D' E' D2:=by
  refine ⟨up2,fun n T sz es b cap hn ay o _ =>?_,fun _ n x b bh hn ay o _ =>?_,fun _ n ks vs b hn ay =>?_⟩
  ·rw[hD2];refine ⟨hs.gN ay rfl,.inr ⟨notOwn n _ b (by rw[hn];simp) ay rfl,?_⟩⟩;obtain ⟨aP,k1,k2,k3⟩:=hs.bW (hu n _ hn);rw[ay] at k1;simp only[u8,bO.rw.injEq,and_true] at k1;subst k1;obtain ⟨_,_,_,k4,_⟩:=k3;exact k4
  ·rw[hD2];refine ⟨hs.gN ay rfl,.inr ⟨notOwn n _ b (by rw[hn];simp) ay rfl,?_⟩⟩;obtain ⟨b',cs,T,k1,k2,_⟩:=hs.box (hu n _ hn);rw[k1] at ay;simp only[u8,bO.aR.injEq] at ay;obtain ⟨rfl,_⟩:=ay;exact k2
  ·rw[hD2];refine ⟨hs.gN ay rfl,.inr ⟨notOwn n _ b (by rw[hn];simp) ay rfl,?_⟩⟩;obtain ⟨b',es,ck,k1,k2,_⟩:=hs.map (hu n _ hn);rw[k1] at ay;cases ay;exact k2
 have hst:iE w D w':=by
  have:=hs.fA;rw[hc] at this;exact this
 refine ⟨D2,E2,hw,e2,fun n hn=>by rw[hE2];simp[hn],⟨fun m =>?_,fun m m' e e' b g1 g2 g3 g4 =>?_⟩,?_,fun b o ah=>up2 b o (hs.cT b o (by rw[hc];exact ah)),fun b o ah=>by rw[hD2] at ah;exact ah.1,fun b o ah hlt hno =>?_,fun m e hm hin =>?_,hst⟩
 ·cases hx:aj os m with
  |none=>simp only[cS];rw[hE2];simp[av,hx]
  |some x =>
   have hm:av os m=true:=by simp[av,hx]
   obtain ⟨k1,k2,k3⟩:=U m x hx;have ho:=hs.bP m;rw[k1] at ho;have hl2:ec w' D' E2 w' D2 E2:=⟨up2,fun _ _ _ _ h=>h,fun _ _ _ h=>h,fun _ aP l h=>⟨aP,l,h,zz9 _,fun _=>rfl⟩,fun _ _ h=>h,fun _ _ h=>h,fun _ _ _ _ h=>h⟩
   have nD:∀ e b,E' m=some e→e.aP=some b→∀ o,D2 b o→D' b o:=fun e b he hb o ah=>down b o ah ⟨m,e,(e2 m hm).trans he,hb⟩;cases x with
   |bW T sz es =>
    obtain ⟨aP,q1,q2,q3⟩:=ho;refine ⟨aP,(e2 m hm).trans q1,q2,?_⟩;cases aP with
    |none=>exact q3
    |some bc =>
     obtain ⟨b,cap⟩:=bc;obtain ⟨cs,pre,rest,g1,g2,g3,g4,g5,g6,g7,g8⟩:=q3;exact ⟨cs,pre,rest,by rw[←hM];exact g1,g2,g3,aU.later hl2 _ _ (aU.de e2 _ _ (by simpa[ak.only] using k2) g4),g5,g6,g7,fun o ah=>g8 o (nD _ b q1 rfl o ah)⟩
   |box y =>
    obtain ⟨b',cs,T,q1,q2,q3,q4,q5⟩:=ho;exact ⟨b',cs,T,(e2 m hm).trans q1,by rw[←hM];exact q2,q3,ao.later hl2 _ _ (ao.de e2 _ _ (by simpa[ak.only] using k2) q4),fun o ah=>q5 o (nD _ b' q1 rfl o ah)⟩
   |dI o =>
    obtain ⟨b',q1,q2,q3,q4,q5⟩:=ho;exact ⟨b',(e2 m hm).trans q1,by rw[←hM];exact q2,q3,q4,fun o ah=>q5 o (nD _ b' q1 rfl o ah)⟩
   |bE ks vs =>
    obtain ⟨b',es,ck,q1,q2,q3,q4,q5,q6,q7⟩:=ho;simp only[ak.only,zz1] at k2;exact ⟨b',es,ck,(e2 m hm).trans q1,by rw[←hM];exact q2,q3,q4,aO.later hl2 _ _ (aO.de e2 _ _ k2.1 q5),aO.later hl2 _ _ (aO.de e2 _ _ k2.2 q6),fun o ah=>q7 o (nD _ b' q1 rfl o ah)⟩
   |it ks vs left cur=>cases k3
   |dJ T xs =>
    obtain ⟨aP,q1,q2,q3⟩:=ho;refine ⟨aP,(e2 m hm).trans q1,q2,?_⟩;cases aP with
    |none=>exact q3
    |some bc =>
     obtain ⟨b,cap⟩:=bc;obtain ⟨cs,r,g1,g2,g3,g4,g5,g6,g7⟩:=q3;exact ⟨cs,r,by rw[←hM];exact g1,g2,g3,g4,g5,g6,fun o ah=>g7 o (nD _ b q1 rfl o ah)⟩
 ·exact hs.cQ m m' e e' b (jU m e g1).2 (jU m' e' g2).2 g3 g4
 ·rw[←hM];have:=hs.dK;rw[hc] at this ⊢;exact this
 ·rw[hD2] at ah;have hnm:¬ c.fo b:=by
    rw[hM];rintro (h | h);· omega
    ·exact hno h
  rcases ah.2 with h | h
  ·have:=hs.c6 b o h hnm;rw[hc] at this;exact this
  ·exact absurd h.2 hnm
 ·rw[e2 m hin];have ho:A.o m≠none:=by
   cases hx:aj os m with
   |none=>simp[av,hx] at hin
   |some x=>rw[(U m x hx).1];simp
  rcases hs.dR m e (by rw[hc];exact hm) with h | h
  ·have hob:=hs.bP m;cases hx:A.o m with
   |none=>exact absurd hx ho
   |some x=>rw[hx] at hob;exact absurd h (vF hob)
  ·exact h
theorem bg.vp{P:Program}{n:Nat}{w:World}{D:aX}{E:bj}{Y:Value→List I→List (Nat×ak)→cE→Prop}{fO:Option (List Deferred)}{rs:List bR}{post:cE}{fn:Func}{A:ai}{a:Act}{w':World}{D':aX}{E':bj}
  (hs:bg ⟨P,w,D,n,cI E,E,Y,none,fO⟩ A a w' D' E') (hrs:iG P fn.results.toList=some rs) (h:jS rs post A):∃ v,(results fn a.tmps).run P w'=.ok v w'∧mV w D E post v w':=by
 obtain ⟨os,xs,U,ab,af⟩:=h;obtain ⟨D2,E2,hw,e2,e2n,q1,q2,q3,q4,q5,q6⟩:=hs.yD U;have hu:eA (A.lV os) A:=fun n x hx=>by
  simp only[ai.lV] at hx;split at hx
  ·cases hx
  ·exact hx
 obtain ⟨vs,k1,k2⟩:=zF hs hu (os:=os) (E':=E2) hw e2 e2n fn.results.toList rs xs hrs ab;have hres:(results fn a.tmps).run P w'=.ok (if h:vs.toArray.size=1 then vs.toArray[0] else .tuple vs.toArray) w':=by
  rw[abo,Sem.run_bind,Array.mapM_eq_mapM_toList,Sem.run_map,k1];rfl
 refine ⟨_,hres,D2,E2,lp xs,os,af,?_,q1,q2,q3,q4,q5,q6⟩
 match xs,vs,k2 with
 | [x],vs,k2 =>
  simp only[aO] at k2;obtain ⟨v,rest,cs,rfl,q1,q2,rfl⟩:=k2;simpa[lp] using ku q1 q2
 | [],vs,k2 =>
  simp only[aO] at k2;subst k2;simp[lp,bl,aO]
 |x::y::xs,vs,k2 =>
  have hl:vs.length≠1:=by
   simp only[aO] at k2;obtain ⟨v,rest,cs,rfl,_,_,v2,rest2,cs2,rfl,_⟩:=k2;simp
  simp only[lp,bl];exact ⟨vs,by simp[hl],k2⟩
theorem ES{P:Program}{n:Nat}{w:World}{D:aX}{E:bj}{Y:Value→List I→List (Nat×ak)→cE→Prop}{rs:List bR}{post:cE}{fn:Func}{A:ai}{D':aX}{E':bj}(hrs:iG P fn.results.toList=some rs)(h:jS rs post A) :
  ∀ (ds:List Deferred) (a:Act) (w':World),a.defers=ds→bg ⟨P,w,D,n,cI E,E,Y,none,none⟩ A a w' D' E'→LeavesInM Fence.wide 9 P fn a.tmps (fun e w'=>∃ v,e=.returned v∧mV w D E post v w') ds .returning w'
 | [],a,w',_,hs=>by
  obtain ⟨v,U,ab⟩:=hs.vp hrs h;exact ⟨v,U,v,rfl,ab⟩
 |d::ds,a,w',ah,hs=>by
  obtain ⟨Bs,U,_⟩:=hs.eC;rw[ah] at U;cases Bs with
  |nil=>cases U
  |cons B Bs =>
   simp only[zz7,zv6] at U;obtain ⟨rfl,rfl⟩:=U;obtain ⟨k1,k2⟩:=hs.CD rfl ah;exact ⟨by simp,.inl ⟨B,_,rfl,run_takeDeferred k1,ES hrs h _ { a with defers:=Bs.map _ } _ rfl k2⟩⟩
theorem tT{w:World}{D:aX}{E:bj} : ∀ {args:List I} {vs:List Value},aO w D E args vs→vs.length=args.length
 | [],vs,h=>by simp only[aO] at h;subst h;rfl
 |x::xs,vs,h=>by
  simp only[aO] at h;obtain ⟨v,rest,cs,rfl,_,_,af⟩:=h;simp[tT af]
def l4(P:Program)(f:FuncId)(Y:Value→List I→List (Nat×ak)→cE→Prop)(args:List I)(os:List (Nat×ak))(post:cE):Prop :=
 fq P f=true∧∀ (w:World) (D:aX) (E:bj) (vs:List Value),(∀ n,qI ⟨P,w,D,n,cI E,E,Y,none,none⟩)→(∀ b o,D b o→b<w.heap.size)→kO (fun _=>True) w D E (aj os)→aO w D E args vs →
  Calls P f vs.toArray w fun e w'=>∃ v,e=.returned v∧mV w D E post v w'
theorem l4.vG{P:Program}{f:FuncId}{fn:Func}{body:Code}{x:bH}{rs:List bR}{Y:Value→List I→List (Nat×ak)→cE→Prop}{args:List I}{os:List (Nat×ak)}{post:cE}(hf:P.funcs[f]?=some fn)(hb:fn.body=some body)(hcall:fq P f=true)(hc:eJ P fn.ntmps body=some x)
  (hrs:iG P fn.results.toList=some rs) (hn:args.length≤fn.ntmps) (hos:∀ m,av os m=true→fn.ntmps≤m∧1000000≤m) (h:∀ (w:World) (D:aX) (E:bj),ae ⟨P,w,D,fn.ntmps,cI E,E,Y,none,none⟩ x (qe rs post) (qw args os)):l4 P f Y args os post:=by
 refine ⟨hcall,fun w D E vs hy hD ho hv =>?_⟩;have hlen:=tT hv;have hsim:=Aa (P:=P) (n:=fn.ntmps) (Y:=Y) hD ho hv (by omega) hos (hy fn.ntmps);refine (callsIn_wide (n:=9)).1 (callsIn_of_wp_marks hf hb trivial ?_);refine wpIn_mono (h w D E body hc _ w ⟨D,E,hsim⟩) ?_;rintro e a w' ⟨A,hq,D',E',hs⟩;cases e <;>simp only[qe] at hq <;>first
  |exact ES hrs hq a.defers a w' rfl hs
  |cases hq
theorem rY{P:Program}{w:World}{D:aX}{E:bj}{n:Nat}{fO:Option (List Deferred)}(hl:iD P w (cI E)):qI ⟨P,w,D,n,cI E,E,dq,none,fO⟩:=⟨hl,fun _ _ _ _ h=>h.elim⟩
theorem cU.FC{P:Program}{f:FuncId}{args:List I}{os:List (Nat×ak)}{post:cE}(h:l4 P f dq args os post):cU P f args os post :=
 ⟨h.1,fun w D E vs hl hD ho hv=>(h.2 w D E vs (fun _=>rY hl) hD ho hv).mono fun e w' ⟨v,he,D',E',r,os',k⟩=>⟨v,D',E',r,os',he,k⟩⟩
theorem bp.aaq{P:Program}{f:FuncId}{args:List I}{r:I}(h:cU P f args [] (fun r' os'=>r'=r∧os'=[])):bp P f args r:=by
 refine ⟨h.1,fun w D vs hl hD hv =>?_⟩;have hh:kO (fun _=>True) w D E0 (aj []):=⟨fun n=>rfl,fun n m e e' b h=>by simp[E0] at h⟩
 refine (h.2 w D E0 vs (hl.vq fun b ⟨n,e,U,_⟩=>by simp[E0] at U) hD hh hv).mono fun e w' hq =>?_;obtain ⟨v,D',E',r',os',he,⟨U,ab⟩,k1,k2,k3,k4,k5,k6,_⟩:=hq;subst U ab;refine ⟨v,D',he,?_,?_,k5,fun b o ah hlt=>k6 b o ah hlt fun ⟨n,e,h,_⟩=>by simp[E0] at h⟩
 ·have:E'=E0:=by funext n;exact k2.bP n
  rw[←this];exact k1
 ·exact k3.Kf fun k hk hm=>by
   rcases hm with hm | ⟨n,e,h,_⟩
   ·omega
   ·simp[E0] at h
theorem abI(A:ai):A.lV []=A:=rfl
theorem Hw{A:ai} : ∀ {rs:List bR} {xs:List I},fw A rs=some xs→nJ A (A.lV []) [] rs xs
 | [],xs,h=>by simp only[fw,u8] at h;subst h;trivial
 |r::rs,xs,h=>by
  simp only[fw] at h;split at h
  ·rename_i x xs' U ab;simp only[u8] at h;subst h;refine ⟨?_,Hw ab⟩;rw[abI];cases r with
   |tmp t=>exact ⟨_,rfl,.inr U⟩
   |cell a s =>
    simp only[wh,tG] at U ⊢;split at U
    ·rename_i y hy;split at U
     ·rename_i hok;exact ⟨y,by simp[hok],.inr U⟩
     ·cases U
    ·cases U
  ·cases h
theorem abp{rs:List bR}{r:I}{e:Exit}{A:ai}(h:kE rs r e A):qe rs (fun r' os'=>r'=r∧os'=[]) e A:=by
 cases e <;>simp only[kE] at h <;>first
  |exact h.elim
  |(obtain ⟨xs,U,ab⟩:=h
    exact ⟨[],xs,fun n x hx=>by simp[aj] at hx,Hw U,ab,rfl⟩)
theorem bp.vG{P:Program}{f:FuncId}{fn:Func}{body:Code}{x:bH}{rs:List bR}{args:List I}{r:I}(hf:P.funcs[f]?=some fn)(hb:fn.body=some body)(hcall:fq P f=true)(hc:eJ P fn.ntmps body=some x)
  (hrs:iG P fn.results.toList=some rs) (hn:args.length≤fn.ntmps) (h:∀ (w:World) (D:aX) (E:bj),ae ⟨P,w,D,fn.ntmps,cI E,E,dq,none,none⟩ x (kE rs r) (qv args)):bp P f args r:=by
 refine bp.aaq (cU.FC (l4.vG hf hb hcall hc hrs hn (fun m hm=>by simp[av,aj] at hm) fun w D E =>?_));exact (h w D E).mono fun e B hq=>abp hq
end Go.Abs
namespace Go.Abs
open Go Go.RowKit
def bX(ts:List (Nat×I)):List (Nat×I)→Prop
 | []=>True
 |(k,v)::r=>bC ts k=v∧bX ts r
def cA(os:List (Nat×ak)):List (Nat×ak)→Prop
 | []=>True
 |(k,v)::r=>aj os k=some v∧cA os r
def b6(p:Nat→Bool):List (Nat×I)→Prop
 | []=>True
 |(_,v)::r=>v.only p=true∧b6 p r
theorem wB{ts:List (Nat×I)} : ∀ {ts':List (Nat×I)},bX ts ts'→∀ k,bC ts' k=.dx∨bC ts' k=bC ts k
 | [],_,k=>.inl rfl
 |(j,v)::r,h,k=>by
  simp only[bX] at h;simp only[bC];split
  ·rename_i hk;subst hk;exact .inr h.1.symm
  ·exact wB h.2 k
theorem H0{os:List (Nat×ak)} : ∀ {os':List (Nat×ak)},cA os os'→∀ k,aj os' k=none∨aj os' k=aj os k
 | [],_,k=>.inl rfl
 |(j,v)::r,h,k=>by
  simp only[cA] at h;simp only[aj];split
  ·rename_i hk;subst hk;exact .inr h.1.symm
  ·exact H0 h.2 k
theorem vL{p:Nat→Bool} : ∀ {ts:List (Nat×I)},b6 p ts→∀ k,(bC ts k).only p=true
 | [],_,k=>by simp[bC,I.only]
 |(j,v)::r,h,k=>by
  simp only[b6] at h;simp only[bC];split
  ·exact h.1
  ·exact vL h.2 k
theorem FK{p:Nat→Bool} : ∀ {os:List (Nat×ak)},b8 p os→∀ k x,aj os k=some x→x.only p=true
 | [],_,k,x,hx=>by simp[aj] at hx
 |(j,v)::r,h,k,x,hx=>by
  simp only[b8] at h;simp only[aj] at hx;split at hx
  ·simp only[u8] at hx;subst hx;exact h.1
  ·exact FK h.2 k x hx
theorem bn.cB{ts ts':List (Nat×I)}{os os':List (Nat×ak)}(U:bX ts ts')(ab:cA os os')(af:b6 (av os') ts')(ar:b8 (av os') os'):bn (au ts os) (au ts' os'):=by
 rintro c a w ⟨D,E,hs⟩;have hp:∀ n,av os' n=true→(if av os' n then E n else none)=E n:=fun n hn=>by simp[hn]
 refine ⟨D,fun n=>if av os' n then E n else none,hs.sz,hs.eC,fun t =>?_,hs.dK,hs.c6,hs.aK,fun n =>?_,fun n m e e' b U ab af ar =>?_,fun n e hn =>?_,hs.eL,hs.cT,hs.eY,hs.fA⟩
 ·have:=wB U t;rcases this with h | h
  ·simp only[au];rw[h];simp[bl]
  ·refine bl.de (p:=av os') hp (vL af t) ?_;have:=hs.dO t;simp only[au] at *;rw[h];exact this
 ·have ho:=hs.bP n;simp only[au] at *;rcases H0 ab n with h | h
  ·rw[h];simp[cS,av,h]
  ·rw[h];by_cases hin:aj os n=none
   ·rw[hin];simp[cS,av,h,hin]
   ·have ay:(if av os' n then E n else none)=E n:=hp n (by simp[av,h];cases hh:aj os n <;>simp_all);cases hx:aj os n with
    |none=>exact absurd hx hin
    |some x =>
     have hon:=FK ar n x (h.trans hx);rw[hx] at ho;cases x with
     |box x =>
      obtain ⟨b,cs,T,k1,k2,k3,k4,k5⟩:=ho;exact ⟨b,cs,T,ay.trans k1,k2,k3,ao.de hp _ _ (by simpa[ak.only] using hon) k4,k5⟩
     |bW T sz es =>
      obtain ⟨aP,k1,k2,k3⟩:=ho;refine ⟨aP,ay.trans k1,k2,?_⟩;cases aP with
      |none=>exact k3
      |some bc =>
       obtain ⟨b,cap⟩:=bc;obtain ⟨cs,pre,rest,q1,q2,q3,q4,q5⟩:=k3;exact ⟨cs,pre,rest,q1,q2,q3,aU.de hp _ _ (by simpa[ak.only] using hon) q4,q5⟩
     |dJ T xs =>
      obtain ⟨aP,k1,k2,k3⟩:=ho;exact ⟨aP,ay.trans k1,k2,k3⟩
     |dI x =>
      obtain ⟨b,k1,k2⟩:=ho;exact ⟨b,ay.trans k1,k2⟩
     |bE ks vs =>
      obtain ⟨b,es,ck,k1,k2,k3,k4,k5,k6,k7⟩:=ho;simp only[ak.only,zz1] at hon;exact ⟨b,es,ck,ay.trans k1,k2,k3,k4,aO.de hp _ _ hon.1 k5,aO.de hp _ _ hon.2 k6,k7⟩
     |it ks vs left cur =>
      obtain ⟨r,b,es,ck,si,se,la,k1,k2,k3,k4,k5,k6,k7⟩:=ho;simp only[ak.only,zz1] at hon;exact ⟨r,b,es,ck,si,se,la,ay.trans k1,k2,k3,k4,aO.de hp _ _ hon.1 k5,aO.de hp _ _ hon.2 k6,k7⟩
 ·refine hs.cQ n m e e' b ?_ ?_ af ar
  ·split at U
   ·exact U
   ·cases U
  ·split at ab
   ·exact ab
   ·cases ab
 ·by_cases hi:av os' n=true
  ·simp only[hi,if_true];exact hs.dR n e hn
  ·simp only[hi];exact .inl rfl
def bS:Nat→List I→List (Nat×I)
 |_,[]=>[]
 |k,a::as=>(k,a)::bS (k+1) as
theorem Fb:∀ (as:List I) (k t:Nat),bC (bS k as) t=if t<k then .dx else (as[t-k]?).getD .dx
 | [],k,t=>by simp[bS,bC]
 |a::as,k,t=>by
  simp only[bS,bC,Fb as (k+1) t];by_cases h:t=k
  ·subst h;simp
  ·rw[if_neg h];by_cases ab:t<k
   ·rw[if_pos (by omega),if_pos ab]
   ·rw[if_neg (by omega),if_neg ab,show t-k=(t-(k+1))+1 from by omega];simp
theorem wz(args:List I)(os:List (Nat×ak)):bn (qw args os) (au (bS 0 args) os):=by
 rintro c a w ⟨D,E,hs⟩;refine ⟨D,E,hs.sz,hs.eC,fun t =>?_,hs.dK,hs.c6,hs.aK,hs.bP,hs.cQ,hs.dR,hs.eL,hs.cT,hs.eY,hs.fA⟩;have:=hs.dO t;simp only[au,Fb,qw,Nat.not_lt_zero,if_false,Nat.sub_zero] at *;cases h:args[t]? with
 |none=>simp[bl]
 |some x=>simpa[zz2,h] using this
theorem ach(args:List I):bn (qv args) (au (bS 0 args) []):=wz args []
theorem vz(ts:List (Nat×I))(os:List (Nat×ak))(d:Nat)(v:I):(au ts os).put d v=au ((d,v)::ts) os:=rfl
theorem Fo(ts:List (Nat×I))(os:List (Nat×ak))(d:Nat)(v:I):(au ts os).a8 (some d) v=au ((d,v)::ts) os:=rfl
theorem Zs(A:ai)(v:I):A.a8 none v=A:=rfl
theorem te(ts:List (Nat×I))(os:List (Nat×ak))(d:Nat)(x:ak):(au ts os).aZ d x=au ts ((d,x)::os):=rfl
theorem Zt(ts:List (Nat×I))(os:List (Nat×ak))(k:Nat):(au ts os).t k=bC ts k:=rfl
theorem Zr(ts:List (Nat×I))(os:List (Nat×ak))(k:Nat):(au ts os).o k=aj os k:=rfl
theorem b9(j:Nat)(v:I)(r:List (Nat×I))(k:Nat):bC ((j,v)::r) k=if k=j then v else bC r k:=rfl
theorem ct(j:Nat)(v:ak)(r:List (Nat×ak))(k:Nat):aj ((j,v)::r) k=if k=j then some v else aj r k:=rfl
theorem ta(k:Nat):aj [] k=none:=rfl
theorem O5(A:ai)(k:Nat):al A (.t k)=A.t k:=rfl
theorem O4(A:ai)(x:I):al A (.c x)=x:=rfl
noncomputable def dn(d:Option Nat)(rest:List aw)(A:ai)(v:I):cR:=aC rest (A.a8 d v)
theorem YT(d:Option Nat)(rest:List aw)(A:ai)(v:I):dn d rest A v=aC rest (A.a8 d v):=rfl
theorem KA(v:I)(k:I→cR):cX (some v) k=k v:=rfl
theorem JU(A:ai):aC [] A=.done A:=rfl
noncomputable def bN(A:ai)(d:Option Nat)(op:bU)(rest:List aw):cR:=bt A d op rest (aC rest)
noncomputable def iJ(x:I)(b:Bool)(d:Option Nat)(op:bU)(rest:List aw)(A:ai):cR :=
 match x with
 | .bool b'=>if b'=b then bN A d op rest else aC rest (A.a8 d .undef)
 | .undef=>aC rest (A.a8 d .undef)
 |_=>.fail
theorem aW.guard{P:Program}{Y:Value→List I→List (Nat×ak)→cE→Prop}{dr:Bool}{K:ai→Prop}{x b:Bool}{d:Option Nat}{op:bU}{rest:List aw}{A:ai}(U:x=b→aW P Y dr K (bN A d op rest))(ab:x = !b→aW P Y dr K (aC rest (A.a8 d .undef))):aW P Y dr K (iJ (.bool x) b d op rest A):=by
 unfold iJ;by_cases h:x=b
 ·simp only[if_pos h];exact U h
 ·simp only[if_neg h];exact ab (by cases x <;>cases b <;>simp_all)
def I.dW:I→Option (List I)
 | .agg fs=>some fs
 |_=>none
def qO(p:List Nat):Option I→Option I
 |some f=>f.at p
 |none=>none
def oo(i:Nat)(p:List Nat):Option (List I)→Option I
 |some fs=>qO p fs[i]?
 |none=>none
theorem J8(c:I):c.at []=some c:=by cases c <;>rfl
theorem J7(c:I)(i:Nat)(p:List Nat):c.at (i::p)=oo i p c.dW:=by
 cases c <;>first | rfl | (rename_i fs;simp only[I.at,oo,I.dW,qO])
def zV(fs:List I)(i:Nat)(p:List Nat)(v:I):Option I→I
 |some f=>.agg (fs.set i (f.eF p v))
 |none=>.agg fs
def wo(c:I)(i:Nat)(p:List Nat)(v:I):Option (List I)→I
 |some fs=>zV fs i p v fs[i]?
 |none=>c
theorem rT(c v:I):c.eF [] v=v:=by cases c <;>rfl
theorem abM(c:I)(i:Nat)(p:List Nat)(v:I):c.eF (i::p) v=wo c i p v c.dW:=by
 cases c <;>first | rfl | (rename_i fs;simp only[I.eF,wo,I.dW];cases fs[i]? <;>rfl)
def fR(p:List Nat):Option ak→Option I
 |some (.box c)=>c.at p
 |_=>none
def iH(A:ai):I→Option I
 | .ref x=>some x
 | .ptr n p=>fR p (A.o n)
 |_=>none
theorem nh(A:ai)(x:I):cM A x=iH A x:=by
 cases x <;>first | rfl | (rename_i n p;simp only[cM,iH];cases A.o n with | none=>rfl | some y=>cases y <;>rfl)
def vI(s:Option Nat)(x:I):Option I:=if cn s x=true then some x else none
def pT(s:Option Nat):Option I→Option I
 |some x=>vI s x
 |none=>none
open Classical in
noncomputable def dX(fs:List I)(f off:Nat)(y:I):Option I:=if f<fs.length∧I.sizes (fs.take f)=off then some y else none
noncomputable def sy(n:Nat)(p:List Nat)(f off:Nat):Option (List I)→Option I
 |some fs=>dX fs f off (.ptr n (p++[f]))
 |none=>none
noncomputable def ri(fs:List I)(f off:Nat):Option I→Option I
 |some v=>dX fs f off (.ref v)
 |none=>none
noncomputable def sA(f off:Nat):Option (List I)→Option I
 |some fs=>ri fs f off fs[f]?
 |none=>none
def gq:Option I→Option (List I)
 |some x=>x.dW
 |none=>none
noncomputable def jW(A:ai)(f off:Nat):I→Option I
 | .ref c=>sA f off c.dW
 | .ptr n p=>sy n p f off (gq (fR p (A.o n)))
 |_=>none
theorem aaS(A:ai)(f off:Nat)(x:aV):bu A (.fa f off x)=jW A f off (al A x):=by
 simp only[bu];generalize al A x=y;cases y with
 |ref c =>
  cases c <;>simp only[jW,I.dW,sA]
  rename_i fs;cases h:fs[f]? with
  |none=>simp[ri]
  |some v =>
   have hl:f<fs.length:=(zy0.1 h).1;simp only[ri,dX,hl,true_and]

 |ptr n p =>
  simp only[jW,nh,iH];cases fR p (A.o n) with
  |none=>simp[gq,sy]
  |some c =>
   cases c <;>simp only[gq,I.dW,sy]
   simp only[dX]

 |_=>simp only[jW]
noncomputable def sG(f off:Nat)(s:Option Nat):Option (List I)→Option I
 |some fs=>match fs[f]? with
  |some v=>(dX fs f off v).bind (vI s)
  |none=>none
 |none=>none
theorem aaT(A:ai)(f off:Nat)(s:Option Nat)(x:aV):bu A (.fl f off s x)=sG f off s (al A x).dW:=by
 simp only[bu];generalize al A x=y;cases y <;>simp only[sG,I.dW]
 rename_i fs;cases h:fs[f]? with
 |none=>rfl
 |some v =>
  have hl:f<fs.length:=(zy0.1 h).1;simp only[dX,hl,true_and];by_cases U:I.sizes (fs.take f)=off <;>by_cases ab:cn s v=true <;>simp[U,ab,vI]
open Classical in
noncomputable def np(k:Int)(n:Nat)(y:Option I):Option I:=if 0≤k∧k<n then y else none
noncomputable def nm(n esz:Nat)(fs:List I)(y:Option I):Option I:=if jV n esz fs=true then y else none
noncomputable def vi(n esz:Nat)(k:Int):Option (List I)→Option I
 |some fs=>nm n esz fs ((fs[k.toNat]?).map .ref)
 |none=>none
noncomputable def sQ(n esz m:Nat)(p:List Nat)(k:Int):Option (List I)→Option I
 |some fs=>nm n esz fs (some (.ptr m (p++[k.toNat])))
 |none=>none
noncomputable def pM(A:ai)(n esz:Nat)(k:Int):I→Option I
 | .ref c=>np k n (vi n esz k c.dW)
 | .ptr m p=>np k n (sQ n esz m p k (gq (fR p (A.o m))))
 |_=>none
noncomputable def sP(A:ai)(n esz:Nat)(x:I):I→Option I
 | .int _ k=>pM A n esz k x
 |_=>none
theorem aaU(A:ai)(n esz:Nat)(x i:aV):bu A (.ia n esz x i)=sP A n esz (al A x) (al A i):=by
 simp only[bu];generalize al A x=y;generalize al A i=z;cases z <;>simp only[sP]
 rename_i kk k;cases y with
 |ref c =>
  simp only[pM,np];split
  ·cases c <;>simp only[I.dW,vi,nm]
  ·rfl
 |ptr m p =>
  simp only[pM,np,nh,iH];split
  ·cases fR p (A.o m) with
   |none=>simp[gq,sQ]
   |some c=>cases c <;>simp only[gq,I.dW,sQ,nm]
  ·rfl
 |_=>simp only[pM];split <;>rfl
open Classical in
noncomputable def nr(m:Nat)(p:List Nat)(sz lo l esz:Nat)(k:Int):Option (List I)→Option I
 |some _=>if sz=esz∧0≤k∧k<l then some (.ptr m (p++[lo+k.toNat])) else none
 |none=>none
open Classical in
noncomputable def kU(A:ai)(esz:Nat)(k:Int):I→Option I
 | .slice sz es=>if sz=esz∧0≤k∧k<es.length then (es[k.toNat]?).map .ref else none
 | .own m l=>match A.o m with
  |some (.bW _ sz es)=>if l=es.length∧sz=esz∧0≤k∧k<es.length then (es[k.toNat]?).map .ref else none
  |_=>none
 | .view m p sz lo l=>nr m p sz lo l esz k (gq (fR p (A.o m)))
 |_=>none
noncomputable def sT(A:ai)(esz:Nat)(x:I):I→Option I
 | .int _ k=>kU A esz k x
 |_=>none
theorem aaV(A:ai)(esz:Nat)(x i:aV):bu A (.is esz x i)=sT A esz (al A x) (al A i):=by
 simp only[bu];generalize al A x=y;generalize al A i=z;cases z <;>simp only[sT]
 cases y <;>simp only[kU]
 ·split <;>simp_all
 ·rename_i m p sz lo l;simp only[nh,iH];cases fR p (A.o m) with
  |none=>rfl
  |some c=>cases c <;>simp only[gq,I.dW,nr]
noncomputable def vl(n esz:Nat)(s:Option Nat)(k:Int):Option (List I)→Option I
 |some fs=>np k n (nm n esz fs (pT s fs[k.toNat]?))
 |none=>none
noncomputable def sV(n esz:Nat)(s:Option Nat)(x:I):I→Option I
 | .int _ k=>vl n esz s k x.dW
 |_=>none
theorem aaW(A:ai)(n esz:Nat)(s:Option Nat)(x i:aV):bu A (.ix n esz s x i)=sV n esz s (al A x) (al A i):=by
 simp only[bu];generalize al A x=y;generalize al A i=z;cases z <;>simp only[sV]
 rename_i kk k;cases y <;>simp only[I.dW,vl]
 case agg fs =>
  simp only[np,nm];split
  ·split
   ·cases fs[k.toNat]? <;>rfl
   ·rfl
  ·rfl
 all_goals (split <;>rfl)
def jZ(A:ai):I→Option I
 | .slice _ es=>some (.int .i64 es.length)
 | .nils _=>some (.int .i64 0)
 | .c0 _=>some (.int .i64 0)
 | .own m l=>match A.o m with | some (.bW _ _ es)=>if l=es.length then some (.int .i64 es.length) else none | _=>none
 | .view _ _ _ _ k=>some (.int .i64 k)
 |_=>none
theorem aaY(A:ai)(x:aV):bu A (.len x)=jZ A (al A x):=by
 simp only[bu];generalize al A x=y;cases y <;>rfl
open Classical in
noncomputable def ug(n esz:Nat)(fs:List I)(y:I):Option I:=if jV n esz fs=true∧n≤maxLen∧n≠0 then some y else none
noncomputable def uh(n esz m:Nat)(p:List Nat):Option (List I)→Option I
 |some fs=>ug n esz fs (.view m p esz 0 n)
 |none=>none
noncomputable def Ie(n esz:Nat):Option (List I)→Option I
 |some fs=>ug n esz fs (.slice esz fs)
 |none=>none
noncomputable def qx(A:ai)(n esz:Nat):I→Option I
 | .ptr m p=>uh n esz m p (gq (fR p (A.o m)))
 | .ref c=>Ie n esz c.dW
 |_=>none
theorem aaZ(A:ai)(n esz:Nat)(x:aV):bu A (.va n esz x)=qx A n esz (al A x):=by
 simp only[bu];generalize al A x=y;cases y with
 |ptr m p =>
  simp only[qx,nh,iH];cases fR p (A.o m) with
  |none=>simp[gq,uh]
  |some c=>cases c <;>simp only[gq,I.dW,uh,ug] <;>(split <;>simp_all)
 |ref c=>cases c <;>simp only[qx,I.dW,Ie,ug] <;>(split <;>simp_all)
 |_=>simp only[qx]
theorem aaX(A:ai)(s:Option Nat)(x:aV):bu A (.ld s x)=pT s (iH A (al A x)):=by
 simp only[bu,nh];cases iH A (al A x) <;>simp only[pT,vI]
noncomputable def tA(A:ai)(d:Option Nat)(a b:aV)(rest:List aw):I→cR
 | .bool t=>aC rest (A.a8 d (if t then al A a else al A b))
 |_=>.fail
noncomputable def ue(op:UnOp)(x:I):Option I:=match op,x with
  | .not,.bool b=>some (.bool !b)
  | .neg,.int k n=>some (.int k (k.wrap (0-n)))
  | .xor,.int k n=>some (.int k (qW k n))
  |_,_=>none
def xS(i:Nat):I→Option I
 | .tuple fs=>fs[i]?
 |_=>none
def xA(k:IntKind):I→Option I
 | .int _ n=>some (.int k (k.wrap n))
 |_=>none
noncomputable def wZ(A:ai)(d:Nat)(z:I)(rest:List aw):Option ak→cR
 |none=>aC rest ((A.aZ d (.box z)).put d (.ptr d []))
 |some _=>.fail
noncomputable def uL(A:ai)(d:Nat)(z:I)(rest:List aw)(v:Bool):cR:=if v=true then aC rest ((A.aZ d (.box z)).put d (.ptr d [])) else .fail
noncomputable def uK(A:ai)(d:Nat)(z:I)(rest:List aw):Option ak→cR
 |none=>uL A d z rest z.bV
 |some _=>.fail
open Classical in
noncomputable def da(A:ai)(s:Option Nat)(n:Nat)(p:List Nat)(b v:I)(rest:List aw):Option I→cR
 |some old=>if zc s v old then aC rest (A.aZ n (.box (b.eF p v))) else .fail
 |none=>.fail
noncomputable def wy(A:ai)(s:Option Nat)(n:Nat)(p:List Nat)(v:I)(rest:List aw):Option ak→cR
 |some (.box b)=>da A s n p b v rest (b.at p)
 |_=>.fail
noncomputable def c8(A:ai)(s:Option Nat)(v:I)(rest:List aw):I→cR
 | .ptr n p=>wy A s n p v rest (A.o n)
 |_=>.fail
noncomputable def sh(A:ai)(d:Option Nat)(args:List I)(rest:List aw):I→cR
 | .func f caps=>.call (mq f) (jc f args caps) (bZ true A (jc f args caps)) (bZ false A (jc f args caps)) d rest A
 | .raw v=>.mg v args d rest A
 |_=>.fail
section
variable (d:Option Nat) (rest:List aw) (A:ai)
theorem JF(op:bU):aC (⟨d,op,none⟩::rest) A=bN A d op rest:=rfl
theorem JG(op:bU)(t:Nat)(b:Bool):aC (⟨d,op,some (t,b)⟩::rest) A=iJ (A.t t) b d op rest A:=rfl
theorem XT(op:bU):iJ (.bool true) true d op rest A=bN A d op rest:=by simp[iJ]
theorem XQ(op:bU):iJ (.bool false) false d op rest A=bN A d op rest:=by simp[iJ]
theorem XS(op:bU):iJ (.bool true) false d op rest A=aC rest (A.a8 d .undef):=by simp[iJ]
theorem XR(op:bU):iJ (.bool false) true d op rest A=aC rest (A.a8 d .undef):=by simp[iJ]
theorem XU(op:bU)(b:Bool):iJ .undef b d op rest A=aC rest (A.a8 d .undef):=rfl
theorem aae(x:aV):bN A d (.mv x) rest=aC rest (A.a8 d (al A x)):=rfl
theorem aai(c a b:aV):bN A d (.pick c a b) rest=tA A d a b rest (al A c):=by
 simp only[bN,bt,bu];cases al A c <;>simp only[cX,tA]
theorem ZP(op:BinOp)(x y:aV):bN A d (.bin op x y) rest=cX (cF op (al A x) (al A y)) (dn d rest A):=rfl
theorem ZY(ty:cH)(neg:Bool)(x y:aV):bN A d (.eqv ty neg x y) rest=cX ((cm ty (al A x) (al A y)).map fun b=>.bool (if neg then !b else b)) (dn d rest A):=rfl
theorem aan(op:UnOp)(x:aV):bN A d (.un op x) rest=cX (ue op (al A x)) (dn d rest A):=rfl
theorem ZW(k:IntKind)(x:aV):bN A d (.conv k x) rest=cX (xA k (al A x)) (dn d rest A):=by
 simp only[bN,bt,bu];cases al A x <;>rfl
theorem Z5(s:Option Nat)(x:aV):bN A d (.ld s x) rest=cX (pT s (iH A (al A x))) (dn d rest A):=by rw[←aaX];rfl
theorem Z0(f off:Nat)(x:aV):bN A d (.fa f off x) rest=cX (jW A f off (al A x)) (dn d rest A):=by rw[←aaS];rfl
theorem Z1(f off:Nat)(s:Option Nat)(x:aV):bN A d (.fl f off s x) rest=cX (sG f off s (al A x).dW) (dn d rest A):=by rw[←aaT];rfl
theorem Z2(n esz:Nat)(x i:aV):bN A d (.ia n esz x i) rest=cX (sP A n esz (al A x) (al A i)) (dn d rest A):=by rw[←aaU];rfl
theorem Z3(esz:Nat)(x i:aV):bN A d (.is esz x i) rest=cX (sT A esz (al A x) (al A i)) (dn d rest A):=by rw[←aaV];rfl
theorem Z4(n esz:Nat)(s:Option Nat)(x i:aV):bN A d (.ix n esz s x i) rest=cX (sV n esz s (al A x) (al A i)) (dn d rest A):=by rw[←aaW];rfl
theorem Z6(x:aV):bN A d (.len x) rest=cX (jZ A (al A x)) (dn d rest A):=by rw[←aaY];rfl
theorem aao(n esz:Nat)(x:aV):bN A d (.va n esz x) rest=cX (qx A n esz (al A x)) (dn d rest A):=by rw[←aaZ];rfl
theorem ZQ(zs:List I)(ps:List (Nat×aV)):bN A d (.bld zs ps) rest=cX ((ef zs (ps.map fun p=>(p.1,al A p.2))).map .agg) (dn d rest A):=rfl
theorem ZZ(x:aV)(i:Nat):bN A d (.ext x i) rest=cX (xS i (al A x)) (dn d rest A):=by
 simp only[bN,bt,bu];cases al A x <;>rfl
theorem aaa(f:FuncId)(caps:List aV):bN A d (.mk f caps) rest=cX (if ((caps.map (al A)).all fun y=>y.bV)=true then some (.func f (caps.map (al A))) else none) (dn d rest A):=rfl
theorem ZN(d:Nat)(z:I):bN A (some d) (.alloc z) rest=wZ A d z rest (A.o d):=by
 simp only[bN,bt];cases A.o d <;>rfl
theorem ZR(d:Nat)(x:aV):bN A (some d) (.box x) rest=uK A d (al A x) rest (A.o d):=by
 simp only[bN,bt];cases A.o d <;>simp only[uK,uL]
theorem aam(s:Option Nat)(x v:aV):bN A none (.bm s x v) rest=c8 A s (al A v) rest (al A x):=by
 simp only[bN,bt];cases al A x <;>simp only[c8]
 rename_i n p;cases A.o n with
 |none=>rfl
 |some y =>
  cases y <;>simp only[wy]
  rename_i b;cases b.at p <;>simp only[da]
theorem ZT(f:FuncId)(args:List aV):bN A d (.call f args) rest=.call f (args.map (al A)) (bZ true A (args.map (al A))) (bZ false A (args.map (al A))) d rest A:=rfl
theorem ZU(x:aV)(args:List aV):bN A d (.fQ x args) rest=sh A d (args.map (al A)) rest (al A x):=by
 simp only[bN,bt];cases al A x <;>rfl
end
end Go.Abs
namespace Go.Abs
open Go Go.RowKit
mutual
/-- Closed,and as a result is told: no nil slice but as the empty one. -/
def I.done:I→Bool
 | .agg fs=>I.gf fs
 | .slice _ es=>I.cq es
 | .ref x=>x.bG
 | .func f caps=>decide (f<1000000)&&I.gf caps
 | .iface _ v=>v.bG
 | .dp ks vs=>I.cq ks&&I.cq vs
 | .bool _ | .int _ _ | .bT _ | .nilp | .dE | .ed | .any | .raw _=>true
 |_=>false
def I.gf:List I→Bool
 | []=>true
 |x::xs=>x.done&&I.gf xs
end
mutual
theorem xD:∀ x:I,x.done=true→x.bG=true
 | .agg fs,h=>by simp only[I.done,I.bG] at *;exact qX fs h
 | .slice _ es,h=>by simpa only[I.done,I.bG] using h
 | .ref x,h=>by simpa only[I.done,I.bG] using h
 | .func _ caps,h=>by simp only[I.done,I.bG,zz1] at *;exact qX caps h.2
 | .iface _ v,h=>by simpa only[I.done,I.bG] using h
 | .bool _,_ | .int _ _,_ | .bT _,_ | .nilp,_ | .dE,_ | .ed,_ | .any,_ | .raw _,_=>by simp[I.bG]
 | .dp _ _,h=>by simpa only[I.done,I.bG] using h
 | .nils _,h | .c0 _,h | .ptr _ _,h | .own _ _,h | .view _ _ _ _ _,h | .mref _,h | .dv _,h | .undef,h | .dx,h | .tuple _,h=>by simp[I.done] at h
theorem qX:∀ xs:List I,I.gf xs=true→I.cq xs=true
 | [],_=>rfl
 |x::xs,h=>by
  simp only[I.gf,I.cq,zz1] at *;exact ⟨xD x h.1,qX xs h.2⟩
end
mutual
theorem Dd(aR:Bool)(A:ai):∀ x:I,x.done=true→br aR A x=some x
 | .agg fs,h=>by simp only[I.done,br] at *;rw[oB aR A fs h];rfl
 | .slice _ es,h=>by simp only[I.done] at h;simp[br,h]
 | .ref x,h=>by simp only[I.done] at h;simp[br,h]
 | .func _ caps,h=>by simp only[I.done,br,zz1,decide_eq_true_eq] at *;rw[if_pos h.1,oB aR A caps h.2];rfl
 | .iface _ v,h=>by simp only[I.done] at h;simp[br,h]
 | .bool _,_ | .int _ _,_ | .bT _,_ | .nilp,_ | .dE,_ | .ed,_ | .any,_ | .raw _,_=>by simp[br]
 | .dp _ _,h=>by simp only[I.done] at h;simp[br,h]
 | .nils _,h | .c0 _,h | .ptr _ _,h | .own _ _,h | .view _ _ _ _ _,h | .mref _,h | .dv _,h | .undef,h | .dx,h | .tuple _,h=>by simp[I.done] at h
theorem oB(aR:Bool)(A:ai):∀ xs:List I,I.gf xs=true→bZ aR A xs=some xs
 | [],_=>by simp[bZ]
 |x::xs,h=>by
  simp only[I.gf,zz1] at h;simp only[bZ,Dd aR A x h.1,oB aR A xs h.2]
end
theorem OP{x:I}(h:x.done=true):x.bV=true:=by cases x <;>simp_all[I.done,I.bV]
class Enc (α:Type) where
 enc:α→I
 sz:Nat
 bh:cW
 iL:Bool
 done:∀ x,(enc x).done=true
 size:∀ x,(enc x).size=sz
 jM:∀ x,(enc x).bh=bh
 agg:∀ x,(enc x).isAgg=iL
open Enc (enc)
instance:Enc Int where
 enc n:=.int .i64 n
 sz:=1
 bh:=.one
 iL:=false
 done _:=rfl
 size _:=by simp[I.size]
 jM _:=by simp[I.bh]
 agg _:=rfl
instance:Enc Bool where
 enc b:=.bool b
 sz:=1
 bh:=.one
 iL:=false
 done _:=rfl
 size _:=by simp[I.size]
 jM _:=by simp[I.bh]
 agg _:=rfl
theorem ja{α:Type}[Enc α](l:List α):I.cq (l.map enc)=true:=by
 induction l with
 |nil=>rfl
 |cons x l ih=>simp only[zz7,I.cq,xD _ (Enc.done x),ih,Bool.and_self]
theorem OQ{α:Type}[Enc α](l:List α):I.gf (l.map enc)=true:=by
 induction l with
 |nil=>rfl
 |cons x l ih=>simp only[zz7,I.gf,Enc.done x,ih,Bool.and_self]
theorem abR{α:Type}[Enc α](l:List α):I.sizes (l.map enc)=l.length*Enc.sz α:=by
 rw[I.jq (sz:=Enc.sz α) _ (by simp only[zy7];rintro x ⟨y,_,rfl⟩;exact Enc.size y)];simp
theorem tV{α:Type}[Enc α](l:List α):I.cZ (l.map enc)=List.replicate l.length (Enc.bh α):=by
 induction l with
 |nil=>rfl
 |cons x l ih=>simp only[zz7,I.cZ,Enc.jM x,ih,zw8,List.replicate_succ]
instance {α:Type} [Enc α]:Enc (List α) where
 enc l:=.slice (Enc.sz α) (l.map enc)
 sz:=1
 bh:=.one
 iL:=false
 done l:=by simp only[I.done];exact ja l
 size _:=by simp[I.size]
 jM _:=by simp[I.bh]
 agg _:=rfl
structure Aj (n:Nat) (α:Type) where
 l:List α
 h:l.length=n
instance {n:Nat} {α:Type} [Enc α]:Enc (Aj n α) where
 enc x:=.agg (x.l.map enc)
 sz:=n*Enc.sz α
 bh:=.eS (List.replicate n (Enc.bh α))
 iL:=true
 done x:=by simp only[I.done];exact OQ x.l
 size x:=by simp only[I.size,abR,x.h]
 jM x:=by simp only[I.bh,tV,x.h]
 agg _:=rfl
section
variable {α:Type} [Enc α]
theorem lJ(aR:Bool)(A:ai)(x:α):br aR A (enc x)=some (enc x):=Dd aR A _ (Enc.done x)
theorem kR(x:α):(enc x).bG=true:=xD _ (Enc.done x)
theorem b7(p:Nat→Bool)(x:α):(enc x).only p=true:=lj p _ (kR x)
theorem eH(x:α):(enc x).bV=true:=OP (Enc.done x)
theorem su(x:α):cn none (enc x) = !(Enc.iL α):=by simp[cn,Enc.agg]
theorem fH(n:Nat)(x:α):cn (some n) (enc x)=(Enc.iL α&&Enc.sz α==n):=by simp[cn,Enc.agg,Enc.size]
theorem uU(x:α):(enc x).size=Enc.sz α:=Enc.size x
theorem ff(x:α):(enc x).bh=Enc.bh α:=Enc.jM x
theorem eQ(n:Int):(enc n:I)=.int .i64 n:=rfl
theorem OU(n:Bool):(enc n:I)=.bool n:=rfl
theorem iR(l:List α):(enc l:I)=.slice (Enc.sz α) (l.map enc):=rfl
theorem sv:Enc.sz (List α)=1:=rfl
theorem sr:Enc.iL (List α)=false:=rfl
theorem xG:Enc.bh (List α)=.one:=rfl
theorem JQ(l:List α):∀ x∈l.map (enc (α:=α)),x.size=Enc.sz α:=by
 simp only[zy7];rintro x ⟨y,_,rfl⟩;exact Enc.size y
end
theorem jR(n:Int)(U:-9223372036854775808≤n)(ab:n≤9223372036854775807):IntKind.i64.wrap n=n:=IntWalk.i64_in n ⟨U,ab⟩
theorem bp.mk{P:Program}{f:FuncId}{fn:Func}{x:bH}{rs:List bR}{args:List I}{r:I}(hf:P.funcs[f]?=some fn)(hcall:fq P f=true)(hc:(fn.body.bind (eJ P fn.ntmps))=some x)
  (hrs:iG P fn.results.toList=some rs) (hn:args.length≤fn.ntmps) (h:∀ (w:World) (D:aX) (E:bj),ae ⟨P,w,D,fn.ntmps,cI E,E,dq,none,none⟩ x (kE rs r) (au (bS 0 args) [])):bp P f args r:=by
 obtain ⟨body,hb,hc'⟩:=zv5.1 hc;exact bp.vG hf hb hcall hc' hrs hn (fun w D E=>(h w D E).sub (ach args))
end Go.Abs
namespace Go.Abs.C
open Go Go.Abs
abbrev o(a:Nat)(x:bU):aw:=⟨some a,x,none⟩
abbrev cu(a:Nat)(x:bU)(k:Nat):aw:=⟨some a,x,some (k,true)⟩
abbrev on(a:Nat)(x:bU)(k:Nat):aw:=⟨some a,x,some (k,false)⟩
abbrev p(x:bU):aw:=⟨none,x,none⟩
abbrev aq(n:Int):aV:=.c (.int .i64 n)
abbrev T:aV:=.c (.bool true)
abbrev aY:aV:=.c (.bool false)
abbrev m(a b:Nat):aw:=⟨some a,.mv (.t b),none⟩
abbrev dH(a b k:Nat):aw:=⟨some a,.mv (.t b),some (k,true)⟩
abbrev iA(a b k:Nat):aw:=⟨some a,.mv (.t b),some (k,false)⟩
abbrev cg(a:Nat)(n:Int):aw:=⟨some a,.mv (.c (.int .i64 n)),none⟩
abbrev l(a b:Nat):aw:=⟨some a,.ld none (.t b),none⟩
abbrev fu(a b k:Nat):aw:=⟨some a,.ld none (.t b),some (k,true)⟩
abbrev kY(a b k:Nat):aw:=⟨some a,.ld none (.t b),some (k,false)⟩
abbrev aG(a s b:Nat):aw:=⟨some a,.ld (some s) (.t b),none⟩
abbrev f(a b c d:Nat):aw:=⟨some a,.fa b c (.t d),none⟩
abbrev fS(a b c d k:Nat):aw:=⟨some a,.fa b c (.t d),some (k,true)⟩
abbrev fn(a b c d k:Nat):aw:=⟨some a,.fa b c (.t d),some (k,false)⟩
abbrev ad(a b:Nat)(n:Int):aw:=⟨some a,.bin .add (.t b) (.c (.int .i64 n)),none⟩
abbrev lt(a b c:Nat):aw:=⟨some a,.bin .lss (.t b) (.t c),none⟩
abbrev and(a b c:Nat):aw:=⟨some a,.pick (.t b) (.t c) (.c (.bool false)),none⟩
abbrev or(a b c:Nat):aw:=⟨some a,.pick (.t b) (.c (.bool true)) (.t c),none⟩
abbrev no(a b:Nat):aw:=⟨some a,.un .not (.t b),none⟩
abbrev b(a c:Nat):aw:=⟨some a,.box (.t c),none⟩
abbrev s(x y:bH):bH:=.seq x y
abbrev r(g:List aw):bH:=.cj none g
abbrev cJ(P:Program)(f:Func)(c:bH):Prop:=f.body.bind (eJ P f.ntmps)=some c
abbrev cG(P:Program)(f:Func)(r:List bR):Prop:=iG P f.results.toList=some r
abbrev cD(P:Program)(n:FuncId):Prop:=fq P n=true
theorem e{α:Type}{a b:α}(h:a=b):a=b:=h
end Go.Abs.C
