/-
  A part of the proof that the law MarchOnce returns true for every input; three tables of Go's library start as the text lays them (the card ties them); conditions: none beyond the statement's own. (part 2 of 7)
-/
import Derived.Maps.RangeRun
import Derived.Laws.MakeOwn
import Derived.Orders
import Derived.OrdersIn
import Derived.Test.YthbdbocionnfgaaDoorNaa
set_option linter.unusedSimpArgs false
set_option linter.unusedVariables false
set_option maxHeartbeats 16000000
set_option maxRecDepth 100000
namespace Go.Abs
open Go Go.RowKit
theorem Cb{w:World}{D:aU}{E:bf} : ∀ (l:List cD) (xs ys:List I) (cs ds:List Value),l.all xI=true→iK l xs ys=some true→aP w D E xs cs→aP w D E ys ds→xs=ys∧cs=ds∧∀ v∈cs,∃ k n,v=.int k n
 | [],xs,ys,cs,ds,_,h,hx,hy=>by
  simp only[iK] at h;split at h
  ·simp only[aP] at hx hy;subst hx hy;exact ⟨rfl,rfl,fun v hv=>by simp at hv⟩
  ·cases h
 |t::ts,xs,ys,cs,ds,ha,h,hx,hy=>by
  simp only[List.all_cons,t8] at ha;simp only[iK] at h;split at h
  case h_2=>cases h
  rename_i f fs g gs;unfold jK at h;split at h
  case h_2=>cases h
  rename_i a b U ab;simp only[v6,t8] at h;obtain ⟨rfl,rfl⟩:=h;simp only[aP] at hx hy;obtain ⟨c1,c2,rfl,p1,p2⟩:=hx;obtain ⟨d1,d2,rfl,q1,q2⟩:=hy;obtain ⟨rfl,rfl,k3⟩:=Cb ts fs gs c2 d2 ha.2 ab p2 q2;cases t with
  |i k =>
   simp only[b7] at U;split at U
   case h_2=>cases U
   rename_i k1 a k2 b;split at U
   case isFalse=>cases U
   rename_i hk;simp only[v6,beq_iff_eq] at U;subst U;obtain ⟨rfl,rfl⟩:=hk;simp only[al] at p1 q1;obtain ⟨rfl,_⟩:=p1;obtain ⟨rfl,_⟩:=q1;refine ⟨rfl,rfl,fun v hv =>?_⟩;rcases zy4.1 hv with hv | hv
   ·simp at hv;exact ⟨_,_,hv⟩
   ·exact k3 v hv
  |b | s | bl _ | rH _ _=>simp[xI] at ha
theorem GK:∀ (cs:List Value) (n:Nat),(∀ v∈cs,∃ k m,v=.int k m)→((cs.zip cs).all fun (x,y)=>Instr.sameBits n x y)=true
 | [],_,_=>rfl
 |v::cs,n,h=>by
  obtain ⟨k,m,rfl⟩:=h v (by simp);simp only[List.zip_cons_cons,List.all_cons,t8];exact ⟨by cases n <;>simp[Instr.sameBits],GK cs n fun v hv=>h v (by simp[hv])⟩
theorem WX{P:Program}{t:TypeId}{ty:cD}{w:World}{D:aU}{E:bf}{x y:I}{u v:Value}(hk:kr P t=some ty)(h:b7 ty x y=some true)(hx:bg w D E x u)(hy:bg w D E y v):x=y∧u=v∧Instr.sameBits 10000 u v=true:=by
 unfold kr at hk;split at hk
 ·rename_i k hu;simp only[v6] at hk;subst hk;simp only[b7] at h;split at h
  case h_2=>cases h
  split at h
  case isFalse=>cases h
  rename_i hk;simp only[v6,beq_iff_eq] at h;subst h;obtain ⟨rfl,rfl⟩:=hk;rw[(eY hx).1,(eY hy).1];exact ⟨rfl,rfl,by simp[Instr.sameBits]⟩
 ·rename_i fs hu;split at hk
  case h_2=>cases hk
  rename_i l hl;split at hk
  case isFalse=>cases hk
  rename_i hc;simp only[v6] at hk;subst hk;simp only[b7] at h;split at h
  case h_2=>cases h
  rename_i xs ys;obtain ⟨cs,rfl,hc1⟩:=jC hx;obtain ⟨ds,rfl,hd1⟩:=jC hy;obtain ⟨rfl,rfl,af⟩:=Cb l xs ys cs ds hc.1 h hc1 hd1;refine ⟨rfl,rfl,?_⟩;simp only[Instr.sameBits,beq_self_eq_true,Bool.true_and];exact GK cs _ af
 ·cases hk
section
variable {P:Program} {w:World} {D:aU} {E:bf}
theorem wN{t:TypeId}{ty:cD}{em:Bool}{x y:I}{v:Value}{r:Bool}(hk:kr P t=some ty)(hx:bg w D E x v)(h:b7 ty x y=some r)(n:Nat):(Instr.checkKey em (n+2) t v).run P w=.ok () w:=by
 unfold kr at hk;split at hk
 ·rename_i k hu;simp only[v6] at hk;subst hk;simp only[b7] at h;split at h
  case h_2=>cases h
  rename_i k1 a k2 b;split at h
  case isFalse=>cases h
  rename_i hq;rw[(eY hx).1,hq.1];exact MapKept.run_checkKey hu (by simp[MapKept.IsKey]) em (n+1)
 ·rename_i fs hu;split at hk
  case h_2=>cases hk
  rename_i l hl;split at hk
  case isFalse=>cases hk
  rename_i hc;simp only[v6] at hk;subst hk;simp only[b7] at h;split at h
  case h_2=>cases h
  rename_i xs ys;obtain ⟨cs,rfl,hc1⟩:=jC hx;obtain ⟨d,ah⟩:∃ d,d=11:=⟨_,rfl⟩
  rw[show (12:Nat)=d+1 from by omega] at hl;simp only[hd,hu] at hl;split at hl
  case isFalse=>cases hl
  rename_i hc2;simp only[t7,cD.bl.injEq] at hl;obtain ⟨l',hl,rfl⟩:=hl;rw[show n+2=(n+1)+1 from rfl,Instr.checkKey];simp only[Sem.run_bind,run_underlying hu,Result.andThen_ok];rw[←Array.forIn_toList];have key:∀ (aE:List Field) (l:List cD) (xs ys:List I) (r:Bool) (c1 c2:List Value),
    (aE.mapM fun f=>match hd P d f.type with
     |some ty=>if ty.size=P.cellsOf f.type then some ty else none
     | none => none) = some l → (∀ f ∈ aE, f.name ≠ "_" ∧ sf (P.underlying f.type) = true) → qS P c1.length aE = true → aP w D E xs c2 → iK l xs ys = some r → c1 ++ c2 = cs →
    Sem.run P (forIn aE PUnit.unit (fun (f : Field) (_ : PUnit) => (if f.name ≠ "_" then (do
     let x ←part f.type cs.toArray f.offset
     Instr.checkKey em (n+1) f.type x
     pure (ForInStep.yield PUnit.unit)) else pure (ForInStep.yield PUnit.unit):Sem (ForInStep PUnit)))) w=.ok PUnit.unit w:=by
   intro aE
   induction aE with
   |nil=>intros;simp
   |cons f aE ih =>
    intro l xs ys r c1 c2 hm hn ho hx h htot;simp only[List.mapM_cons,Option.bind_eq_bind,Option.pure_def,zw8,v6] at hm;obtain ⟨ty,hty,tys,htys,rfl⟩:=hm;split at hty
    case h_2=>cases hty
    rename_i ty' hd';split at hty
    case isFalse=>cases hty
    rename_i hsz;simp only[v6] at hty;subst hty;simp only[iK] at h;split at h
    case h_2=>cases h
    rename_i x xs y ys;unfold jK at h;split at h
    case h_2=>cases h
    rename_i ra rb U ab;simp only[aP] at hx;obtain ⟨e1,e2,rfl,k1,k2⟩:=hx;obtain ⟨s,q1,q2,q3⟩:=wV hd' hsz U;obtain ⟨u,p1,p2⟩:=pK (P:=P) (w:=w) (c1:=c1) (c3:=e2) q1 q2 k1;simp only[qS,t8,beq_iff_eq] at ho;have hsx:=qv ty' x y ra U;have hle:e1.length=P.cellsOf f.type:=by rw[al.length _ _ k1,hsx.1,hsz]
    have ih':=ih tys xs ys rb (c1++e1) e2 htys (fun g hg=>hn g (by simp[hg])) (by simp only[zz6,hle];exact ho.2) k2 ab (by rw[←htot];simp);rw[zz9,htot,←ho.1] at p1;obtain ⟨hnm,hint⟩:=hn f (by simp);have hck:(Instr.checkKey em (n+1) f.type u).run P w=.ok () w:=by
     cases hu:P.underlying f.type with
     |none=>simp[hu,sf] at hint
     |some dd =>
      cases dd <;>simp[hu,sf] at hint
      rename_i q;have hti:ty'=.i q:=by
       rw[show d=10+1 from by omega] at hd';unfold hd at hd';simp only[hu,v6] at hd';exact hd'.symm
      subst hti;simp only[b7] at U;split at U
      case h_2=>cases U
      split at U
      case isFalse=>cases U
      rename_i hq;rw[(eY p2).1,hq.1];exact MapKept.run_checkKey hu (by simp[MapKept.IsKey]) em n
    simp only[List.forIn_cons,Sem.run_bind,hnm,ne_eq,not_false_eq_true,if_true,p1,Result.andThen_ok,hck,Sem.run_pure];exact ih'
  rw[key fs.toList l' xs ys r [] cs hl (fun f hf=>⟨by simpa using zx2.1 hc2.2.1 f hf,Array.all_eq_true_iff_forall_mem.1 hc.2 f (Array.mem_toList_iff.1 hf)⟩) hc2.2.2 hc1 h rfl];simp
 ·cases hk
theorem yX{x:I}{xs:List I}{vs:List Value}(h:aG w D E (x::xs) vs):∃ v rest,vs=v::rest∧bg w D E x v∧aG w D E xs rest:=by
 simp only[aG] at h;obtain ⟨v,rest,cs,rfl,U,ab,af⟩:=h;exact ⟨v,rest,rfl,jY U ab,af⟩
def p6(r:Option Nat)(es:List MapEntry)(i:Nat)(q:Option (Nat×Value)):Prop :=
 (r=none∧q=none)∨∃ j e,r=some (i+j)∧es[j]?=some e∧q=some (i+j,e.val)
theorem p6.step{r:Option Nat}{es:List MapEntry}{e:MapEntry}{i:Nat}{q:Option (Nat×Value)}(h:p6 r es (i+1) q):p6 r (e::es) i q:=by
 rcases h with h | ⟨j,e',U,ab,af⟩
 ·exact .inl h
 ·exact .inr ⟨j+1,e',by rw[U];congr 1;omega,by simpa using ab,by rw[af];congr 2;omega⟩
theorem Cw{q:IntKind}{k:I}{v:Value}(hv:bg w D E k v):∀ (ks:List I) (es:List MapEntry) (i:Nat) (r:Option Nat),aG w D E ks (es.map (·.key))→eG (.i q) k ks i=some r →
  ∃ x,Instr.findNow (.int q) v es i=some x∧p6 r es i x
 | [],es,i,r,hk,h=>by
  simp only[eG,v6] at h;simp only[aG,List.map_eq_nil_iff] at hk;subst h hk;exact ⟨none,rfl,.inl ⟨rfl,rfl⟩⟩
 |x::ks,es,i,r,hk,h=>by
  obtain ⟨u,rest,e1,hu,hr⟩:=yX hk;cases es with
  |nil=>cases e1
  |cons e es =>
   simp only[zz4,zv0] at e1;obtain ⟨rfl,rfl⟩:=e1;simp only[eG] at h;have same:∀ b,b7 (.i q) k x=some b→Instr.sameNow (.int q) v e.key=some b:=fun b hb=>by
    simp only[b7] at hb;split at hb
    case h_2=>cases hb
    split at hb
    case isFalse=>cases hb
    rename_i hq;simp only[v6] at hb;subst hb;rw[(eY hv).1,(eY hu).1];simp[Instr.sameNow,hq.1,hq.2]
   split at h
   ·rename_i hb;simp only[v6] at h;subst h;exact ⟨some (i,e.val),by simp[Instr.findNow,same _ hb],.inr ⟨0,e,rfl,rfl,rfl⟩⟩
   ·rename_i hb;obtain ⟨y,U,ab⟩:=Cw hv ks es (i+1) r hr h;exact ⟨y,by simp[Instr.findNow,same _ hb,U],ab.step⟩
   ·cases h
theorem Cu{t:TypeId}{ty:cD}(hty:hd P 12 t=some ty){k:I}{v:Value}(hv:bg w D E k v):∀ (ks:List I) (es:List MapEntry) (i:Nat) (r:Option Nat),aG w D E ks (es.map (·.key))→eG ty k ks i=some r →
  ∃ x,(Instr.findAsking t v es i).run P w=.ok x w∧p6 r es i x
 | [],es,i,r,hk,h=>by
  simp only[eG,v6] at h;simp only[aG,List.map_eq_nil_iff] at hk;subst h hk;exact ⟨none,rfl,.inl ⟨rfl,rfl⟩⟩
 |x::ks,es,i,r,hk,h=>by
  obtain ⟨u,rest,e1,hu,hr⟩:=yX hk;cases es with
  |nil=>cases e1
  |cons e es =>
   simp only[zz4,zv0] at e1;obtain ⟨rfl,rfl⟩:=e1;simp only[eG] at h;have same:∀ b,b7 ty k x=some b→(Op.equal t v e.key).run P w=.ok b w:=fun b hb=>uf 12 t ty hty k x v e.key b hv hu hb _ (by simp[Op.maxDepth]);split at h
   ·rename_i hb;simp only[v6] at h;subst h;exact ⟨some (i,e.val),by simp[Instr.findAsking,same _ hb],.inr ⟨0,e,rfl,rfl,rfl⟩⟩
   ·rename_i hb;obtain ⟨y,U,ab⟩:=Cu hty hv ks es (i+1) r hr h;exact ⟨y,by simp[Instr.findAsking,same _ hb,U],ab.step⟩
   ·cases h
theorem qA{t:TypeId}{ty:cD}(hk:kr P t=some ty){k:I}{v:Value}(hv:bg w D E k v){ks:List I}{es:List MapEntry}{r:Option Nat}(hks:aG w D E ks (es.map (·.key)))(h:eG ty k ks 0=some r) :
  ∃ x,(Instr.findKey t v es).run P w=.ok x w∧p6 r es 0 x:=by
 have hk0:=hk;unfold kr at hk;split at hk
 ·rename_i q hu;simp only[v6] at hk;subst hk;obtain ⟨x,U,ab⟩:=Cw hv ks es 0 r hks h;exact ⟨x,by simp[Instr.findKey,run_underlying hu,U],ab⟩
 ·rename_i fs hu;split at hk
  case h_2=>cases hk
  rename_i l hl;split at hk
  case isFalse=>cases hk
  simp only[v6] at hk;subst hk;cases es with
  |nil =>
   cases ks with
   |nil =>
    simp only[eG,v6] at h;subst h;exact ⟨none,by simp[Instr.findKey,run_underlying hu,Instr.findNow],.inl ⟨rfl,rfl⟩⟩
   |cons x xs=>simp[aG] at hks
  |cons e es =>
   obtain ⟨x,U,ab⟩:=Cu hl hv ks (e::es) 0 r hks h;exact ⟨x,by simp[Instr.findKey,run_underlying hu,Instr.findNow,Instr.sameNow,U],ab⟩
 ·cases hk
theorem nw:∀ {xs:List I} {vs:List Value} {j:Nat} {v:Value},aG w D E xs vs→vs[j]?=some v→∃ x,xs[j]?=some x∧bg w D E x v
 | [],vs,j,v,h,hj=>by simp only[aG] at h;subst h;simp at hj
 |x::xs,vs,j,v,h,hj=>by
  obtain ⟨u,rest,rfl,U,ab⟩:=yX h;cases j with
  |zero=>simp only[List.getElem?_cons_zero,v6] at hj;subst hj;exact ⟨x,rfl,U⟩
  |succ j=>exact nw (xs:=xs) ab (by simpa using hj)
end
section
variable {c:cX} {A:ai} {o:Oper} {x:I}
theorem Xl{a:Act}{w:World}{D:aU}{E:bf}(hs:aY c A a w D E){m:I}{v:Value}{ks vs:List I}(hv:bg w D E m v)(hm:gx A m=some (ks,vs)) :
  (v=.map none∧ks=[]∧vs=[])∨∃ b es clock,v=.map (some b)∧w.heap[b]?=some (.map es clock)∧aG w D E ks (es.toList.map (·.key))∧aG w D E vs (es.toList.map (·.val)):=by
 unfold gx at hm;split at hm
 ·simp only[v6,Prod.mk.injEq] at hm;obtain ⟨rfl,rfl⟩:=hm;obtain ⟨cs,q1,q2⟩:=hv;simp only[al] at q2;obtain ⟨b,es,ck,q3,q4,q5,q6⟩:=q2;exact .inr ⟨b,es,ck,by simpa[bG,I.isAgg,q3] using q1.symm,q4.1,q5,q6⟩
 ·rename_i n;split at hm
  case h_2=>cases hm
  rename_i ks' vs' hn;simp only[v6,Prod.mk.injEq] at hm;obtain ⟨rfl,rfl⟩:=hm;obtain ⟨cs,q1,q2⟩:=hv;simp only[al] at q2;obtain ⟨b,q3,q4⟩:=q2;obtain ⟨b',es,ck,k1,k2,k3,k4,k5,k6,k7⟩:=hs.map hn;rw[k1] at q3;cases q3;exact .inr ⟨_,es,ck,by simpa[bG,I.isAgg,q4] using q1.symm,k3,k5,k6⟩
 ·simp only[v6,Prod.mk.injEq] at hm;obtain ⟨rfl,rfl⟩:=hm;obtain ⟨cs,q1,q2⟩:=hv;simp only[al] at q2;exact .inl ⟨by simpa[bG,I.isAgg,q2.1] using q1.symm,rfl,rfl⟩
 ·cases hm
theorem pX{w:World}{D:aU}{E:bf}{y:I}{v:Value}(hv:y.bT=true)(h:bg w D E y v):∃ cs,bG y v cs∧al w D E y cs:=by
 cases y <;>simp[I.bT] at hv <;>exact h
theorem rf{w:World}{D:aU}{E:bf} : ∀ {xs:List I} {vs:List Value} {j:Nat} {x:I},aG w D E xs vs→xs[j]?=some x→x.bT=true
 | [],_,j,x,_,h=>by simp at h
 |y::ys,vs,j,x,hr,h=>by
  simp only[aG] at hr;obtain ⟨v,rest,cs,rfl,U,ab,af⟩:=hr;cases j with
  |zero =>
   simp only[List.getElem?_cons_zero,v6] at h;subst h;cases y <;>simp only[al] at ab <;>rfl
  |succ j=>exact rf (xs:=ys) af (by simpa using h)
theorem aaI{x:I}{cs r:List Value}(h:nE x cs=some r):x.bT=true:=by
 cases x <;>first | rfl | (cases cs <;>simp[nE] at h)
theorem aaJ{P:Program}{t:TypeId}{z:I}(hz:gC P t=some z)(hp:vO P t z=true):∃ zv,(∀ w,(zeroValue t).run P w=.ok zv w)∧z.bT=true∧∀ w D E,bg w D E z zv:=by
 have hz0:=hz;obtain ⟨i,zv,hi,hzz,hzr⟩:=mq hz;have hv:z.bT=true:=by
  unfold gC at hz;split at hz
  ·split at hz
   ·rename_i hk;simp only[v6] at hz;subst hz;exact aaI hk
   ·cases hz
  ·cases hz
 refine ⟨zv,fun w=>by simp[zeroValue,typeInfo,hi,hzz],hv,fun w D E =>?_⟩;have U:=hzr w D E;simp only[vO,hi,Option.bind_some,hzz] at hp;refine jY (cs:=zv.cells.toList) ?_ U;cases zv <;>simp only[bG] at hp ⊢ <;>first
  |(rw[if_pos hp];simp[Value.cells])
  |(have hp':z.isAgg=false:=by simpa using hp
    rw[hp'];simp[Value.cells])
theorem Wo{t kt et:TypeId}{m k:Operand}{m' k':aR}{ok:Bool}{ty:cD}{z v:I}{ks vs:List I}{there:Bool}(ho:o.op=.lookup t m k ok)(hu:c.P.underlying t=some (.map kt et))(hk:kr c.P kt=some ty)(hz:gC c.P et=some z)(hzp:vO c.P et z=true)
  (hm:bB c.P 0 m=some m') (hk':bB c.P 0 k=some k') (hmm:gx A (ak A m')=some (ks,vs)) (hl:fu ty z (ak A k') ks vs=some (v,there)):dH c A o (if ok then .tuple [v,.bool there] else v) :=
 .same fun a w D E hs=>by
  have U:=bZ hs hm;have ab:=bZ hs hk';obtain ⟨zv,hzrun,hzv,hzrv⟩:=aaJ hz hzp;unfold fu at hl;split at hl
  case isFalse=>cases hl
  rename_i hkk;obtain ⟨rk,hrk⟩:=zx1.1 hkk;have hchk:=fun em=>wN (P:=c.P) (w:=w) (em:=em) hk ab hrk 9998;have bn:∀ u there,v.bT=true→bg w D E v u→bg w D E (if ok then .tuple [v,.bool there] else v) (if ok then Value.tuple #[u,.bool there] else u):=fun u there hval hu'=>by
   cases ok
   ·exact hu'
   ·obtain ⟨cs,q1,q2⟩:=pX hval hu';simp only[if_true,bg,aG];exact ⟨[u,.bool there],rfl,u,[.bool there],cs,rfl,q1,q2,.bool there,[],[.bool there],rfl,by simp[bG,I.isAgg],by simp[al],rfl⟩
  have main:∀ (es:Array MapEntry),aG w D E ks (es.toList.map (·.key))→aG w D E vs (es.toList.map (·.val))→∃ u,v.bT=true∧bg w D E v u ∧
    ((∃ i,(Instr.findKey kt (a.eval k) es.toList).run c.P w=.ok (some (i,u)) w∧there=true)∨((Instr.findKey kt (a.eval k) es.toList).run c.P w=.ok none w∧u=zv∧there=false)):=fun es hks hvs=>by
   split at hl
   ·rename_i i hfi;simp only[t7,Prod.mk.injEq] at hl;obtain ⟨v',hv',rfl,rfl⟩:=hl;obtain ⟨q,q1,q2⟩:=qA hk ab hks hfi;rcases q2 with ⟨e,_⟩ | ⟨j,e,e1,e2,rfl⟩
    ·cases e
    ·simp only[zz1,v6] at e1;subst e1;obtain ⟨x,k1,k2⟩:=nw (j:=i) (v:=e.val) hvs (by simp only[zx4,e2,zy2]);rw[hv',v6] at k1;subst k1;exact ⟨e.val,rf hvs hv',k2,.inl ⟨_,q1,rfl⟩⟩
   ·rename_i hfi;simp only[v6,Prod.mk.injEq] at hl;obtain ⟨rfl,rfl⟩:=hl;obtain ⟨q,q1,q2⟩:=qA hk ab hks hfi;rcases q2 with ⟨_,rfl⟩ | ⟨j,e,e1,_⟩
    ·exact ⟨zv,hzv,hzrv w D E,.inr ⟨q1,rfl,rfl⟩⟩
    ·cases e1
   ·cases hl
  rcases Xl hs U hmm with ⟨e1,rfl,rfl⟩ | ⟨b,es,ck,e1,e2,e3,e4⟩
  ·obtain ⟨u,hval,hu',hrun⟩:=main #[] (by simp[aG]) (by simp[aG]);refine ⟨_,?_,bn u there hval hu'⟩;rcases hrun with ⟨i,q1,rfl⟩ | ⟨q1,rfl,rfl⟩ <;>
    simp only[execOp,ho,Instr.lookup,e1,Sem.run_bind,run_underlying hu,Result.andThen_ok,Sem.run_pure,hchk,q1,hzrun]
  ·obtain ⟨u,hval,hu',hrun⟩:=main es e3 e4;refine ⟨_,?_,bn u there hval hu'⟩;rcases hrun with ⟨i,q1,rfl⟩ | ⟨q1,rfl,rfl⟩ <;>
    simp only[execOp,ho,Instr.lookup,e1,Sem.run_bind,run_underlying hu,Result.andThen_ok,MapKept.run_getObj_map e2,Sem.run_pure,hchk,q1,hzrun]
theorem Dc{y:Operand}{y':aR}(ho:o.op=.nilCheck y)(hy:bB c.P 0 y=some y')(h:(∃ n p,ak A y'=.ptr n p)∨∃ z,ak A y'=.ref z):dH c A o (ak A y') :=
 .same fun a w D E hs=>by
  have U:=bZ hs hy;rcases h with ⟨n,p,h⟩ | ⟨z,h⟩
  ·rw[h] at U ⊢;obtain ⟨b,bd,off,_,_,e⟩:=l5 U;exact ⟨a.eval y,by simp only[execOp,ho,e,Sem.run_pure],U⟩
  ·rw[h] at U ⊢;obtain ⟨b,off,cs,e,_⟩:=re U;exact ⟨a.eval y,by simp only[execOp,ho,e,Sem.run_pure],U⟩
theorem Du{w:World}{D:aU}{E:bf}{x:I}{v:Value}{b:Bool}(h:jd x=some b)(hv:bg w D E x v):∃ ad,v=.pointer ad∧ad.isNone=b:=by
 cases x <;>simp only[jd,v6] at h <;>try (cases h;done)
 case nilp =>
  subst h;obtain ⟨cs,q1,q2⟩:=hv;simp only[al] at q2;exact ⟨none,by simpa[bG,I.isAgg,q2] using q1.symm,rfl⟩
 case ptr n p =>
  subst h;obtain ⟨b,bd,off,_,_,e⟩:=l5 hv;exact ⟨_,e,rfl⟩
 case ref z =>
  subst h;obtain ⟨b,off,cs,e,_⟩:=re hv;exact ⟨_,e,rfl⟩
theorem Wr{x y:Operand}{x' y':aR}{tys:Array TypeId}{v:I}(ho:o.op=.call { callee:=.builtin .max,args := #[x,y],argTypes:=tys })(hx:bB c.P 0 x=some x')(hy:bB c.P 0 y=some y')(h:sC (ak A x') (ak A y')=some v):dH c A o v :=
 .same fun a w D E hs=>by
  have U:=bZ hs hx;have ab:=bZ hs hy;unfold sC at h;split at h
  case h_2=>cases h
  rename_i k n k2 m e1 e2;split at h
  case isFalse=>cases h
  rename_i hk;subst hk;simp only[v6] at h;subst h;rw[e1] at U;rw[e2] at ab;obtain ⟨v1,lX⟩:=eY U;obtain ⟨v2,j5⟩:=eY ab;refine ⟨.int k (if m>n then m else n),by simp[execOp,ho,resolve,invoke,builtin,Builtin.max_,Builtin.max2,v1,v2],kz ?_⟩;split
  ·exact j5
  ·exact lX
theorem Wv{neg:Bool}{t yt e:TypeId}{y z:Operand}{y' z':aR}{b1 b2:Bool}(ho:o.op=.binOp (if neg then .neq else .eql) t y z yt)(hu:c.P.underlying t=some (.pointer e))(hy:bB c.P 0 y=some y')(hz:bB c.P 0 z=some z')
  (U:jd (ak A y')=some b1) (ab:jd (ak A z')=some b2) (h:b1=true∨b2=true):dH c A o (.bool (if neg then !(b1&&b2) else (b1&&b2))) :=
 .same fun a w D E hs=>by
  obtain ⟨p,e1,k1⟩:=Du U (bZ hs hy);obtain ⟨q,e2,k2⟩:=Du ab (bZ hs hz);have he:∀ d,(Op.equalIn (d+1) t (.pointer p) (.pointer q)).run c.P w=.ok (b1&&b2) w:=fun d=>by
   subst k1 k2;cases p <;>cases q <;>simp at h <;>simp[Op.equalIn,run_underlying hu]
  refine ⟨.bool (if neg then !(b1&&b2) else (b1&&b2)),?_,ph _⟩;cases neg <;>simp only[execOp,ho,e1,e2,if_true,zz3,if_false,Sem.run_bind,eqGuard] <;>simp[binOp,Op.equal,Op.maxDepth,he]
end
section
variable {c:cX} {A:ai} {o:Oper} {x:I}
theorem Nw{t:TypeId}{d:Nat}(ho:o.op=.makeMap t none)(ah:o.dst=some d)(hn:d<c.n)(hf:A.o d=none):iH c A o ((A.aV d (.bA [] [])).put d (.mref d)):=by
 intro a w D E hs;have U:=hs.XF (.inl hn) hf;have ab:=U.put (x:=.mref d) (v:=.map (some w.heap.size)) hn ⟨_,by simp[bG,I.isAgg];rfl,by
  simp only[al,if_true];exact ⟨w.heap.size,rfl,rfl⟩⟩
 exact ⟨w.alloc (.map #[] 0),.inl ⟨.map (some w.heap.size),by simp[execOp,ho,Instr.makeMap],D,_,by rw[ah];exact ab⟩⟩
theorem yW{w:World}{D:aU}{E:bf} : ∀ {xs ys:List I} {us vs:List Value},aG w D E xs us→aG w D E ys vs→aG w D E (xs++ys) (us++vs)
 | [],ys,us,vs,h,k=>by simp only[aG] at h;subst h;simpa using k
 |x::xs,ys,us,vs,h,k=>by
  simp only[aG,zz2] at *;obtain ⟨v,rest,cs,rfl,U,ab,af⟩:=h;exact ⟨v,rest++vs,cs,rfl,U,ab,yW af k⟩
theorem GI{w:World}{D:aU}{E:bf} : ∀ {xs:List I} {us:List Value} {i:Nat} {y:I} {v:Value} {cs:List Value},aG w D E xs us→bG y v cs→al w D E y cs→aG w D E (xs.set i y) (us.set i v)
 | [],us,i,y,v,cs,h,_,_=>by simp only[aG] at h;subst h;simp[aG]
 |x::xs,us,i,y,v,cs,h,k1,k2=>by
  simp only[aG] at h;obtain ⟨u,rest,ds,rfl,U,ab,af⟩:=h;cases i with
  |zero=>simp only[List.set_cons_zero,aG];exact ⟨v,rest,cs,rfl,k1,k2,af⟩
  |succ i=>simp only[List.set_cons_succ,aG];exact ⟨u,_,ds,rfl,U,ab,GI af k1 k2⟩
theorem GH{w:World}{D:aU}{E:bf}{y:I}{v:Value}{cs:List Value}(U:bG y v cs)(ab:al w D E y cs):aG w D E [y] [v]:=by
 simp only[aG];exact ⟨v,[],cs,rfl,U,ab,rfl⟩
theorem Cv{ty:cD}{k:I} : ∀ {ks:List I} {i j:Nat},eG ty k ks i=some (some j)→∃ x,ks[j-i]?=some x∧i≤j∧b7 ty k x=some true
 | [],i,j,h=>by simp[eG] at h
 |x::xs,i,j,h=>by
  simp only[eG] at h;split at h
  ·rename_i hb;simp only[v6] at h;subst h;exact ⟨x,by simp,zz5 _,hb⟩
  ·obtain ⟨y,U,ab,af⟩:=Cv h;refine ⟨y,?_,by omega,af⟩;rw[show j-i=(j-(i+1))+1 from by omega];simpa using U
  ·cases h
theorem B1{t kt et:TypeId}{m k v:Operand}{m' k' v':aR}{ty:cD}{n:Nat}{ks vs ks' vs':List I}(ho:o.op=.mapUpdate t m k v∨o.op=.insert t m k v)(hu:c.P.underlying t=some (.map kt et))(hk:kr c.P kt=some ty)
  (hm:bB c.P 0 m=some m') (hk':bB c.P 0 k=some k') (hv':bB c.P et v=some v') (hmm:ak A m'=.mref n) (hn:A.o n=some (.bA ks vs)) (hl:fE ty (ak A k') (ak A v') ks vs=some (ks',vs')) (ah:o.dst=none) :
  iH c A o (A.aV n (.bA ks' vs')):=by
 intro a w D E hs;have U:=bZ hs hm;have ab:=bZ hs hk';have af:=bZ hs hv';rw[hmm] at U;unfold fE at hl;split at hl
 case isFalse=>cases hl
 rename_i hc;obtain ⟨hkk,hkv,hvv⟩:=hc;obtain ⟨rk,hrk⟩:=zx1.1 hkk;have hchk:=fun em=>wN (P:=c.P) (w:=w) (em:=em) hk ab hrk 9998;obtain ⟨kcs,kp1,kp2⟩:=pX hkv ab;obtain ⟨vcs,vp1,vp2⟩:=pX hvv af;obtain ⟨b,es,ck,k1,k2,k3,k4,k5,k6,k7⟩:=hs.map hn;have hmv:a.eval m=.map (some b):=by
  obtain ⟨cs,q1,q2⟩:=U;simp only[al] at q2;obtain ⟨b',q3,q4⟩:=q2;rw[k1] at q3;cases q3;simpa[bG,I.isAgg,q4] using q1.symm
 -- the new entries
 have step:∀ (es':Array MapEntry) (ck':Nat),(Instr.mapUpdate t (.map (some b)) (a.eval k) (a.eval v)).run c.P w=.ok () (w.putObj b (.map es' ck'))→pR es' ck'→aG w D E ks' (es'.toList.map (·.key))→aG w D E vs' (es'.toList.map (·.val)) →
   ∃ w',((∃ u,(execOp a.eval o).run c.P w=.ok (.value u) w'∧b5 c (A.aV n (.bA ks' vs')) (a.put o.dst u) w')∨((execOp a.eval o).run c.P w=.ok .skip w'∧b5 c (A.aV n (.bA ks' vs')) (a.put o.dst undef) w')):=fun es' ck' hrun hst hks hvs=>by
  refine ⟨w.putObj b (.map es' ck'),.inr ⟨?_,?_⟩⟩
  ·rcases ho with ho | ho <;>simp only[execOp,ho,hmv,Sem.run_bind,hrun,Result.andThen_ok,Sem.run_pure]
  ·rw[ah];have:=hs.za (o':=.map es' ck') (x:=.bA ks' vs') k1 rfl rfl k3 rfl (fun q=>by simp) k2 (fun hl' hh hno=>⟨b,es',ck',k1,k2,hh,hst,aG.later hl' _ _ hks,aG.later hl' _ _ hvs,hno⟩);exact ⟨D,E,this⟩
 split at hl
 ·rename_i i hfi;simp only[v6,Prod.mk.injEq] at hl;obtain ⟨rfl,rfl⟩:=hl;obtain ⟨q,q1,q2⟩:=qA hk ab k5 hfi;rcases q2 with ⟨e,_⟩ | ⟨j,e,e1,e2,rfl⟩
  ·cases e
  simp only[zz1,v6] at e1;subst e1;obtain ⟨y,y1,_,y2⟩:=Cv hfi;simp only[Nat.sub_zero] at y1;obtain ⟨y',y3,y4⟩:=nw (j:=i) (v:=e.key) k5 (by simp only[zx4,e2,zy2]);rw[y1,v6] at y3;subst y3;obtain ⟨_,kk2,kk3⟩:=WX hk y2 ab y4;have hes:es[i]?=some e:=by rw[←zw3];exact e2
  have hlen:i<es.size:=(zy7.1 hes).1;refine step (es.modify i fun e => { e with key:=a.eval k,val:=a.eval v }) ck ?_ ?_ ?_ ?_
  ·have hsb:Instr.sameBits 10000 (((es[i]?).map (·.key)).getD (a.eval k)) (a.eval k)=true:=by
    rw[hes];simp only[zy2,Option.getD_some];rw[←kk2];rw[←kk2] at kk3;exact kk3
   simp only[Instr.mapUpdate,Sem.run_bind,run_underlying hu,Result.andThen_ok,MapKept.run_getObj_map k3,hchk,q1,zz1,Instr.keyThatStays,hsb,if_true,Sem.run_pure,MapKept.run_setObj_map _ k3];rfl
  all_goals
   have em:(es.modify i fun e => { e with key:=a.eval k,val:=a.eval v }).toList=es.toList.set i { e with key:=a.eval k,val:=a.eval v } :=by
    rw[Array.toList_modify];apply List.ext_getElem?;intro j;rw[List.getElem?_modify,List.getElem?_set];by_cases hij:i=j
    ·subst hij;have hge:es[i]'hlen=e:=(zy7.1 hes).2;simp[hlen,hge]
    ·simp[hij]
  ·refine ⟨fun x hx =>?_,?_⟩
   ·rw[em] at hx;rcases List.mem_or_eq_of_mem_set hx with hx | rfl
    ·exact k4.1 x hx
    ·exact k4.1 e (List.mem_of_getElem? e2)
   ·rw[em];have:(es.toList.set i { e with key:=a.eval k,val:=a.eval v }).map (·.born)=es.toList.map (·.born):=by
     rw[List.map_set];apply List.ext_getElem?;intro j;rw[List.getElem?_set];split
     ·rename_i hij;subst hij;simp[e2];exact hlen
     ·rfl
    rw[this];exact k4.2
  ·rw[em,List.map_set];have:(es.toList.map (·.key)).set i (a.eval k)=es.toList.map (·.key):=by
    apply List.ext_getElem?;intro j;rw[List.getElem?_set];split
    ·rename_i hij;subst hij;simp[e2,kk2];exact hlen
    ·rfl
   simp only[this];exact k5
  ·rw[em,List.map_set];exact GI k6 vp1 vp2
 ·rename_i hfi;simp only[v6,Prod.mk.injEq] at hl;obtain ⟨rfl,rfl⟩:=hl;obtain ⟨q,q1,q2⟩:=qA hk ab k5 hfi;rcases q2 with ⟨_,rfl⟩ | ⟨j,e,e1,_⟩
  case inr=>cases e1
  refine step (es.push { key:=a.eval k,val:=a.eval v,born:=ck }) (ck+1) ?_ ⟨fun x hx =>?_,?_⟩ ?_ ?_
  ·simp only[Instr.mapUpdate,Sem.run_bind,run_underlying hu,Result.andThen_ok,MapKept.run_getObj_map k3,hchk,q1,MapKept.run_setObj_map _ k3];rfl
  ·simp only[Array.toList_push,zy4,zy1] at hx;rcases hx with hx | rfl
   ·have:=k4.1 x hx;omega
   ·simp
  ·simp only[Array.toList_push,zy8,zz4,zx6];refine zv2.2 ⟨k4.2,by simp,fun x hx y hy =>?_⟩;simp only[zy1] at hy;subst hy;obtain ⟨e,he,rfl⟩:=zy5.1 hx;exact Nat.ne_of_lt (k4.1 e he)
  ·simp only[Array.toList_push,zy8,zz4,zx6];exact yW k5 (GH kp1 kp2)
  ·simp only[Array.toList_push,zy8,zz4,zx6];exact yW k6 (GH vp1 vp2)
 ·cases hl
theorem uQ{α β:Type}(f:α→β):∀ (l:List α) (i:Nat),(l.eraseIdx i).map f=(l.map f).eraseIdx i
 | [],_=>rfl
 |x::xs,0=>rfl
 |x::xs,i+1=>by simp only[List.eraseIdx_cons_succ,zz4,uQ f xs i]
theorem yY{w:World}{D:aU}{E:bf} : ∀ {xs:List I} {us:List Value} (i:Nat),aG w D E xs us→aG w D E (xs.eraseIdx i) (us.eraseIdx i)
 | [],us,i,h=>by simp only[aG] at h;subst h;simp[aG]
 |x::xs,us,i,h=>by
  simp only[aG] at h;obtain ⟨v,rest,cs,rfl,U,ab,af⟩:=h;cases i with
  |zero=>exact af
  |succ i=>simp only[List.eraseIdx_cons_succ,aG];exact ⟨v,_,cs,rfl,U,ab,yY i af⟩
theorem Nv{t kt et t':TypeId}{m k:Operand}{m' k':aR}{ty:cD}{n:Nat}{ks vs ks' vs':List I}(ho:o.op=.call { callee:=.builtin .delete,args := #[m,k],argTypes := #[t,t'] })(hu:c.P.underlying t=some (.map kt et))(hk:kr c.P kt=some ty)
  (hm:bB c.P 0 m=some m') (hk':bB c.P 0 k=some k') (hmm:ak A m'=.mref n) (hn:A.o n=some (.bA ks vs)) (hl:mS ty (ak A k') ks vs=some (ks',vs')) (ah:o.dst=none) :
  iH c A o (A.aV n (.bA ks' vs')):=by
 intro a w D E hs;have U:=bZ hs hm;have ab:=bZ hs hk';rw[hmm] at U;unfold mS at hl;split at hl
 case isFalse=>cases hl
 rename_i hkk;obtain ⟨rk,hrk⟩:=zx1.1 hkk;have hchk:=fun em=>wN (P:=c.P) (w:=w) (em:=em) hk ab hrk 9998;obtain ⟨b,es,ck,k1,k2,k3,k4,k5,k6,k7⟩:=hs.map hn;have hmv:a.eval m=.map (some b):=by
  obtain ⟨cs,q1,q2⟩:=U;simp only[al] at q2;obtain ⟨b',q3,q4⟩:=q2;rw[k1] at q3;cases q3;simpa[bG,I.isAgg,q4] using q1.symm
 have step:∀ (es':Array MapEntry),(Builtin.delete_ #[t,t'] o.type #[.map (some b),a.eval k]).run c.P w=.ok (.tuple #[]) (w.putObj b (.map es' ck))→pR es' ck→aG w D E ks' (es'.toList.map (·.key))→aG w D E vs' (es'.toList.map (·.val)) →
   ∃ w',((∃ u,(execOp a.eval o).run c.P w=.ok (.value u) w'∧b5 c (A.aV n (.bA ks' vs')) (a.put o.dst u) w')∨((execOp a.eval o).run c.P w=.ok .skip w'∧b5 c (A.aV n (.bA ks' vs')) (a.put o.dst undef) w')):=fun es' hrun hst hks hvs=>by
  refine ⟨w.putObj b (.map es' ck),.inl ⟨.tuple #[],?_,?_⟩⟩
  ·simp[execOp,ho,resolve,invoke,builtin,hmv,hrun]
  ·rw[ah];have:=hs.za (o':=.map es' ck) (x:=.bA ks' vs') k1 rfl rfl k3 rfl (fun q=>by simp) k2 (fun hl' hh hno=>⟨b,es',ck,k1,k2,hh,hst,aG.later hl' _ _ hks,aG.later hl' _ _ hvs,hno⟩);exact ⟨D,E,this⟩
 split at hl
 ·rename_i i hfi;simp only[v6,Prod.mk.injEq] at hl;obtain ⟨rfl,rfl⟩:=hl;obtain ⟨q,q1,q2⟩:=qA hk ab k5 hfi;rcases q2 with ⟨e,_⟩ | ⟨j,e,e1,e2,rfl⟩
  ·cases e
  simp only[zz1,v6] at e1;subst e1;have hes:es[i]?=some e:=by rw[←zw3];exact e2
  have hlen:i<es.size:=(zy7.1 hes).1;have em:(es.eraseIdxIfInBounds i).toList=es.toList.eraseIdx i:=by
   simp[Array.eraseIdxIfInBounds,hlen]
  refine step (es.eraseIdxIfInBounds i) ?_ ⟨fun x hx =>?_,?_⟩ ?_ ?_
  ·simp[Builtin.delete_,run_underlying hu,MapKept.run_getObj_map k3,hchk,q1,MapKept.run_setObj_map _ k3];rfl
  ·rw[em] at hx;exact k4.1 x (List.mem_of_mem_eraseIdx hx)
  ·rw[em,uQ];exact k4.2.sublist (List.eraseIdx_sublist _ _)
  ·rw[em,uQ];exact yY i k5
  ·rw[em,uQ];exact yY i k6
 ·rename_i hfi;simp only[v6,Prod.mk.injEq] at hl;obtain ⟨rfl,rfl⟩:=hl;obtain ⟨q,q1,q2⟩:=qA hk ab k5 hfi;rcases q2 with ⟨_,rfl⟩ | ⟨j,e,e1,_⟩
  case inr=>cases e1
  refine step es ?_ k4 k5 k6;simp[Builtin.delete_,run_underlying hu,MapKept.run_getObj_map k3,hchk,q1,MapKept.run_setObj_map _ k3];rfl
 ·cases hl
theorem Ny{t kt et:TypeId}{y:Operand}{y':aR}{ks vs:List I}{d:Nat}(ho:o.op=.range t y)(hu:c.P.underlying t=some (.map kt et))(hy:bB c.P 0 y=some y')(h:ak A y'=.dk ks vs)(ah:o.dst=some d)(hn:d<c.n)(hf:A.o d=none) :
  iH c A o ((A.aV d (.it ks vs (List.range ks.length) none)).put d (.dp d)):=by
 intro a w D E hs;have U:=bZ hs hy;rw[h] at U;obtain ⟨cs,q1,q2⟩:=U;simp only[al] at q2;obtain ⟨b,es,ck,q3,q4,q5,q6⟩:=q2;have hv:a.eval y=.map (some b):=by simpa[bG,I.isAgg,q3] using q1.symm
 have ab:=hs.XE (.inl hn) hf q4 q5 q6;have af:=ab.put (x:=.dp d) (v:=.pointer (some ⟨w.heap.size,0,none⟩)) hn ⟨_,by simp[bG,I.isAgg];rfl,by
  simp only[al,if_true];exact ⟨w.heap.size,rfl,rfl⟩⟩
 refine ⟨w.alloc (.mapIter (some b) ck #[] ck),.inl ⟨.pointer (some ⟨w.heap.size,0,none⟩),?_,D,_,by rw[ah];exact af⟩⟩;simp only[execOp,ho,hv,Sem.run_bind,run_range_map w t kt et b es ck hu q4.1,Result.andThen_ok,Sem.run_pure]
theorem DP{es:Array MapEntry}{bN:Array Nat}{i:Nat} : i∈pf es bN↔∃ e,es[i]?=some e∧bN.contains e.born=false:=by
 unfold pf;simp only[zx5,zy9];constructor
 ·rintro ⟨U,ab⟩;rw[Array.getElem?_eq_getElem U] at ab ⊢;exact ⟨_,rfl,by simpa using ab⟩
 ·rintro ⟨e,U,ab⟩;exact ⟨(zy7.1 U).1,by rw[U];simpa using ab⟩
theorem aab{es:Array MapEntry}{ck:Nat}(hst:pR es ck){i j:Nat}{e f:MapEntry}(hi:es[i]?=some e)(hj:es[j]?=some f)(h:e.born=f.born):i=j:=by
 have hn:=hst.2;rw[←zw3] at hi hj;have U:(es.toList.map (·.born))[i]?=some e.born:=by rw[zx4,hi];rfl
 have ab:(es.toList.map (·.born))[j]?=some e.born:=by rw[zx4,hj,h];rfl
 have hil:i<(es.toList.map (·.born)).length:=(zz8.1 U).1;have hjl:j<(es.toList.map (·.born)).length:=(zz8.1 ab).1;exact (List.getElem?_inj hil hn).1 (U.trans ab.symm)
theorem Xc{es:Array MapEntry}{bN:Array Nat}{ck i:Nat}{e:MapEntry}(hst:pR es ck)(hi:es[i]?=some e):pf es (bN.push e.born)=(pf es bN).filter (· != i):=by
 unfold pf;rw[List.filter_filter];refine List.filter_congr fun j hj =>?_;have hjl:j<es.size:=by simpa using hj
 rw[Array.getElem?_eq_getElem hjl];simp only[Array.contains_push];by_cases hij:j=i
 ·subst hij;rw[Array.getElem?_eq_getElem hjl,v6] at hi;simp[hi]
 ·have:(es[j].born==e.born)=false:=by
   simp only[beq_eq_false_iff_ne,ne_eq];exact fun h=>hij (aab hst (Array.getElem?_eq_getElem hjl) hi h)
  have ab:(j != i)=true:=by simpa using hij
  simp[this,ab]
theorem XG{y:Operand}{y':aR}{ks vs:List I}{left:List Nat}{cur:Option Nat}{n:Nat}(ho:o.op=.next y false)(hy:bB c.P 0 y=some y')(h:ak A y'=.dp n)(hn:A.o n=some (.it ks vs left cur))(hdn:∀ k,o.dst=some k→k<c.n){a:Act}{w:World}{D:aU}{E:bf}(hs:aY c A a w D E) :
  ∃ w' v,(execOp a.eval o).run c.P w=.ok (.value v) w'∧((left=[]∧b5 c (A.aX o.dst (.tuple [.bool false])) (a.put o.dst v) w') ∨
   ∃ i k x,i∈left∧ks[i]?=some k∧vs[i]?=some x∧b5 c ((A.aV n (.it ks vs (left.filter (· != i)) (some i))).aX o.dst (.tuple [.bool true,k,x])) (a.put o.dst v) w'):=by
 have U:=bZ hs hy;rw[h] at U;obtain ⟨cs,q1,q2⟩:=U;simp only[al] at q2;obtain ⟨r,q3,q4⟩:=q2;have hv:a.eval y=.pointer (some ⟨r,0,none⟩):=by simpa[bG,I.isAgg,q4] using q1.symm
 have hob:=hs.bP n;rw[hn] at hob;obtain ⟨r',b,es,ck,since,bN,last,k1,k2,k3,k4,k5,k6,k7,k8,k9,k9',k10⟩:=hob;rw[k1] at q3;cases q3;rcases run_next_at (P:=c.P) w o.type r b since last bN es ck k3 k4.1 k7 k8.1 with ⟨aZ,hrun⟩ | ⟨e,he,w1,hal,hrun⟩
 ·refine ⟨w,.tuple #[.bool false],by simp only[execOp,ho,hv,Sem.run_bind,hrun,Result.andThen_ok,Sem.run_pure],.inl ⟨?_,D,E,hs.aX hdn ?_⟩⟩
  ·rw[k9];refine List.eq_nil_iff_forall_not_mem.2 fun i hi =>?_;obtain ⟨e,U,ab⟩:=DP.1 hi;have hm:e∈leftOf es bN:=by
    unfold leftOf;simp only[Array.mem_filter];exact ⟨Array.mem_of_getElem? U,by simpa using ab⟩
   rw[Array.eq_empty_of_size_eq_zero aZ] at hm;simp at hm
  ·simp only[bg,aG];exact ⟨[.bool false],rfl,.bool false,[],[.bool false],rfl,by simp[bG,I.isAgg],by simp[al],rfl⟩
 ·have hmem:e∈es.toList∧bN.contains e.born=false:=by
   unfold leftOf at he;simp only[Array.toList_filter,zx5] at he;exact ⟨he.1,by simpa using he.2⟩
  obtain ⟨i,hi⟩:=List.getElem?_of_mem hmem.1;have hie:es[i]?=some e:=by rw[←zw3];exact hi
  obtain ⟨k,hk1,hk2⟩:=nw (j:=i) (v:=e.key) k5 (by simp only[zx4,hi,zy2]);obtain ⟨x,hx1,hx2⟩:=nw (j:=i) (v:=e.val) k6 (by simp only[zx4,hi,zy2]);have hsw:aY c A a w1 D E:=by
   rcases hal with rfl | rfl
   ·exact hs
   ·exact hs.grow (w':=w.drew) (D':=D) ⟨rfl,rfl,rfl,zz5 _,fun _ _=>rfl⟩ (fun _ _ h=>h) (fun _ _ h _=>h) (fun b o ah=>hs.aQ b o ah)
  have hw1:w1.heap=w.heap:=by rcases hal with rfl | rfl <;>rfl
  have k3':w1.heap[r]?=some (.mapIter (some b) since bN last):=by rw[hw1];exact k3
  have hset:=hsw.za (x:=.it ks vs (left.filter (· != i)) (some i)) (o':=.mapIter (some b) since (bN.push e.born) ck) k1 rfl rfl k3' rfl (fun q=>by simp) k2
   (fun hl hh hno=>by
    have hm:pj w1 D b es ck:=⟨by rw[hw1];exact k4.1,k4.2.1,k4.2.2⟩
    have hob:=hsw.bP n;rw[hn] at hob;refine ⟨r,b,es,ck,since,bN.push e.born,ck,k1,k2,hh,hm.later hl,aG.later hl _ _ ?_,aG.later hl _ _ ?_,k7,?_,?_,fun j hj =>?_,hno⟩
    ·obtain ⟨j5,b2,es2,ck2,si2,se2,la2,g1,g2,g3,g4,g5,g6,_⟩:=hob;rw[k1] at g1;cases g1;rw[k3'] at g3;cases g3;have:=g4.1;rw[hw1,k4.1] at this;cases this;exact g5
    ·obtain ⟨j5,b2,es2,ck2,si2,se2,la2,g1,g2,g3,g4,g5,g6,_⟩:=hob;rw[k1] at g1;cases g1;rw[k3'] at g3;cases g3;have:=g4.1;rw[hw1,k4.1] at this;cases this;exact g6
    ·exact ⟨k8.2,k8.2⟩
    ·rw[k9,Xc k4.2.2 hie]
    ·cases hj;exact ⟨e,hie,by simp,rfl⟩)
  have hset':aY c (A.aV n (.it ks vs (left.filter (· != i)) (some i))) a (ChangeMaps.setBlock w1 r (.mapIter (some b) since (bN.push e.born) ck)) D E:=hset;refine ⟨_,.tuple #[.bool true,e.key,e.val],by simp only[execOp,ho,hv,Sem.run_bind,hrun,Result.andThen_ok,Sem.run_pure],.inr ⟨i,k,x,?_,hk1,hx1,D,E,hset'.aX hdn ?_⟩⟩
  ·rw[k9];exact DP.2 ⟨e,hie,hmem.2⟩
  ·have hob2:=hset'.bP n;simp only[ai.aV,if_true] at hob2;obtain ⟨j5,b2,es2,ck2,si2,se2,la2,g1,g2,g3,g4,g5,g6,_⟩:=hob2;rw[k1] at g1;cases g1;have hr2:(ChangeMaps.setBlock w1 r (.mapIter (some b) since (bN.push e.born) ck)).heap[r]?=some (.mapIter (some b) since (bN.push e.born) ck):=World.putObj_heap_same (w:=w1) (fS k3');rw[hr2] at g3;cases g3;have hb2:(ChangeMaps.setBlock w1 r (.mapIter (some b) since (bN.push e.born) ck)).heap[b]?=some (.map es ck):=by
    have:b≠r:=fun e=>by rw[e] at k4;rw[k4.1] at k3;cases k3
    refine (World.putObj_heap_other (w:=w1) this).trans ?_;rw[hw1];exact k4.1
   have:=g4.1;rw[hb2] at this;cases this;obtain ⟨kk,a1,a2⟩:=nw (j:=i) (v:=e.key) g5 (by simp only[zx4,hi,zy2]);rw[hk1] at a1;cases a1;obtain ⟨xx,b1,b2⟩:=nw (j:=i) (v:=e.val) g6 (by simp only[zx4,hi,zy2]);rw[hx1] at b1;cases b1;obtain ⟨c1,c2,c3⟩:=pX (rf k5 hk1) a2;obtain ⟨d1,d2,d3⟩:=pX (rf k6 hx1) b2;simp only[bg,aG];exact ⟨[.bool true,e.key,e.val],rfl,.bool true,_,[.bool true],rfl,by simp[bG,I.isAgg],by simp[al],e.key,_,c1,rfl,c2,c3,e.val,[],d1,rfl,d2,d3,rfl⟩
theorem Wb{y:Operand}{y':aR}{ks vs:List I}{left:List Nat}{i n:Nat}{k x:I}(ho:o.op=.entry y)(hy:bB c.P 0 y=some y')(h:ak A y'=.dp n)(hn:A.o n=some (.it ks vs left (some i)))(hk:ks[i]?=some k)(hx:vs[i]?=some x):dH c A o (.tuple [k,x]) :=
 .same fun a w D E hs=>by
  have U:=bZ hs hy;rw[h] at U;obtain ⟨cs,q1,q2⟩:=U;simp only[al] at q2;obtain ⟨r,q3,q4⟩:=q2;have hv:a.eval y=.pointer (some ⟨r,0,none⟩):=by simpa[bG,I.isAgg,q4] using q1.symm
  have hob:=hs.bP n;rw[hn] at hob;obtain ⟨r',b,es,ck,since,bN,last,k1,k2,k3,k4,k5,k6,k7,k8,k9,k9',k10⟩:=hob;rw[k1] at q3;cases q3;obtain ⟨e,e1,e2,rfl⟩:=k9' i rfl;have hi:es.toList[i]?=some e:=by rw[zw3];exact e1
  obtain ⟨kk,a1,a2⟩:=nw (j:=i) (v:=e.key) k5 (by simp only[zx4,hi,zy2]);rw[hk] at a1;cases a1;obtain ⟨xx,b1,b2⟩:=nw (j:=i) (v:=e.val) k6 (by simp only[zx4,hi,zy2]);rw[hx] at b1;cases b1;obtain ⟨c1,c2,c3⟩:=pX (rf k5 hk) a2;obtain ⟨d1,d2,d3⟩:=pX (rf k6 hx) b2;have hf:es.find? (·.born==e.born)=some e:=by rw[←Array.find?_toList];exact find_born e es.toList k4.2.2.2 (List.mem_of_getElem? hi)
  refine ⟨.tuple #[e.key,e.val],?_,?_⟩
  ·have hr:(Instr.entry (.pointer (some ⟨r,0,none⟩))).run c.P w=.ok (.tuple #[e.key,e.val]) w:=by
    simp only[Instr.entry,getObj,Sem.run_bind,Sem.run,k3,k4.1,Result.andThen,e2,bne_self_eq_false,zz3,if_false,hf];rfl
   simp only[execOp,ho,hv,Sem.run_bind,hr,Result.andThen_ok,Sem.run_pure]
  ·simp only[bg,aG];exact ⟨[e.key,e.val],rfl,e.key,_,c1,rfl,c2,c3,e.val,[],d1,rfl,d2,d3,rfl⟩
theorem F8{w:World}{D:aU}{E:bf}{z:I}{v:Value}(h:al w D E z [v]):∀ n:Nat,aP w D E (List.replicate n z) (List.replicate n v)
 |0=>by simp[aP]
 |n+1=>by simp only[List.replicate_succ,aP];exact ⟨[v],_,rfl,h,F8 h n⟩
theorem Nx{t e:TypeId}{l l':Operand}{n':aR}{z:I}{n d:Nat}{k:IntKind}(ho:o.op=.makeSlice t l l')(hll:l'=l)(hu:c.P.underlying t=some (.slice e))(hl:bB c.P 0 l=some n')(h:ak A n'=.int k n)(hz:gC c.P e=some z)(hz1:z.size=1)
  (hc1:c.P.cellsOf e=1) (hby:n*c.P.bytesOf e≤281474976710656) (hmax:n≤maxLen) (ah:o.dst=some d) (hn:d<c.n) (hf:A.o d=none):iH c A o ((A.aV d (.box (.agg (List.replicate n z)))).put d (.view d [] 1 0 n)):=by
 subst hll;intro a w D E hs;have U:=bZ hs hl;rw[h] at U;obtain ⟨e1,_⟩:=eY U;obtain ⟨i,zv,hi,hzz,hzr⟩:=mq hz;have hzc:=al.length _ _ (hzr w D E);rw[hz1] at hzc;obtain ⟨u,hu1⟩:∃ u,zv.cells = #[u]:=by
  have:zv.cells.size=1:=by simpa using hzc
  obtain ⟨u,hu⟩:=Array.size_eq_one_iff.1 this;exact ⟨u,hu⟩
 have hsz:i.size=1:=by have:=hc1;simp only[Program.cellsOf,hi,zy2,Option.getD_some] at this;exact this
 have hbytes:(i.bytes:Int)*(n:Int)≤281474976710656:=by
  have:c.P.bytesOf e=i.bytes:=by simp[Program.bytesOf,hi]
  rw[this] at hby;have ab:((i.bytes*n:Nat):Int)≤281474976710656:=by rw[Nat.mul_comm] at hby;omega
  rwa [Int.natCast_mul] at ab
 have hrun:=run_make (P:=c.P) w t e i zv hu hi hzz k k n n (by omega) (Int.le_refl _) hbytes (by have h9:=hmax;unfold maxLen at h9;omega);simp only[Int.toNat_natCast,hsz,Nat.mul_one] at hrun;have hmc:(madeCells zv.cells n).toList=List.replicate n u:=by
  rw[hu1];simp only[madeCells];apply List.ext_getElem?;intro j;simp[List.getElem?_replicate];split <;>simp_all[Nat.mod_one]
 have hcells:al w D E (.agg (List.replicate n z)) (madeCells zv.cells n).toList:=by
  rw[hmc];simp only[al];refine F8 ?_ n;have:=hzr w D E;rw[hu1] at this;simpa using this
 have ab:=hs.sD (T:=e) (.inl hn) hf hcells;have af:=ab.put (x:=.view d [] 1 0 n) (v:=.slice (some ⟨w.heap.size,0,none⟩) n n) hn ⟨_,by simp[bG,I.isAgg];rfl,by
  simp only[al,if_true];refine ⟨w.heap.size,_,0,I.cV (List.replicate n z),rfl,by simp[cS.off],by simp[I.bd,cS.part],by simp[I.dw],by simpa[I.dw] using hmax,by simp[I.dw],fun s hs =>?_⟩;rw[I.dw] at hs;obtain ⟨y,hy,rfl⟩:=zy5.1 hs;rw[I.l9,(List.mem_replicate.1 hy).2,hz1]⟩
 refine ⟨_,.inl ⟨_,?_,D,_,by rw[ah];exact af⟩⟩;simp only[execOp,ho,e1,Sem.run_bind,hrun,Result.andThen_ok,Sem.run_pure]
end
end Go.Abs
namespace Go.Abs
open Go Go.RowKit
mutual
/-- Values that lead to no memory. -/
def I.flat:I→Bool
 | .agg fs | .tuple fs=>I.oZ fs
 | .bool _ | .int _ _ | .bR _ | .nilp | .dA | .dW | .any | .raw _ | .undef | .du=>true
 |_=>false
def I.oZ:List I→Bool
 | []=>true
 |x::xs=>x.flat&&I.oZ xs
end
mutual
theorem al.flat{w w':World}{D D':aU}{E E':bf} : ∀ (x:I) (cs:List Value),x.flat=true→al w D E x cs→al w' D' E' x cs
 | .agg fs,cs,hf,hr=>by simp only[al,I.flat] at *;exact aP.flat fs cs hf hr
 | .bool b,cs,_,hr=>by simpa only[al] using hr
 | .int k n,cs,_,hr=>by simpa only[al] using hr
 | .bR s,cs,_,hr=>by simpa only[al] using hr
 | .nilp,cs,_,hr=>by simpa only[al] using hr
 | .dA,cs,_,hr=>by simpa only[al] using hr
 | .dW,cs,_,hr | .any,cs,_,hr=>by simpa only[al] using hr
 | .raw _,cs,_,hr=>by simpa only[al] using hr
 | .undef,_,_,hr=>by simp only[al] at hr
 | .du,_,_,hr=>by simp only[al] at hr
 | .tuple _,_,_,hr=>by simp only[al] at hr
 | .nils _,_,hf,_ | .c0 _,_,hf,_ | .slice _ _,_,hf,_ | .ref _,_,hf,_ | .func _ _,_,hf,_ | .iface _ _,_,hf,_ | .ptr _ _,_,hf,_ | .own _ _,_,hf,_ | .view _ _ _ _ _,_,hf,_ | .mref _,_,hf,_ | .dp _,_,hf,_ | .dk _ _,_,hf,_=>by simp[I.flat] at hf
theorem aP.flat{w w':World}{D D':aU}{E E':bf} : ∀ (xs:List I) (cs:List Value),I.oZ xs=true→aP w D E xs cs→aP w' D' E' xs cs
 | [],cs,_,hr=>by simpa only[aP] using hr
 |x::xs,cs,hf,hr=>by
  simp only[aP,I.oZ,t8] at *;obtain ⟨c1,c2,U,ab,af⟩:=hr;exact ⟨c1,c2,U,al.flat x c1 hf.1 ab,aP.flat xs c2 hf.2 af⟩
end
theorem aG.flat{w w':World}{D D':aU}{E E':bf} : ∀ (xs:List I) (vs:List Value),I.oZ xs=true→aG w D E xs vs→aG w' D' E' xs vs
 | [],vs,_,hr=>by simpa only[aG] using hr
 |x::xs,vs,hf,hr=>by
  simp only[aG,I.oZ,t8] at *;obtain ⟨v,rest,cs,U,ab,af,aq⟩:=hr;exact ⟨v,rest,cs,U,ab,al.flat x cs hf.1 af,aG.flat xs rest hf.2 aq⟩
theorem bg.flat{w w':World}{D D':aU}{E E':bf}{x:I}{v:Value}(hf:x.flat=true)(hr:bg w D E x v):bg w' D' E' x v:=by
 cases x <;>simp only[bg] at * <;>first
  |exact hr
  |(obtain ⟨vs,U,ab⟩:=hr;exact ⟨vs,U,aG.flat _ _ (by simpa[I.flat] using hf) ab⟩)
  |(obtain ⟨cs,U,ab⟩:=hr;exact ⟨cs,U,al.flat _ _ hf ab⟩)
def dn:bf:=fun _=>none
def bm(P:Program)(f:FuncId)(args:List I)(r:I):Prop :=
 fe P f=true∧∀ (w:World) (D:aU) (vs:List Value),h2 P w (fun _=>False)→(∀ b o,D b o→b<w.heap.size)→aG w D dn args vs →
  Calls P f vs.toArray w fun e w'=>∃ v D',e=.returned v∧bg w' D' dn r v∧Below w.heap.size w w'∧(∀ b o,D' b o→b<w'.heap.size)∧∀ b o,D' b o→b<w.heap.size→D b o
def cQ(P:Program)(f:FuncId)(args:List I)(os:List (Nat×ao))(post:cA):Prop :=
 fe P f=true∧oK (Calls P f) (fun w _ E=>h2 P w (cE E)) args os post
def cB(p:Nat→Bool):List (Nat×ao)→Prop
 | []=>True
 |(_,v)::r=>v.only p=true∧cB p r
def ef(ns:List Nat)(os:List (Nat×ao)):List (Nat×ao):=os.filter fun q => !ns.contains q.1
def kS(ns:List Nat)(ts:List (Nat×I)):List (Nat×I):=ts.map fun q=>(q.1,if q.2.only (fun n => !ns.contains n) then q.2 else .du)
def lQ(ns:List Nat)(os:List (Nat×ao)):List (Nat×ao):=os.filter fun q=>ns.contains q.1
def iQ(ρ:List (Nat×Nat))(os:List (Nat×ao)):List Nat:=os.map fun q=>bx ρ q.1
def ib(aJ:Bool)(A0:ai)(ρ:List (Nat×Nat))(os:List (Nat×ao)):List I→List I→Prop
 | [],[]=>True
 |x::xs,c::cs=>((x=c.a8 (bx ρ)∧c.only (av os)=true∧c.bT=true)∨bn aJ A0 x=some c)∧ib aJ A0 ρ os xs cs
 |_,_=>False
structure aw where
 dst:Option Nat
 op:bS
 guard:Option (Nat×Bool)
 deriving Inhabited
inductive cM where
 |done (A:ai)
 |fail
 |call (f:FuncId) (avs:List I) (a1 a2:Option (List I)) (dst:Option Nat) (rest:List aw) (A:ai)
 |lE (v:Value) (avs:List I) (dst:Option Nat) (rest:List aw) (A:ai)
 |kN (f:FuncId) (avs:List I) (dst:Option Nat) (rest:List aw) (A:ai)
 |any (p:Nat→Prop) (k:Nat→cM)
def cT(x:Option I)(k:I→cM):cM:=match x with
 |some v=>k v
 |none=>.fail
def yj(s:Option Nat)(v old:I):Prop:=v.bT=true∧b8 s v=true∧v.bd=old.bd
def yh(e esz bytes l sz:Nat)(ys:List I)(T sz':Nat)(es:List I):Prop:=l=es.length∧sz=esz∧T=e∧sz'=esz∧ys≠[]∧es.length+ys.length≤maxLen∧(es.length+ys.length)*bytes≤140737488355328
def sa(ys:List I):List Int:=ys.filterMap fun y=>match y with | .int .i64 i=>some i | _=>none
def yi(e esz bytes l:Nat)(ys:List I)(T:Nat)(xs:List Int)(z:I):Prop:=l=xs.length∧esz=1∧T=e∧z=.int .i64 0∧ys=(sa ys).map (.int .i64)∧ys≠[]∧xs.length+ys.length≤maxLen∧(xs.length+ys.length)*bytes≤140737488355328
def kg:I→Bool
 | .slice _ es=>es.isEmpty
 | .c0 _=>true
 |_=>false
def lL(f:Nat):Nat:=if f<1000000 then f else f-1000000
def iL(f:Nat)(args caps:List I):List I:=if f<1000000 then args++caps else caps++args
theorem xf{f:Nat}(h:f<1000000):lL f=f:=by simp only[lL,if_pos h]
theorem xe{f:Nat}(h:f<1000000)(args caps:List I):iL f args caps=args++caps:=by simp only[iL,if_pos h]
theorem uh(g:Nat):lL (g+1000000)=g:=by simp only[lL,if_neg (show ¬ g+1000000<1000000 by omega),Nat.add_sub_cancel]
theorem xd(g:Nat)(args caps:List I):iL (g+1000000) args caps=caps++args:=by simp only[iL,if_neg (show ¬ g+1000000<1000000 by omega)]
open Classical in
noncomputable def gn(A:ai)(dst:Option Nat)(esz bytes:Nat)(z:I)(es ys:List I)(k:ai→cM):cM :=
 match dst with
 |some d=>match A.o d with
  |none=>if (es.length+ys.length)*bytes≤140737488355328∧es.length+ys.length≤maxLen then
    .any (fun m=>es.length+ys.length+m≤maxLen) (fun m=>k ((A.aV d (.box (.agg (es++(ys++List.replicate m z))))).aX dst (.view d [] esz 0 (es.length+ys.length)))) else .fail
  |some _=>.fail
 |none=>.fail
open Classical in
noncomputable def fb(A:ai)(dst:Option Nat)(esz bytes:Nat)(z:I)(s:I):Option (List I)→Option (List I)→(ai→cM)→cM
 |some es,some ys,k=>if ys=[] then k (A.aX dst s) else match s with
  | .nils _=>gn A dst esz bytes z es ys k
  | .c0 _=>gn A dst esz bytes z es ys k
  | .view n p sz lo l=>match A.o n with
   |some (.box b)=>match b.at p with
    |some (.agg fs)=>if lo+l+ys.length≤fs.length then
      (if sz=esz∧I.cV ys=I.cV ((fs.drop (lo+l)).take ys.length) then k ((A.aV n (.box (jo b p (lo+l) fs ys))).aX dst (.view n p esz lo (l+ys.length))) else .fail)
      else gn A dst esz bytes z es ys k
    |_=>.fail
   |_=>.fail
  |_=>.fail
 |_,_,_=>.fail
open Classical in
noncomputable def we(A:ai)(dst:Option Nat)(esz bytes:Nat)(z:I)(m:Nat)(s:I):Option (List I)→(ai→cM)→cM
 |some es,k=>match s with
  | .view n p _ lo l=>match A.o n with
   |some (.box b)=>match b.at p with
    |some (.agg fs)=>if 0<m∧fs.length<lo+l+m then gn A dst esz bytes z es (List.replicate m z) k else .fail
    |_=>.fail
   |_=>.fail
  |_=>.fail
 |_,_=>.fail
open Classical in
noncomputable def nS(A:ai)(esz:Nat)(z:I)(k:ai→cM):I→cM
 | .view n p sz lo l=>match A.o n with
  |some (.box b)=>match b.at p with
   |some (.agg fs)=>if sz=esz∧I.cV (List.replicate l z)=I.cV ((fs.drop lo).take l) then k (A.aV n (.box (jo b p lo fs (List.replicate l z)))) else .fail
   |_=>.fail
  |_=>.fail
 | .nils _=>k A
 | .c0 _=>k A
 |_=>.fail
open Classical in
noncomputable def ua(A:ai)(dst:Option Nat)(esz:Nat)(k:ai→cM):I→Option (List I)→cM
 | .view n p sz lo l,some ys=>match A.o n with
  |some (.box b)=>match b.at p with
   |some (.agg fs)=>if sz=esz∧I.cV (ys.take (min ys.length l))=I.cV ((fs.drop lo).take (min ys.length l)) then k ((A.aV n (.box (jo b p lo fs (ys.take (min ys.length l))))).aX dst (.int .i64 (min ys.length l:Nat))) else .fail
   |_=>.fail
  |_=>.fail
 |_,_=>.fail
open Classical in
noncomputable def bo(A:ai)(dst:Option Nat)(op:bS)(rest:List aw)(k:ai→cM):cM :=
 match op with
 | .alloc z=>match dst with
  |some d=>match A.o d with
   |none=>k ((A.aV d (.box z)).put d (.ptr d []))
   |some _=>.fail
  |none=>.fail
 | .box x=>match dst with
  |some d=>match A.o d with
   |none=>if (ak A x).bT then k ((A.aV d (.box (ak A x))).put d (.ptr d [])) else .fail
   |some _=>.fail
  |none=>.fail
 | .bl s x v=>match dst with
  |none=>match ak A x with
   | .ptr n p=>match A.o n with
    |some (.box b)=>match b.at p with
     |some old=>if yj s (ak A v) old then k (A.aV n (.box (b.eA p (ak A v)))) else .fail
     |none=>.fail
    |_=>.fail
   |_=>.fail
  |some _=>.fail
 | .dB e esz bytes z s x=>match ak A s with
  | .own n l=>match ak A x with
   | .slice sz ys=>match A.o n with
    |some (.bU T sz' es)=>if yh e esz bytes l sz ys T sz' es then k ((A.aV n (.bU e esz (es++ys))).aX dst (.own n (es.length+ys.length))) else .fail
    |some (.dD T xs)=>if yi e esz bytes l ys T xs z then k ((A.aV n (.dD e (xs++sa ys))).aX dst (.own n (xs.length+ys.length))) else .fail
    |_=>.fail
   |_=>.fail
  |s'=>fb A dst esz bytes z s' (eC A esz s') (eC A esz (ak A x)) k
 | .mA _ esz bytes z s n=>match ak A n with
  | .int _ m=>we A dst esz bytes z m.toNat (ak A s) (eC A esz (ak A s)) k
  |_=>.fail
 | .nilS neg x=>if kg (ak A x) then .any (fun m=>m<2) (fun m=>k (A.aX dst (.bool (m==0)))) else cT (bq A (.nilS neg x)) fun v=>k (A.aX dst v)
 | .jQ esz z x=>match dst with
  |none=>nS A esz z k (ak A x)
  |some _=>.fail
 | .lI esz x y=>ua A dst esz k (ak A x) (eC A esz (ak A y))
 | .call f args=>.call f (args.map (ak A)) (bX true A (args.map (ak A))) (bX false A (args.map (ak A))) dst rest A
 | .fy x args=>match ak A x with
  | .func f caps=>.call (lL f) (iL f (args.map (ak A)) caps) (bX true A (iL f (args.map (ak A)) caps)) (bX false A (iL f (args.map (ak A)) caps)) dst rest A
  | .raw v=>.lE v (args.map (ak A)) dst rest A
  |_=>.fail
 | .kN f args=>.kN f (args.map (ak A)) dst rest A
 | .jg=>match dst with
  |some d=>match A.o d with
   |none=>k ((A.aV d (.bA [] [])).put d (.mref d))
   |some _=>.fail
  |none=>.fail
 | .kV _ bytes z n=>match dst with
  |some d=>match A.o d with
   |none=>match ak A n with
    | .int _ n=>if 0≤n∧n.toNat*bytes≤281474976710656∧n.toNat≤maxLen then k ((A.aV d (.box (.agg (List.replicate n.toNat z)))).put d (.view d [] 1 0 n.toNat)) else .fail
    |_=>.fail
   |some _=>.fail
  |none=>.fail
 | .eX ty m key v=>match dst with
  |none=>match ak A m with
   | .mref n=>match A.o n with
    |some (.bA ks vs)=>match fE ty (ak A key) (ak A v) ks vs with
     |some (ks',vs')=>k (A.aV n (.bA ks' vs'))
     |none=>.fail
    |_=>.fail
   |_=>.fail
  |some _=>.fail
 | .jf ty m key=>match dst with
  |none=>match ak A m with
   | .mref n=>match A.o n with
    |some (.bA ks vs)=>match mS ty (ak A key) ks vs with
     |some (ks',vs')=>k (A.aV n (.bA ks' vs'))
     |none=>.fail
    |_=>.fail
   |_=>.fail
  |some _=>.fail
 | .j9 x=>match dst with
  |some d=>match A.o d with
   |none=>match ak A x with
    | .dk ks vs=>k ((A.aV d (.it ks vs (List.range ks.length) none)).put d (.dp d))
    |_=>.fail
   |some _=>.fail
  |none=>.fail
 | .iR x=>match ak A x with
  | .dp n=>match A.o n with
   |some (.it ks vs left cur)=>if left=[] then k (A.aX dst (.tuple [.bool false])) else
     .any (fun i=>i∈left) fun i=>match ks[i]?,vs[i]? with
      |some kk,some x=>k ((A.aV n (.it ks vs (left.filter (· != i)) (some i))).aX dst (.tuple [.bool true,kk,x]))
      |_,_=>.fail
   |_=>.fail
  |_=>.fail
 |op=>cT (bq A op) fun v=>k (A.aX dst v)
noncomputable def aA:List aw→ai→cM
 | [],A=>.done A
 |g::rest,A=>match g.guard with
  |none=>bo A g.dst g.op rest (aA rest)
  |some (t,b)=>match A.t t with
   | .bool b'=>if b'=b then bo A g.dst g.op rest (aA rest) else aA rest (A.aX g.dst .undef)
   | .undef=>aA rest (A.aX g.dst .undef)
   |_=>.fail
def Ir(P:Program)(A:ai)(f:FuncId)(avs:List I)(r:I):Prop :=
 ∀ (c:cX) (a:Act) (w:World) (D:aU) (E:bf) (vs:List Value),c.P=P→aY c A a w D E→fJ (bg w D E) avs vs→∃ v,(callFunc f vs.toArray).run P w=.ok (.value v) w∧bg w D E r v
inductive aT (P:Program) (Y:Value→List I→List (Nat×ao)→cA→Prop) (dr:Bool) (K:ai→Prop):cM→Prop where
 |done {A:ai} : K A→aT P Y dr K (.done A)
 |flat {f:FuncId} {avs cargs:List I} {a2:Option (List I)} {dst:Option Nat} {rest:List aw} {A:ai} (r:I):bm P f cargs r→r.flat=true→aT P Y dr K (aA rest (A.aX dst r))→aT P Y dr K (.call f avs (some cargs) a2 dst rest A)
 |lead {f:FuncId} {avs cargs:List I} {a1:Option (List I)} {dst:Option Nat} {rest:List aw} {A:ai} (r:I):bm P f cargs r→aT P Y dr K (aA rest (A.aX dst r))→aT P Y dr K (.call f avs a1 (some cargs) dst rest A)
 |jz {f:FuncId} {avs cargs:List I} {a1 a2:Option (List I)} {dst:Option Nat} {rest:List aw} {ts:List (Nat×I)} {os0:List (Nat×ao)} (ns:List Nat) (r:I):dr=false→bm P f cargs r→bX true (au ts (lQ ns os0)) avs=some cargs →
   cB (fun n => !ns.contains n) (ef ns os0)→aT P Y dr K (aA rest ((au (kS ns ts) (ef ns os0)).aX dst r))→aT P Y dr K (.call f avs a1 a2 dst rest (au ts os0))
 |bP {f:FuncId} {avs:List I} {a1 a2:Option (List I)} {dst:Option Nat} {rest:List aw} {ts:List (Nat×I)} {os0:List (Nat×ao)} (aJ:Bool) (ρ:List (Nat×Nat)) (os:List (Nat×ao)) (cargs:List I) (post:cA):dr=false→cQ P f cargs os post →
   gE ρ os os0→ib aJ (au ts (ef (iQ ρ os) os0)) ρ os avs cargs→(∀ r os',post r os'→gm aJ ρ os os0 r os') →
   (∀ r os',post r os'→aT P Y dr K (aA rest ((au ts (df ρ os'++os0)).aX dst (r.a8 (bx ρ)))))→aT P Y dr K (.call f avs a1 a2 dst rest (au ts os0))
 |vN {v:Value} {avs:List I} {dst:Option Nat} {rest:List aw} {ts:List (Nat×I)} {os0:List (Nat×ao)} (os:List (Nat×ao)) (cargs:List I) (post:cA):dr=false→Y v cargs os post →
   gE [] os os0→ib false (au ts (ef (iQ [] os) os0)) [] os avs cargs→(∀ r os',post r os'→gm false [] os os0 r os') →
   (∀ r os',post r os'→aT P Y dr K (aA rest ((au ts (df [] os'++os0)).aX dst (r.a8 (bx [])))))→aT P Y dr K (.lE v avs dst rest (au ts os0))
 |ext {f:FuncId} {avs:List I} {dst:Option Nat} {rest:List aw} {A:ai} (r:I):dr=false→Ir P A f avs r→aT P Y dr K (aA rest (A.aX dst r))→aT P Y dr K (.kN f avs dst rest A)
 |any {p:Nat→Prop} {k:Nat→cM} : dr=false→(∀ m,p m→aT P Y dr K (k m))→aT P Y dr K (.any p k)
def B4(n:Nat):Option Nat→Bool
 |some d=>decide (d<n)
 |none=>true
def mD(P:Program)(n:Nat)(bj:Array Oper)(o:Oper):Option aw :=
 match di P o with
 |none=>none
 |some g=>if B4 n o.dst=true then
   match o.guard with
   |none=>some ⟨o.dst,g,none⟩
   |some (j,b)=>match (bj[j]?).bind (·.dst) with
    |some t=>some ⟨o.dst,g,some (t,b)⟩
    |none=>none
  else none
def gu(P:Program)(n:Nat)(bj:Array Oper):List Oper→Option (List aw)
 | []=>some []
 |o::l=>match mD P n bj o,gu P n bj l with
  |some g,some gs=>some (g::gs)
  |_,_=>none
end Go.Abs
namespace Go.Abs
open Go Go.RowKit
section
variable {c:cX} {A:ai} {o:Oper} {x:I}
theorem E0{g:bS}(hg:di c.P o=some g)(h:bq A g=some x):dH c A o x:=by
 unfold di at hg;split at hg
 -- move
 ·rename_i y ho;simp only[t7] at hg;obtain ⟨z,hz,rfl⟩:=hg;simp only[bq,v6] at h;subst h;exact Db (.inl ho) hz
 ·rename_i y ho;simp only[t7] at hg;obtain ⟨z,hz,rfl⟩:=hg;simp only[bq,v6] at h;subst h;exact Db (.inr ho) hz
 -- pick
 ·rename_i q y z ho;split at hg
  ·rename_i q' y' z' U ab af;simp only[v6] at hg;subst hg;simp only[bq] at h;split at h
   ·rename_i t ht;simp only[v6] at h;subst h;exact Wu ho U ab af ht
   ·cases h
  ·cases hg
 -- binOp
 ·rename_i op t y z yt ho;split at hg
  ·rename_i k y' z' hu U ab;simp only[v6] at hg;subst hg;exact C9 ho U ab h
  ·rename_i y' z' hu U ab;simp only[v6] at hg;subst hg;exact C9 ho U ab h
  ·rename_i e y' z' hu U ab;split at hg
   ·rename_i s;split at hg
    ·rename_i hop;simp only[v6] at hg;subst hg;have ho':o.op=.binOp (if (op==.neq)=true then .neq else .eql) t y z yt:=by
      rcases hop with rfl | rfl <;>simpa using ho
     simp only[bq] at h;split at h
     ·rename_i s' hs';simp only[v6] at h;subst h;have:=xB (r:=true) ho' hu U ab (.inl ⟨s',hs',rfl⟩);rw[show (if (op==BinOp.neq)=true then !true else true) = !(op==BinOp.neq) from by cases (op==BinOp.neq) <;>rfl] at this;exact this
     ·rename_i s' es hs';split at h
      ·cases h
      ·rename_i hne;simp only[v6] at h;subst h;have:=xB (r:=false) ho' hu U ab (.inr (.inl ⟨s',es,hs',by simpa using hne,rfl⟩));rw[show (if (op==BinOp.neq)=true then !false else false)=(op==BinOp.neq) from by cases (op==BinOp.neq) <;>rfl] at this;exact this
     ·rename_i n p s' lo k hs';simp only[v6] at h;subst h;have:=xB (r:=false) ho' hu U ab (.inr (.inr ⟨n,p,s',lo,k,hs',rfl⟩));rw[show (if (op==BinOp.neq)=true then !false else false)=(op==BinOp.neq) from by cases (op==BinOp.neq) <;>rfl] at this;exact this
     ·cases h
    ·cases hg
   ·cases hg
  ·rename_i e y' z' hu U ab;split at hg
   ·rename_i hop;simp only[v6] at hg;subst hg;have ho':o.op=.binOp (if (op==.neq)=true then .neq else .eql) t y z yt:=by
     rcases hop with rfl | rfl <;>simpa using ho
    simp only[bq] at h;cases hb1:jd (ak A y') with
    |none=>rw[hb1] at h;cases h
    |some b1=>cases hb2:jd (ak A z') with
     |none=>rw[hb1,hb2] at h;cases h
     |some b2 =>
      rw[hb1,hb2] at h;simp only[oh] at h;split at h
      ·rename_i hor;simp only[v6] at h;subst h;exact Wv ho' hu U ab hb1 hb2 (by simpa using hor)
      ·cases h
   ·cases hg
  ·rename_i d y' z' _ _ _ _ hu U ab;split at hg
   ·rename_i hop;simp only[t7] at hg;obtain ⟨ty,hty,rfl⟩:=hg;have ho':o.op=.binOp (if (op==.neq)=true then .neq else .eql) t y z yt:=by
     rcases hop.1 with rfl | rfl <;>simpa using ho
    simp only[bq,t7] at h;obtain ⟨r,hr,rfl⟩:=h;exact Wc ho' U ab hop.2 hty hr
   ·cases hg
  ·cases hg
 -- unOp
 ·rename_i op t y ho;simp only[t7] at hg;obtain ⟨z,hz,rfl⟩:=hg;simp only[bq] at h;split at h
  ·rename_i b hb;simp only[v6] at h;subst h;exact Wt ho hz hb
  ·rename_i k n hb;simp only[v6] at h;subst h;exact Ws ho hz hb
  ·rename_i k n hb;simp only[v6] at h;subst h;exact Wa ho hz hb
  ·cases h
 -- nilCheck
 ·rename_i y ho;simp only[t7] at hg;obtain ⟨z,hz,rfl⟩:=hg;simp only[bq] at h;cases hy:ak A z <;>rw[hy] at h <;>simp only[mU,v6] at h <;>try (cases h;done)
  ·subst h;rw[←hy];exact Dc ho hz (.inr ⟨_,hy⟩)
  ·subst h;rw[←hy];exact Dc ho hz (.inl ⟨_,_,hy⟩)
 -- makeMap
 ·simp only[v6] at hg;subst hg;simp[bq] at h
 -- lookup
 ·rename_i t m k ok ho;split at hg
  ·rename_i kt et m' k' hu U ab;split at hg
   ·rename_i ty z hk hz;split at hg
    ·rename_i hp;simp only[v6] at hg;subst hg;simp only[bq] at h;cases hm:gx A (ak A m') with
     |none=>rw[hm] at h;cases h
     |some q =>
      obtain ⟨ks,vs⟩:=q;rw[hm] at h;simp only[su] at h;cases hl:fu ty z (ak A k') ks vs with
      |none=>rw[hl] at h;cases h
      |some q =>
       obtain ⟨v,b⟩:=q;rw[hl] at h;simp only[sv,v6] at h;subst h;exact Wo ho hu hk hz hp U ab hm hl
    ·cases hg
   ·cases hg
  ·cases hg
 -- mapUpdate,insert
 iterate 2
  ·split at hg
   ·split at hg
    ·simp only[v6] at hg;subst hg;simp[bq] at h
    ·cases hg
   ·cases hg
 -- makeSlice
 ·split at hg
  ·split at hg
   ·split at hg
    ·simp only[v6] at hg;subst hg;simp[bq] at h
    ·cases hg
   ·cases hg
  ·cases hg
 -- range
 ·split at hg
  ·simp only[t7] at hg;obtain ⟨z,_,rfl⟩:=hg;simp[bq] at h
  ·cases hg
 -- next
 ·simp only[t7] at hg;obtain ⟨z,_,rfl⟩:=hg;simp[bq] at h
 -- entry
 ·rename_i y ho;simp only[t7] at hg;obtain ⟨z,hz,rfl⟩:=hg;simp only[bq] at h;split at h
  ·rename_i n hn;split at h
   ·rename_i ks vs left cur hob;cases cur with
    |none=>cases h
    |some i =>
     simp only[nU] at h;split at h
     ·rename_i kk xx hk hx;simp only[v6] at h;subst h;exact Wb ho hz hn hob hk hx
     ·cases h
   ·cases h
  ·cases h
 -- convert
 ·rename_i oB dst y ho;split at hg
  ·rename_i k0 k y' U ab af;simp only[v6] at hg;subst hg;simp only[bq] at h;split at h
   ·rename_i k1 n hn;simp only[v6] at h;subst h;exact V9 ho U ab af hn
   ·cases h
  ·cases hg
 -- load
 ·rename_i t y ho;split at hg
  ·rename_i s y' U ab;simp only[v6] at hg;subst hg;simp only[bq] at h;split at h
   ·rename_i v hv;split at h
    ·rename_i hok;simp only[v6] at h;subst h;exact Wn ho U ab hv hok
    ·cases h
   ·cases h
  ·cases hg
 -- fieldAddr
 ·rename_i t y f ho;split at hg
  ·rename_i fs y' hu U;split at hg
   ·rename_i fd hf;split at hg
    ·cases hg
    ·rename_i hz;simp only[v6] at hg;subst hg;simp only[bq] at h;split at h
     ·rename_i gs hgs;split at h
      ·rename_i v hv;split at h
       ·rename_i hoff;simp only[v6] at h;subst h;exact Wf ho hu hf hz U hgs hv hoff
       ·cases h
      ·cases h
     ·rename_i n p hp;split at h
      ·rename_i gs hgs;split at h
       ·rename_i hoff;simp only[v6] at h;subst h;exact We ho hu hf hz U hp hgs hoff.1 hoff.2
       ·cases h
      ·cases h
     ·cases h
   ·cases hg
  ·cases hg
 -- field
 ·rename_i t y f ho;split at hg
  ·rename_i fs y' hu U;split at hg
   ·rename_i fd hf;simp only[t7] at hg;obtain ⟨s,hs,rfl⟩:=hg;simp only[bq] at h;split at h
    ·rename_i gs hgs;split at h
     ·rename_i v hv;split at h
      ·rename_i hoff;simp only[v6] at h;subst h;exact Wg ho hu hf hs U hgs hv hoff.1 hoff.2
      ·cases h
     ·cases h
    ·cases h
   ·cases hg
  ·cases hg
 -- indexAddr
 ·rename_i t y i ho;split at hg
  ·rename_i n e y' i' hu U ab;split at hg
   ·rename_i hinfo;obtain ⟨ti,hti⟩:=zx1.1 hinfo;simp only[v6] at hg;subst hg;simp only[bq] at h;split at h
    ·rename_i kk k hk;split at h
     ·rename_i hb;split at h
      ·rename_i gs hgs;split at h
       ·rename_i hev;simp only[t7] at h;obtain ⟨v,hv,rfl⟩:=h;exact Wi ho hu hti U ab hgs hk hb hev hv
       ·cases h
      ·rename_i m p hp;split at h
       ·rename_i gs hgs;split at h
        ·rename_i hev;simp only[v6] at h;subst h;exact Wh ho hu hti U ab hp hk hb hgs hev
        ·cases h
       ·cases h
      ·cases h
     ·cases h
    ·cases h
   ·cases hg
  ·rename_i e y' i' hu U ab;split at hg
   ·rename_i hinfo;obtain ⟨ti,hti⟩:=zx1.1 hinfo;simp only[v6] at hg;subst hg;simp only[bq] at h;split at h
    ·rename_i kk k hk;split at h
     ·rename_i sz es hes;split at h
      ·rename_i hb;obtain ⟨rfl,hb⟩:=hb;simp only[t7] at h;obtain ⟨v,hv,rfl⟩:=h;exact Wj ho hu hti U ab hes hk hb hv
      ·cases h
     ·rename_i m l hm;split at h
      ·rename_i T sz es hes;split at h
       ·rename_i hb;obtain ⟨rfl,rfl,hb⟩:=hb;simp only[t7] at h;obtain ⟨v,hv,rfl⟩:=h;exact Wk ho hu hti U ab hm hes hk hb hv
       ·cases h
      ·cases h
     ·rename_i m p sz lo l hm;split at h
      ·rename_i fs hfs;split at h
       ·rename_i hb;simp only[v6] at h;subst h;exact Wl ho hu hti U ab hb.1 hm hfs hk hb.2
       ·cases h
      ·cases h
     ·cases h
    ·cases h
   ·cases hg
  ·cases hg
 -- index
 ·rename_i t y i ho;split at hg
  ·rename_i n e y' i' hu U ab;simp only[t7] at hg;obtain ⟨s,hs,rfl⟩:=hg;simp only[bq] at h;split at h
   ·rename_i kk k hk;split at h
    ·rename_i hb;split at h
     ·rename_i gs hgs;split at h
      ·rename_i hev;split at h
       ·rename_i v hv;split at h
        ·rename_i hok;simp only[v6] at h;subst h;exact Wm ho hu hs U ab hgs hk hb hev hv hok
        ·cases h
       ·cases h
      ·cases h
     ·cases h
    ·cases h
   ·cases h
  ·cases hg
 -- slice
 ·rename_i t y lo hi mx ho;split at hg
  ·rename_i n e y' hu U;split at hg
   ·split at hg
    ·rename_i hinfo;obtain ⟨ti,hti⟩:=zx1.1 hinfo;simp only[v6] at hg;subst hg;simp only[bq] at h;split at h
     ·rename_i m p hp;split at h
      ·rename_i gs hgs;split at h
       ·rename_i hev;simp only[v6] at h;subst h;exact Wx ho hu hti U hp hgs hev.1 hev.2.1 hev.2.2
       ·cases h
      ·cases h
     ·rename_i gs hgs;split at h
      ·rename_i hev;simp only[v6] at h;subst h;exact Wy ho hu hti U hgs hev.1 hev.2.1
      ·cases h
     ·cases h
    ·cases hg
   ·cases hg
  ·rename_i e y' hu U;split at hg
   ·rename_i lo' hi' mx' q1 q2 q3;split at hg
    ·rename_i hc;obtain ⟨ti,hti⟩:=zx1.1 hc.2;simp only[v6] at hg;subst hg;simp only[bq] at h;split at h
     ·rename_i sz es hes;split at h
      ·rename_i hsz;subst hsz;exact xC ho hu hti U q1 q2 q3 hc.1 (.inl hes) h
      ·cases h
     ·rename_i sz hes;split at h
      ·rename_i hsz;subst hsz;exact xC ho hu hti U q1 q2 q3 hc.1 (.inr (.inl ⟨hes,rfl⟩)) h
      ·cases h
     ·rename_i sz hes;split at h
      ·rename_i hsz;subst hsz;exact xC ho hu hti U q1 q2 q3 hc.1 (.inr (.inr ⟨hes,rfl⟩)) h
      ·cases h
     ·rename_i n p sz l0 k hv;split at h
      ·rename_i fs hfs;split at h
       ·rename_i hsz;exact Ww ho hu hti U q1 q2 q3 hc.1 hsz hv hfs h
       ·cases h
      ·cases h
     ·cases h
    ·cases hg
   ·cases hg
  ·cases hg
 -- build
 ·rename_i t parts ho;split at hg
  ·rename_i zs ps hz hp;split at hg
   ·rename_i fs hu;split at hg
    ·rename_i hc;simp only[v6] at hg;subst hg;simp only[bq,t7] at h;obtain ⟨zs',h,rfl⟩:=h;exact Da ho hz hp (.inl ⟨fs,hu,hc.1,hc.2⟩) h
    ·cases hg
   ·rename_i n e hu;split at hg
    ·rename_i hc;simp only[v6] at hg;subst hg;simp only[bq,t7] at h;obtain ⟨zs',h,rfl⟩:=h;exact Da ho hz hp (.inr ⟨n,e,hu,hc.1,hc.2.1,hc.2.2⟩) h
    ·cases hg
   ·cases hg
  ·cases hg
 -- buildSlice
 ·rename_i t len parts ho;split at hg
  ·rename_i e hu;split at hg
   ·rename_i ps hp;split at hg
    ·rename_i aZ;obtain ⟨rfl,rfl,aZ⟩:=aZ;obtain ⟨ti,hti⟩:=zx1.1 aZ;simp only[v6] at hg;subst hg;simp only[bq,v6] at h;subst h;exact V8 ho hu hti
    split at hg
    ·rename_i hc;obtain ⟨c1,c2,c3,nO,mC⟩:=hc;simp only[v6] at hg;subst hg;simp only[bq] at h;split at h
     ·rename_i es hes;split at h
      ·rename_i hev;simp only[v6] at h;subst h;refine V7 ho hu hp c1 c2 c3 nO mC hes (fun y hy =>?_) hev.2;have:=zx2.1 hev.1 y hy;simpa using this
      ·cases h
     ·cases h
    ·cases hg
   ·cases hg
  ·cases hg
 -- extract
 ·rename_i y i ho;simp only[t7] at hg;obtain ⟨z,hz,rfl⟩:=hg;simp only[bq] at h;split at h
  ·rename_i fs hfs;exact Wd ho hz hfs h
  ·cases h
 -- makeFunc
 ·rename_i f first caps ho
  split at hg
  case isFalse=>cases hg
  rename_i hlt;split at hg
  ·rename_i hfirst;simp only[t7] at hg;obtain ⟨ys,hys,rfl⟩:=hg;simp only[bq] at h;split at h
   ·rename_i hv;simp only[v6] at h;subst h;have hf:first = #[]:=by simpa using hfirst
    rw[hf] at ho;refine Wp hlt ho hys (fun y hy =>?_);have:=zx2.1 hv (ak A y) (zy5.2 ⟨y,hy,rfl⟩);exact this
   ·cases h
  ·split at hg
   case isFalse=>cases hg
   rename_i hcaps;simp only[t7] at hg;obtain ⟨ys,hys,rfl⟩:=hg;simp only[bq] at h;split at h
   ·rename_i hv;simp only[v6] at h;subst h;have hf:caps = #[]:=by simpa using hcaps
    rw[hf] at ho;refine Wq ho hys (fun y hy =>?_);have:=zx2.1 hv (ak A y) (zy5.2 ⟨y,hy,rfl⟩);exact this
   ·cases h
 -- alloc
 ·simp only[t7] at hg;obtain ⟨z,_,rfl⟩:=hg;simp[bq] at h
 -- box
 ·simp only[t7] at hg;obtain ⟨z,_,rfl⟩:=hg;simp[bq] at h
 -- store
 ·split at hg
  ·split at hg
   ·simp only[v6] at hg;subst hg;simp[bq] at h
   ·cases hg
  ·cases hg
 -- call
 ·split at hg
  ·simp only[t7] at hg;obtain ⟨z,_,rfl⟩:=hg;simp[bq] at h
  ·simp only[t7] at hg;obtain ⟨z,_,rfl⟩:=hg;simp[bq] at h
 ·split at hg
  ·simp only[v6] at hg;subst hg;simp[bq] at h
  ·cases hg
 -- len
 ·rename_i args tys ho;split at hg
  ·rename_i y ty hargs htys;have ho':o.op=.call { callee:=.builtin .len,args := #[y],argTypes := #[ty] } :=by
    rw[ho];have e1:args = #[y]:=by apply Array.ext';simpa using hargs
    have e2:tys = #[ty]:=by apply Array.ext';simpa using htys
    rw[e1,e2]
   split at hg
   ·rename_i e hu;simp only[t7] at hg;obtain ⟨y',hy,rfl⟩:=hg;simp only[bq] at h;split at h
    ·rename_i sz es hes;simp only[v6] at h;subst h;refine qB ho' hu (.inl ⟨e,rfl⟩) hy (fun a w D E hs v hv =>?_);rw[hes] at hv;obtain ⟨ad,cap,e1,e2,e3,_⟩:=ox hv;exact ⟨Nat.le_trans e2 e3,fun _=>⟨ad,cap,e1⟩,fun e=>by cases e⟩
    ·rename_i sz hes;simp only[v6] at h;subst h;refine qB (n:=0) ho' hu (.inl ⟨e,rfl⟩) hy (fun a w D E hs v hv =>?_);rw[hes] at hv;obtain ⟨cs,q1,q2⟩:=hv;simp only[al] at q2;exact ⟨by simp[maxLen],fun _=>⟨none,0,by simpa[bG,I.isAgg,q2] using q1.symm⟩,fun e=>by cases e⟩
    ·rename_i sz hes;simp only[v6] at h;subst h;refine qB (n:=0) ho' hu (.inl ⟨e,rfl⟩) hy (fun a w D E hs v hv =>?_);rw[hes] at hv;obtain ⟨cs,q1,q2⟩:=hv;simp only[al] at q2;obtain ⟨ad,q2⟩:=q2;exact ⟨by simp[maxLen],fun _=>⟨ad,0,by simpa[bG,I.isAgg,q2] using q1.symm⟩,fun e=>by cases e⟩
    ·rename_i m l hm;split at h
     ·rename_i T sz es hes;split at h
      ·rename_i hl;subst hl;simp only[v6] at h;subst h;refine qB ho' hu (.inl ⟨e,rfl⟩) hy (fun a w D E hs v hv =>?_);rw[hm] at hv;rcases hs.own hes hv with ⟨rfl,_,rfl⟩ | ⟨b,cap,cs,pre,rest,_,rfl,_,_,_,_,_,k8,k9,_⟩
       ·exact ⟨by simp[maxLen],fun _=>⟨none,0,rfl⟩,fun e=>by cases e⟩
       ·exact ⟨Nat.le_trans k8 k9,fun _=>⟨_,_,rfl⟩,fun e=>by cases e⟩
      ·cases h
     ·cases h
    ·rename_i n p sz lo k hm;simp only[v6] at h;subst h;refine qB ho' hu (.inl ⟨e,rfl⟩) hy (fun a w D E hs v hv =>?_);rw[hm] at hv;obtain ⟨cs,q1,q2⟩:=hv;simp only[al] at q2;obtain ⟨b,bd,off,l,_,_,_,q2,q3,q4,_⟩:=q2;exact ⟨by omega,fun _=>⟨_,_,by simpa[bG,I.isAgg,q2] using q1.symm⟩,fun e=>by cases e⟩
    ·cases h
   ·rename_i hu;simp only[t7] at hg;obtain ⟨y',hy,rfl⟩:=hg;simp only[bq] at h;split at h
    ·rename_i s hs';simp only[v6] at h;subst h;refine qB ho' hu (.inr rfl) hy (fun a w D E hs v hv =>?_);rw[hs'] at hv;obtain ⟨e1,e2⟩:=oy hv;exact ⟨e2,(fun e=>by obtain ⟨_,e⟩:=e;cases e),fun _=>⟨s,e1,rfl⟩⟩
    ·cases h
   ·cases hg
  ·cases hg
 -- append
 ·split at hg
  ·split at hg
   ·split at hg
    ·simp only[t7] at hg;obtain ⟨z,_,rfl⟩:=hg;simp[bq] at h
    ·split at hg
     ·simp only[t7] at hg;obtain ⟨z,_,rfl⟩:=hg;simp[bq] at h
     ·cases hg
   ·cases hg
  ·cases hg
 -- cap
 ·rename_i args tys ho;split at hg
  ·rename_i y ty hargs htys;have ho':o.op=.call { callee:=.builtin .cap,args := #[y],argTypes := #[ty] } :=by
    rw[ho];have e1:args = #[y]:=by apply Array.ext';simpa using hargs
    have e2:tys = #[ty]:=by apply Array.ext';simpa using htys
    rw[e1,e2]
   split at hg
   ·rename_i e hu;simp only[t7] at hg;obtain ⟨y',hy,rfl⟩:=hg;simp only[bq] at h;split at h
    ·rename_i sz hes;simp only[v6] at h;subst h;refine xA ho' hu hy (fun a w D E hs v hv =>?_);rw[hes] at hv;obtain ⟨cs,q1,q2⟩:=hv;simp only[al] at q2;exact ⟨by simp[maxLen],_,_,by simpa[bG,I.isAgg,q2] using q1.symm⟩
    ·rename_i sz hes;simp only[v6] at h;subst h;refine xA ho' hu hy (fun a w D E hs v hv =>?_);rw[hes] at hv;obtain ⟨cs,q1,q2⟩:=hv;simp only[al] at q2;obtain ⟨ad,q2⟩:=q2;exact ⟨by simp[maxLen],_,_,by simpa[bG,I.isAgg,q2] using q1.symm⟩
    ·rename_i n p sz lo k hm;split at h
     ·rename_i fs hfs;simp only[v6] at h;subst h;refine xA ho' hu hy (fun a w D E hs v hv =>?_);rw[hm] at hv;obtain ⟨_,b,cs,T,off,c1,c2,c3,_,_,_,_,_,_,_,_,_,_,_,q1,q2⟩:=hs.view hv hfs;exact ⟨by omega,_,_,q2⟩
     ·cases h
    ·cases h
   ·cases hg
  ·cases hg
 -- clear
 ·split at hg
  ·split at hg
   ·simp only[t7] at hg;obtain ⟨z,_,rfl⟩:=hg;simp[bq] at h
   ·cases hg
  ·cases hg
 -- copy
 ·split at hg
  ·split at hg
   ·split at hg
    ·simp only[v6] at hg;subst hg;simp[bq] at h
    ·cases hg
   ·cases hg
  ·cases hg
 -- delete
 ·split at hg
  ·split at hg
   ·simp only[t7] at hg;obtain ⟨z,_,rfl⟩:=hg;simp[bq] at h
   ·cases hg
  ·cases hg
 -- max
 ·rename_i args _ ho;split at hg
  ·rename_i x y hargs;split at hg
   ·rename_i x' y' U ab;simp only[v6] at hg;subst hg;simp only[bq] at h;have e1:args = #[x,y]:=by apply Array.ext';simpa using hargs
    rw[e1] at ho;exact Wr ho U ab h
   ·cases hg
  ·cases hg
 ·cases hg
theorem fJ.append{α β:Type}{R:α→β→Prop} : ∀ {xs:List α} {ys:List β} {xs':List α} {ys':List β},fJ R xs ys→fJ R xs' ys'→fJ R (xs++xs') (ys++ys')
 |_,_,_,_,.nil,h=>h
 |_,_,_,_,.cons U ab,h=>.cons U (ab.append h)
theorem td{w:World}{D:aU}{E:bf} : ∀ {xs:List I} {vs:List Value},aG w D E xs vs→fJ (bg w D E) xs vs
 | [],vs,h=>by simp only[aG] at h;subst h;exact .nil
 |x::xs,vs,h=>by
  simp only[aG] at h;obtain ⟨v,rest,cs,rfl,U,ab,af⟩:=h;exact .cons (jY U ab) (td af)
theorem Ks {P : Program} {f : FuncId} (h : fe P f = true) : ∃ fn, P.funcs[f]? = some fn ∧ ¬ fn.name = "runtime.NumGoroutine" ∧ ¬ fn.body = none := by
 unfold fe at h;rw[t8] at h
 replace h:=h.2
 cases hf:P.funcs[f]? with
 |none=>simp[hf] at h
 |some fn =>
  simp only[hf,Option.any_some,t8,bne_iff_ne,ne_eq] at h;refine ⟨fn,rfl,by simpa using h.1,?_⟩;cases hb:fn.body <;>simp_all
theorem Bv{P:Program}{f:FuncId}(h:fe P f=true):f<1000000:=by
 unfold fe at h;rw[t8] at h;simpa[Nat.blt_eq] using h.1
theorem ou{P:Program}{w:World}{f:FuncId}{args:Array Value}(h:fe P f=true):(callFunc f args).run P w=.ok (.enter f args) w:=by
 obtain ⟨fn,U,ab,af⟩:=Ks h;simp[callFunc,U,ab,af]
theorem aY.kv{A:ai}{a:Act}{w:World}{D:aU}{E:bf}(h:aY c A a w D E){n:Nat}{e:bM}{b:Nat}(he:E n=some e)(hb:e.aH=some b):c.e9 b:=by
 have:=h.bP n;unfold cN at this;split at this
 ·simp[this] at he
 ·obtain ⟨b',cs,T,U,ab,_⟩:=this;rw[U,v6] at he;subst he;simp only[bM.aH,v6] at hb;exact hb▸ab
 ·obtain ⟨aH,U,ab,af⟩:=this;rw[U,v6] at he;subst he;split at af
  ·cases hb
  ·obtain ⟨cs,pre,rest,aq,_⟩:=af;simp only[bM.aH,v6] at hb;exact hb▸aq
 ·obtain ⟨b',U,ab,_⟩:=this;rw[U,v6] at he;subst he;simp only[bM.aH,v6] at hb;exact hb▸ab
 ·obtain ⟨b',es,ck,U,ab,_⟩:=this;rw[U,v6] at he;subst he;simp only[bM.aH,v6] at hb;exact hb▸ab
 ·obtain ⟨b',bb,es,ck,si,se,la,U,ab,_⟩:=this;rw[U,v6] at he;subst he;simp only[bM.aH,v6] at hb;exact hb▸ab
 ·obtain ⟨aH,U,ab,af⟩:=this;rw[U,v6] at he;subst he;split at af
  ·cases hb
  ·obtain ⟨cs,m,aq,_⟩:=af;simp only[bM.aH,v6] at hb;exact hb▸aq
theorem aY.sr{A:ai}{a:Act}{w:World}{D:aU}{E:bf}(h:aY c A a w D E):h2 c.P w (cE E) :=
 h.eV.1.WW h.dG (fun _ hb=>hb) fun _ ⟨_,_,U,ab⟩=>h.kv U ab
theorem aY.xP{A:ai}{a:Act}{w:World}{D:aU}{E:bf}(h:aY c A a w D E):h2 c.P w (fun _=>False):=h.sr.uJ fun _ h=>h.elim
theorem aY.qH{A:ai}{a:Act}{w:World}{D:aU}{E:bf}(h:aY c A a w D E){ρ:List (Nat×Nat)}{os:List (Nat×ao)} : h2 c.P w (cE (ay ρ os E)):=h.sr.uJ fun b ⟨n,e,U,ab⟩=>by
 simp only[ay] at U;split at U
 ·exact ⟨_,e,U,ab⟩
 ·cases U
theorem bm.aax{f:FuncId}{avs cargs:List I}{r:I}{vs:List Value}{a:Act}{w:World}{D:aU}{E:bf}(hs:aY c A a w D E)(h:bm c.P f cargs r)(hf:r.flat=true)(hc:bX true A avs=some cargs)(hv:fJ (bg w D E) avs vs) :
  Calls c.P f vs.toArray w fun e w'=>∃ v D',e=.returned v∧aY c A a w' D' E∧bg w' D' E r v:=by
 have hw:iI true A D E (fun b _=>b<w.heap.size):=by
  refine ⟨fun b o ah=>hs.aQ b o ah,fun n T sz es b cap hn ay o _=>hs.gq ay rfl,fun _ n x b bd hn ay o _=>hs.gq ay rfl,fun _ n ks vs b hn ay=>hs.gq ay rfl⟩
 have hrv:=mJ (E':=dn) hs (fun _ _ h=>h) hw avs cargs vs (l6 _ _ hv (rZ hc)) hc;refine (h.2 w _ vs hs.xP (fun _ _ ah=>ah) hrv).mono fun e w' ⟨v,D',he,U,ab,af,aq⟩=>⟨v,D,he,?_,bg.flat hf U⟩
 exact hs.grow ab (fun _ _ ah=>ah) (fun _ _ ah _=>ah) (fun b o ah=>Nat.lt_of_lt_of_le (hs.aQ b o ah) ab.size)
theorem bm.aaz{f:FuncId}{avs cargs:List I}{r:I}{vs:List Value}{a:Act}{w:World}{D:aU}{E:bf}(hs:aY c A a w D E)(h:bm c.P f cargs r)(hc:bX false A avs=some cargs)(hv:fJ (bg w D E) avs vs) :
  Calls c.P f vs.toArray w fun e w'=>∃ v D',e=.returned v∧aY c A a w' D' E∧bg w' D' E r v:=by
 obtain ⟨hs1,hw⟩:=hs.pM;have hrv:=mJ (E':=dn) hs (fun _ _ h=>h) hw avs cargs vs (l6 _ _ hv (rZ hc)) hc;refine (h.2 w _ vs hs.xP hs1.aQ hrv).mono fun e w' ⟨v,D',he,U,ab,af,aq⟩=>⟨v,fun b o=>pJ A D E b o∨(w.heap.size≤b∧D' b o),he,?_,?_⟩
 ·refine hs1.grow ab (fun _ _ ah=>.inl ah) ?_ ?_
  ·rintro b o (ah | ⟨hle,_⟩) hlt
   ·exact ah
   ·omega
  ·rintro b o (ah | ⟨_,ah⟩)
   ·exact Nat.lt_of_lt_of_le (hs1.aQ b o ah) ab.size
   ·exact af b o ah
 ·refine bg.later (E:=dn) ⟨fun b o ah =>?_,fun _ _ _ _ h=>h,fun n b bd hn=>by simp[dn] at hn,fun n aH l hn=>by simp[dn] at hn,fun n b hn=>by simp[dn] at hn,fun n b hn=>by simp[dn] at hn,fun _ _ _ _ h=>h⟩ U;rcases Nat.lt_or_ge b w.heap.size with hlt | hge
  ·exact .inl (aq b o ah hlt)
  ·exact .inr ⟨hge,ah⟩
theorem DW(p:Nat→Bool)(os:List (Nat×ao))(n:Nat):aj (os.filter fun q=>p q.1) n=if p n then aj os n else none:=by
 induction os with
 |nil=>simp[aj]
 |cons q os ih =>
  obtain ⟨k,v⟩:=q;simp only[zw0];by_cases hk:p k=true
  ·simp only[hk,if_true,aj,ih];by_cases hn:n=k
   ·subst hn;simp only[hk,if_true]
   ·simp only[if_neg hn]
  ·simp only[hk,zz3,if_false,ih,aj];by_cases hn:n=k
   ·subst hn;simp[hk]
   ·simp only[if_neg hn]
theorem pg(ns:List Nat)(os:List (Nat×ao))(n:Nat):aj (ef ns os) n=if ns.contains n then none else aj os n:=by
 rw[ef,DW (fun n => !ns.contains n)];cases ns.contains n <;>rfl
theorem qK(ns:List Nat)(os:List (Nat×ao))(n:Nat):aj (lQ ns os) n=if ns.contains n then aj os n else none:=DW _ _ _
theorem yk{p:Nat→Bool} : ∀ {os:List (Nat×ao)},cB p os→∀ k x,aj os k=some x→x.only p=true
 | [],_,k,x,hx=>by simp[aj] at hx
 |(j,v)::r,h,k,x,hx=>by
  simp only[cB] at h;simp only[aj] at hx;split at hx
  ·simp only[v6] at hx;subst hx;exact h.1
  ·exact yk h.2 k x hx
theorem DZ(ns:List Nat):∀ (ts:List (Nat×I)) (t:Nat),bI (kS ns ts) t=if (bI ts t).only (fun n => !ns.contains n) then bI ts t else .du
 | [],t=>by simp[kS,bI,I.only]
 |(k,v)::r,t=>by
  simp only[kS,zz4,bI];by_cases h:t=k
  ·simp only[if_pos h]
  ·simp only[if_neg h];exact DZ ns r t
theorem aY.CB{a:Act}{w:World}{D:aU}{E:bf}{ts:List (Nat×I)}{os0:List (Nat×ao)}(h:aY c (au ts os0) a w D E)(ns:List Nat)(ho:cB (fun n => !ns.contains n) (ef ns os0)) :
  ∃ D' E',aY c (au (kS ns ts) (ef ns os0)) a w D' E'∧iI true (au ts (lQ ns os0)) D E D':=by
 have U:=h.pM.1;have hw1:=h.pM.2;obtain ⟨D1,hD1⟩:∃ D1,D1=pJ (au ts os0) D E:=⟨_,rfl⟩
 rw[←hD1] at U hw1;obtain ⟨D2,hD2⟩:∃ D2:aU,D2=fun b o=>D1 b o∨(∃ n x bd,ns.contains n=true∧aj os0 n=some (.box x)∧E n=some (.aJ b bd)∧o<x.size)∨∃ n ks vs,ns.contains n=true∧aj os0 n=some (.bA ks vs)∧E n=some (.bA b)∧o=0:=⟨_,rfl⟩
 obtain ⟨E2,hE2⟩:∃ E2:bf,E2=fun n=>if ns.contains n then none else E n:=⟨_,rfl⟩
 have e2:∀ n,(!ns.contains n)=true→E2 n=E n:=fun n hn=>by rw[hE2];simp at hn;simp[hn]
 have hl:dU w D1 E2 w D2 E2:=⟨fun b o ah=>by rw[hD2];exact .inl ah,fun _ _ _ _ h=>h,fun _ _ _ h=>h,fun _ aH l h=>⟨aH,l,h,zz5 _,fun _=>rfl⟩,fun _ _ h=>h,fun _ _ h=>h,fun _ _ _ _ h=>h⟩
 have jZ:∀ b o,D2 b o→D1 b o∨∃ n e q,ns.contains n=true∧E n=some e∧e.aH=some b∧c.e9 b∧w.heap[b]?=some q:=fun b o ah=>by
  rw[hD2] at ah;rcases ah with ah | ⟨n,x,bd,k1,k2,k3,k4⟩ | ⟨n,ks,vs,k1,k2,k3,_⟩
  ·exact .inl ah
  ·obtain ⟨b',cs,T,q1,q2,q3,_⟩:=h.box (n:=n) (x:=x) (by simpa[au] using k2);rw[k3] at q1;simp only[v6,bM.aJ.injEq] at q1;obtain ⟨rfl,rfl⟩:=q1;exact .inr ⟨n,_,_,k1,k3,rfl,q2,q3⟩
  ·obtain ⟨b',es,ck,q1,q2,q3,_⟩:=h.map (n:=n) (ks:=ks) (vs:=vs) (by simpa[au] using k2);rw[k3] at q1;cases q1;exact .inr ⟨n,_,_,k1,k3,rfl,q2,q3⟩
 refine ⟨D2,E2,⟨U.sz,U.eB,fun t =>?_,U.dG,fun b o ah hm =>?_,fun b o ah =>?_,fun n =>?_,fun n m e e' b g1 g2 g3 g4 =>?_,fun n e hn =>?_,U.eL,fun b o ah=>hl.cZ b o (U.cR b o ah),U.eV,U.fw⟩,?_⟩
 ·simp only[au,DZ];have ht:=U.dN t;simp only[au] at ht;split
  ·rename_i hp;exact bg.later hl (bg.c9 e2 hp ht)
  ·simp[bg]
 ·rcases jZ b o ah with ah | ⟨n,e,q,_,_,_,k,_⟩
  ·exact U.cZ b o ah hm
  ·exact absurd k hm
 ·rcases jZ b o ah with ah | ⟨n,e,q,_,_,_,_,k⟩
  ·exact U.aQ b o ah
  ·exact fS k
 ·simp only[au,pg];by_cases hn:ns.contains n=true
  ·simp only[hn,if_true,cN];rw[hE2];simp only[hn,if_true]
  ·have hnb:(!ns.contains n)=true:=by simpa using hn
   simp only[hn,zz3,if_false];have hob:=U.bP n;simp only[au] at hob;cases hx:aj os0 n with
   |none=>rw[hx] at hob;simp only[cN] at hob ⊢;rw[e2 n hnb];exact hob
   |some x =>
    have hon:=yk ho n x (by rw[pg,if_neg hn];exact hx);have nD:∀ e b,E n=some e→e.aH=some b→∀ o,D2 b o→D1 b o:=fun e b he hb o ah=>by
     rcases jZ b o ah with ah | ⟨m,e',q,k1,k3,k2,_⟩
     ·exact ah
     ·have:=h.cO n m e _ b he k3 hb k2;subst this;exact absurd k1 hn
    rw[hx] at hob;cases x with
    |box x =>
     obtain ⟨b,cs,T,k1,k2,k3,k4,k5⟩:=hob;exact ⟨b,cs,T,(e2 n hnb).trans k1,k2,k3,al.later hl _ _ (al.c9 e2 _ _ (by simpa[ao.only] using hon) k4),fun o ah=>k5 o (nD _ b k1 rfl o ah)⟩
    |bU T sz es =>
     obtain ⟨aH,k1,k2,k3⟩:=hob;refine ⟨aH,(e2 n hnb).trans k1,k2,?_⟩;cases aH with
     |none=>exact k3
     |some bc =>
      obtain ⟨b,cap⟩:=bc;obtain ⟨cs,pre,rest,q1,q2,q3,q4,q5,q6,q7,q8⟩:=k3;exact ⟨cs,pre,rest,q1,q2,q3,aP.later hl _ _ (aP.c9 e2 _ _ (by simpa[ao.only] using hon) q4),q5,q6,q7,fun o ah=>q8 o (nD _ b k1 rfl o ah)⟩
    |dD T xs =>
     obtain ⟨aH,k1,k2,k3⟩:=hob;refine ⟨aH,(e2 n hnb).trans k1,k2,?_⟩;cases aH with
     |none=>exact k3
     |some bc =>
      obtain ⟨b,cap⟩:=bc;obtain ⟨cs,r,q1,q2,q3,q4,q5,q6,q7⟩:=k3;exact ⟨cs,r,q1,q2,q3,q4,q5,q6,fun o ah=>q7 o (nD _ b k1 rfl o ah)⟩
    |dC x =>
     obtain ⟨b,k1,k2,k3,k4,k5⟩:=hob;exact ⟨b,(e2 n hnb).trans k1,k2,k3,k4,fun o ah=>k5 o (nD _ b k1 rfl o ah)⟩
    |bA ks vs =>
     obtain ⟨b,es,ck,k1,k2,k3,k4,k5,k6,k7⟩:=hob;simp only[ao.only,t8] at hon;exact ⟨b,es,ck,(e2 n hnb).trans k1,k2,k3,k4,aG.later hl _ _ (aG.c9 e2 _ _ hon.1 k5),aG.later hl _ _ (aG.c9 e2 _ _ hon.2 k6),fun o ah=>k7 o (nD _ b k1 rfl o ah)⟩
    |it ks vs left cur =>
     obtain ⟨r,b,es,ck,si,se,la,k1,k2,k3,k4,k5,k6,k7,k8,k9,k9',k10⟩:=hob;simp only[ao.only,t8] at hon;exact ⟨r,b,es,ck,si,se,la,(e2 n hnb).trans k1,k2,k3,k4.later hl,aG.later hl _ _ (aG.c9 e2 _ _ hon.1 k5),aG.later hl _ _ (aG.c9 e2 _ _ hon.2 k6),k7,k8,k9,k9',fun o ah=>k10 o (nD _ r k1 rfl o ah)⟩
 ·have kj:∀ n e,E2 n=some e→E n=some e:=fun n e he=>by
   rw[hE2] at he;simp only at he;split at he
   ·cases he
   ·exact he
  exact h.cO n m e e' b (kj n e g1) (kj m e' g2) g3 g4
 ·by_cases hm:ns.contains n=true
  ·left;rw[hE2];simp only[hm,if_true]
  ·rw[e2 n (by simpa using hm)];exact h.dQ n e hn
 ·refine ⟨fun b o ah=>by rw[hD2];exact .inl (hw1.cZ b o ah),fun n T sz es b cap hn ay o hlt =>?_,fun _ n x b bd hn ay o hlt =>?_,fun _ n ks vs b hn ay =>?_⟩
  ·simp only[au,qK] at hn;split at hn
   ·rw[hD2];exact .inl (hw1.bU n T sz es b cap hn ay o hlt)
   ·cases hn
  ·simp only[au,qK] at hn;split at hn
   ·rename_i hk;rw[hD2];exact .inr (.inl ⟨n,x,bd,hk,hn,ay,hlt⟩)
   ·cases hn
  ·simp only[au,qK] at hn;split at hn
   ·rename_i hk;rw[hD2];exact .inr (.inr ⟨n,ks,vs,hk,hn,ay,rfl⟩)
   ·cases hn
theorem bm.aay{f:FuncId}{avs cargs:List I}{r:I}{vs:List Value}{a:Act}{w:World}{D:aU}{E:bf}{ts:List (Nat×I)}{os0:List (Nat×ao)}(hs:aY c (au ts os0) a w D E)(ns:List Nat)(ho:cB (fun n => !ns.contains n) (ef ns os0))
  (h:bm c.P f cargs r) (hc:bX true (au ts (lQ ns os0)) avs=some cargs) (hv:fJ (bg w D E) avs vs) :
  Calls c.P f vs.toArray w fun e w'=>∃ v D' E',e=.returned v∧aY c (au (kS ns ts) (ef ns os0)) a w' D' E'∧bg w' D' E' r v:=by
 obtain ⟨D1,E1,hs1,hw⟩:=hs.CB ns ho;have hu:ep (au ts (lQ ns os0)) (au ts os0):=fun n x hx=>by
  simp only[au,qK] at hx ⊢;split at hx
  ·exact hx
  ·cases hx
 have hrv:=mJ (E':=dn) hs hu hw avs cargs vs (l6 _ _ hv (rZ hc)) hc;refine (h.2 w _ vs hs.xP hs1.aQ hrv).mono fun e w' ⟨v,D',he,U,ab,af,aq⟩=>⟨v,fun b o=>D1 b o∨(w.heap.size≤b∧D' b o),E1,he,?_,?_⟩
 ·refine hs1.grow ab (fun _ _ ah=>.inl ah) ?_ ?_
  ·rintro b o (ah | ⟨hle,_⟩) hlt
   ·exact ah
   ·omega
  ·rintro b o (ah | ⟨_,ah⟩)
   ·exact Nat.lt_of_lt_of_le (hs1.aQ b o ah) ab.size
   ·exact af b o ah
 ·refine bg.later (E:=dn) ⟨fun b o ah =>?_,fun _ _ _ _ h=>h,fun n b bd hn=>by simp[dn] at hn,fun n aH l hn=>by simp[dn] at hn,fun n b hn=>by simp[dn] at hn,fun n b hn=>by simp[dn] at hn,fun _ _ _ _ h=>h⟩ U;rcases Nat.lt_or_ge b w.heap.size with hlt | hge
  ·exact .inl (aq b o ah hlt)
  ·exact .inr ⟨hge,ah⟩
theorem wg{a:Act}{w:World}{D D1:aU}{E:bf}{ts:List (Nat×I)}{os0 os:List (Nat×ao)}{ρ:List (Nat×Nat)}{aJ:Bool}{A0:ai}(hs:aY c (au ts os0) a w D E)(hu:ep A0 (au ts os0))(hD:∀ b o,D b o→D1 b o)(hw:iI aJ A0 D E D1) :
  ∀ (avs cargs:List I) (vs:List Value),ib aJ A0 ρ os avs cargs→fJ (bg w D E) avs vs→aG w D1 (ay ρ os E) cargs vs
 | [],[],vs,_,hv=>by cases hv;simp[aG]
 | [],_::_,_,h,_=>by simp[ib] at h
 |_::_,[],_,h,_=>by simp[ib] at h
 |x::xs,y::ys,vs,h,hv=>by
  cases hv with
  |cons hv hvs =>
  rename_i v vs;simp only[ib] at h;have ih:=wg hs hu hD hw xs ys vs h.2 hvs;have hl:dU w D (ay ρ os E) w D1 (ay ρ os E):=⟨hD,fun _ _ _ _ h=>h,fun _ _ _ h=>h,fun _ aH l h=>⟨aH,l,h,zz5 _,fun _=>rfl⟩,fun _ _ h=>h,fun _ _ h=>h,fun _ _ _ _ h=>h⟩
  have U:∃ cs,bG y v cs∧al w D1 (ay ρ os E) y cs:=by
   rcases h.1 with ⟨k1,k2,k3⟩ | k
   ·rw[k1] at hv;have ab:=bg.later hl ((bg.a8 (w:=w) (D:=D) (p:=av os) (ρ:=bx ρ) (E:=ay ρ os E) (E':=E) (fun n hn=>by simp only[ay,hn,if_true]) k2).1 hv);cases y <;>simp only[bg] at ab <;>first | (simp[I.bT] at k3;done) | exact ab
   ·have ab:aG w D E [x] [v]:=l6 [x] [v] (.cons hv .nil) (by
     intro z hz;simp only[zy1] at hz;subst hz;cases z <;>simp_all[bn,I.bT])
    have af:=mJ (E':=ay ρ os E) hs hu hw [x] [y] [v] ab (by simp[bX,k]);simp only[aG] at af;obtain ⟨v',rest,cs,e,k1,k2,_⟩:=af;simp only[zv0] at e;obtain ⟨rfl,_⟩:=e;exact ⟨cs,k1,k2⟩
  obtain ⟨cs,k1,k2⟩:=U;simp only[aG];exact ⟨v,vs,cs,rfl,k1,k2,ih⟩
theorem ep.drop(ts:List (Nat×I))(ns:List Nat)(os0:List (Nat×ao)):ep (au ts (ef ns os0)) (au ts os0):=fun n x hx=>by
 simp only[au,pg] at hx ⊢;split at hx
 ·cases hx
 ·exact hx
theorem oK.use{run:Array Value→World→(Ending→World→Prop)→Prop}{since:World→aU→bf→Prop}{avs cargs:List I}{post:cA}{vs:List Value}{a:Act}{w:World}{D:aU}{E:bf}{ts:List (Nat×I)}{os0 os:List (Nat×ao)}{ρ:List (Nat×Nat)}
  (hs:aY c (au ts os0) a w D E) (h:oK run since cargs os post) (aJ:Bool) (hmono:∀ {vs w R R'},run vs w R→(∀ e w,R e w→R' e w)→run vs w R') (hsince:(aJ=true→∀ D,since w D (ay ρ os E))∧(aJ=false→since w (pJ (au ts os0) D E) (ay ρ os E)))
  (hg:gE ρ os os0) (ha:ib aJ (au ts (ef (iQ ρ os) os0)) ρ os avs cargs) (hb:∀ r os',post r os'→gm aJ ρ os os0 r os') (hv:fJ (bg w D E) avs vs) :
  run vs.toArray w fun e w'=>∃ v r os' D2 E2,e=.returned v∧post r os'∧aY c (au ts (df ρ os'++os0)) a w' D2 E2∧bg w' D2 E2 (r.a8 (bx ρ)) v∧∀ m e,ay ρ os E m=some e→av os' m=true→∃ e',E2 (bx ρ m)=some e'∧e.le e':=by
 have notName:∀ n,(iQ ρ os).contains n=false→∀ m,av os m=true→bx ρ m≠n:=fun n hn m hm he=>by
  obtain ⟨q,hq,rfl⟩:=xJ.1 hm;have:(iQ ρ os).contains n=true:=by simp only[iQ,List.contains_iff_mem,zy5];exact ⟨q,hq,he⟩
  rw[this] at hn;cases hn
 have other:∀ {D:aU},aY c (au ts os0) a w D E→∀ n e b x,aj (ef (iQ ρ os) os0) n=some x→E n=some e→e.aH=some b→¬ cE (ay ρ os E) b:=fun hs n e b x hx he hb ho=>by
  obtain ⟨m,e',U,ab,hb',_⟩:=hs.uv hg ho;rw[pg] at hx;split at hx
  ·cases hx
  ·rename_i hc;have:=hs.cO n (bx ρ m) e _ b he ab hb hb';exact notName n (by simpa using hc) m U this.symm
 cases aJ with
 |true =>
  obtain ⟨D1,hD1⟩:∃ D1:aU,D1=fun b o=>D b o∨(b<w.heap.size∧¬ cE (ay ρ os E) b):=⟨_,rfl⟩
  have hD:∀ b o,D b o→D1 b o:=fun b o ah=>by rw[hD1];exact .inl ah
  have hw:iI true (au ts (ef (iQ ρ os) os0)) D E D1:=by
   refine ⟨hD,fun n T sz es b cap hn ay o _ =>?_,fun _ n x b bd hn ay o _ =>?_,fun _ n ks vs b hn ay =>?_⟩
   ·rw[hD1];exact .inr ⟨hs.gq ay rfl,other hs n _ b _ hn ay rfl⟩
   ·rw[hD1];exact .inr ⟨hs.gq ay rfl,other hs n _ b _ hn ay rfl⟩
   ·rw[hD1];exact .inr ⟨hs.gq ay rfl,other hs n _ b _ hn ay rfl⟩
  have hrv:=wg hs (ep.drop ts _ os0) hD hw avs cargs vs ha hv;refine hmono (h w D1 (ay ρ os E) vs (hsince.1 rfl _) (fun b o ah=>by
   rw[hD1] at ah;rcases ah with ah | ah
   ·exact hs.aQ b o ah
   ·exact ah.1) (hs.Dp hg hD fun b o ah ho=>by
    rw[hD1] at ah;rcases ah with ah | ah
    ·exact ah
    ·exact absurd ho ah.2) hrv) ?_
  rintro e w' ⟨v,D',E',r,os',he,hp,U,ab,af,aq,h5,h6,h7,h8⟩;obtain ⟨D2,E2,k1,k2⟩:=hs.gG hg hD (fun h=>by cases h) (hb r os' hp) U ab af h5 aq h8 h6 h7;exact ⟨v,r,os',D2,E2,he,hp,k1,k2⟩
 |false =>
  obtain ⟨hs1,hw⟩:=hs.pM;have hw':iI false (au ts (ef (iQ ρ os) os0)) D E (pJ (au ts os0) D E):=⟨hw.cZ,fun n T sz es b cap hn ay o hlt=>hw.bU n T sz es b cap (ep.drop ts _ os0 n _ hn) ay o hlt,(fun hb=>by cases hb),fun hb=>by cases hb⟩
  have hrv:=wg hs (ep.drop ts _ os0) hw.cZ hw' avs cargs vs ha hv;refine hmono (h w _ (ay ρ os E) vs (hsince.2 rfl) hs1.aQ (hs1.Dp hg (fun _ _ h=>h) fun b o ah _=>ah) hrv) ?_;rintro e w' ⟨v,D',E',r,os',he,hp,U,ab,af,aq,h5,h6,h7,h8⟩;obtain ⟨D2,E2,k1,k2⟩:=hs1.gG hg (fun _ _ h=>h) (fun _ _ _ h=>h) (hb r os' hp) U ab af h5 aq h8 h6 h7;exact ⟨v,r,os',D2,E2,he,hp,k1,k2⟩
theorem aY.since{A:ai}{a:Act}{w:World}{D:aU}{E E':bf}(h:aY c A a w D E)(ay:∀ n,E' n=E n∨E' n=none):zM c w D E' :=
 ⟨h.dG,h.cR,h.cZ,fun n e hn=>by
  rcases ay n with k | k
  ·rw[k];exact h.dQ n e hn
  ·exact .inl k,h.fw,h.sr.uJ fun b ⟨n,e,U,ab⟩=>by
   rcases ay n with k | k
   ·rw[k] at U;exact ⟨n,e,U,ab⟩
   ·rw[k] at U;cases U⟩
theorem mK(c:cX)(f:FuncId):c.bH.fn f:=by unfold cX.bH;split <;>trivial
theorem wS(c:cX):c.bH.depth.isSome=true→1≤9:=fun _=>by omega
theorem lA{a:Act}{w:World} : ∀ f,o.about c.P w a.eval=some f→c.bH.fn f:=fun f _=>mK c f
theorem l8{g:bS}(hg:di c.P o=some g)(r:Option Nat)(ρ:Operand→Value):o.semAt r ρ=execOp ρ o:=by
 cases r with
 |none=>rfl
 |some l =>
  refine Oper.semAt_some l ρ o fun cl h =>?_;unfold di at hg;rw[h] at hg;simp at hg
theorem Bw{f:FuncId}{args:Array Value}{w:World}{R:Ending→World→Prop}(h:Calls c.P f args w R):CallsIn c.bH (9-1) c.P f args w R:=by
 have U:CallsIn Fence.wide (9-1) c.P f args w R:=callsIn_wide.2 h;unfold cX.bH;split
 ·exact U
 ·exact U
theorem tN.mono{P:Program}{v:Value}{vs:Array Value}{w:World}{R R':Ending→World→Prop}(h:tN P v vs w R)(hr:∀ e w,R e w→R' e w):tN P v vs w R':=by
 obtain ⟨l,U,fn,tmps,assign,body,ab,af⟩:=h;exact ⟨l,U,fn,tmps,assign,body,ab,af.mono hr⟩
theorem ZC{l:Nat}{f:FuncId}{tmps:Array Value}{assign body:Code}{w:World}{R:Ending→World→Prop}(h:RoundIn Fence.wide 9 c.P l f tmps assign body w R):RoundIn c.bH (9-1) c.P l f tmps assign body w R:=by
 have U:RoundIn Fence.wide (9-1) c.P l f tmps assign body w R:=⟨h.1,fun cc cs _=>h.2 cc cs (room_wide _)⟩
 unfold cX.bH;split
 ·exact U
 ·exact U
theorem iH.wp{B:ai}{g:bS}(hg:di c.P o=some g)(h:iH c A o B){a:Act}{w:World}{K:Act→World→Prop}{Q:Exit→Act→World→Prop}(hs:b5 c A a w)(hK:∀ a w,b5 c B a w→K a w):o.wpIn c.bH 9 c.P a w K Q:=by
 obtain ⟨D,E,hs⟩:=hs;obtain ⟨w',h⟩:=h a w D E hs;refine ⟨lA,?_⟩;rw[l8 hg];rcases h with ⟨v,U,ab⟩ | ⟨U,ab⟩
 ·rw[U];exact hK _ _ ab
 ·rw[U];exact hK _ _ ab
theorem wK{dr:Bool}{K:ai→Prop}{f:FuncId}{avs:List I}{a1 a2:Option (List I)}{vs:List Value}{dst:Option Nat}{rest:List aw}{a:Act}{w:World}{Kw:Act→World→Prop}{Q:Exit→Act→World→Prop}{g:bS}(hg:di c.P o=some g)(U:bX true A avs=a1)(ab:bX false A avs=a2)
  (hs:∀ D E,aY c A a w D E→fJ (bg w D E) avs vs) (hsim:b5 c A a w) (hwp:aT c.P c.Y dr K (.call f avs a1 a2 dst rest A)) (ah:o.dst=dst) (hdn:∀ k,dst=some k→k<c.n)
  (hrun:fe c.P f=true→(execOp a.eval o).run c.P w=.ok (.enter f vs.toArray) w)
  (hK:∀ B a' w',aT c.P c.Y dr K (aA rest B)→b5 c B a' w'→Kw a' w'):o.wpIn c.bH 9 c.P a w Kw Q:=by
 obtain ⟨D,E,hsw⟩:=hsim;have pT:∀ {R:Ending→World→Prop},fe c.P f=true→Calls c.P f vs.toArray w R→(∀ e w',R e w'→∃ v,e=.returned v∧Kw (a.put o.dst v) w')→o.wpIn c.bH 9 c.P a w Kw Q:=fun {R} hc hcl hR=>by
  refine ⟨lA,?_⟩;rw[l8 hg,hrun hc,Oper.uponIn_enter];refine ⟨wS c,Bw (hcl.mono fun e w' he =>?_)⟩;obtain ⟨v,rfl,hv⟩:=hR e w' he;exact hv
 cases hwp with
 |flat r hspec hflat hrest =>
  refine pT hspec.1 (hspec.aax hsw hflat U (hs D E hsw)) ?_;rintro e w' ⟨v,D',he,hs',hv⟩;refine ⟨v,he,?_⟩;rw[ah];exact hK _ _ _ hrest ⟨D',E,hs'.aX hdn hv⟩
 |lead r hspec hrest =>
  refine pT hspec.1 (hspec.aaz hsw ab (hs D E hsw)) ?_;rintro e w' ⟨v,D',he,hs',hv⟩;refine ⟨v,he,?_⟩;rw[ah];exact hK _ _ _ hrest ⟨D',E,hs'.aX hdn hv⟩
 |jz ns r hdr hspec hf ho hrest =>
  refine pT hspec.1 (hspec.aay hsw ns ho hf (hs D E hsw)) ?_;rintro e w' ⟨v,D',E',he,hs',hv⟩;refine ⟨v,he,?_⟩;rw[ah];exact hK _ _ _ hrest ⟨D',E',hs'.aX hdn hv⟩
 |bP aJ ρ os cargs post hdr hspec hgv ha hb hrest =>
  refine pT hspec.1 (hspec.2.use hsw aJ (fun h=>h.mono) ⟨fun _ _=>hsw.qH,fun _=>hsw.qH⟩ hgv ha hb (hs D E hsw)) ?_;rintro e w' ⟨v,r,os',D2,E2,he,hp,hs',hv,_⟩;refine ⟨v,he,?_⟩;rw[ah];exact hK _ _ _ (hrest r os' hp) ⟨D2,E2,hs'.aX hdn hv⟩
theorem Ku{dr:Bool}{K:ai→Prop}{v:Value}{avs:List I}{vs:List Value}{dst:Option Nat}{rest:List aw}{a:Act}{w:World}{Kw:Act→World→Prop}{Q:Exit→Act→World→Prop}{g:bS}(hg:di c.P o=some g)
  (hs:∀ D E,aY c A a w D E→fJ (bg w D E) avs vs) (hsim:b5 c A a w) (hwp:aT c.P c.Y dr K (.lE v avs dst rest A)) (ah:o.dst=dst) (hdn:∀ k,dst=some k→k<c.n)
  (hrun:∀ l,v=.func (.yield l) #[] #[]→(execOp a.eval o).run c.P w=(Instr.yield l vs.toArray).run c.P w)
  (hK:∀ B a' w',aT c.P c.Y dr K (aA rest B)→b5 c B a' w'→Kw a' w'):o.wpIn c.bH 9 c.P a w Kw Q:=by
 obtain ⟨D,E,hsw⟩:=hsim;cases hwp with
 |vN os cargs post hdr hY hgv ha hb hrest =>
  have hyr:=(hsw.eV.2 _ _ _ _ hY).use (ρ:=[]) hsw false (fun h=>h.mono) ⟨(fun h=>by cases h),fun _=>hsw.pM.1.since (fun n=>by simp only[ay,bx];split <;>simp)⟩ hgv ha hb (hs D E hsw);obtain ⟨l,rfl,fn,tmps,assign,body,ab,af⟩:=hyr;refine ⟨lA,?_⟩;rw[l8 hg,hrun l rfl,ab,Oper.uponIn_round];refine ⟨wS c,ZC (af.mono fun e w' he =>?_)⟩;obtain ⟨v,r,os',D2,E2,rfl,hp,hs',hv,_⟩:=he;rw[ah];exact hK _ _ _ (hrest r os' hp) ⟨D2,E2,hs'.aX hdn hv⟩
end
section
variable {c:cX} {A:ai} {o:Oper}
theorem oT{P:Program}{n:Nat}{bj:Array Oper}{g:aw}(h:mD P n bj o=some g):di P o=some g.op∧g.dst=o.dst∧(∀ k,o.dst=some k→k<n) ∧
  ((o.guard=none∧g.guard=none)∨∃ j b t,o.guard=some (j,b)∧(bj[j]?).bind (·.dst)=some t∧g.guard=some (t,b)):=by
 unfold mD at h;split at h
 ·cases h
 rename_i g' hg';split at h
 case isFalse=>cases h
 rename_i ah;have hdst:∀ k,o.dst=some k→k<n:=by
  intro k hk;rw[hk] at ah;simpa[B4] using ah
 split at h
 ·rename_i hgd;simp only[v6] at h;subst h;exact ⟨hg',rfl,hdst,.inl ⟨hgd,rfl⟩⟩
 ·rename_i j b hgd;split at h
  ·rename_i t ht;simp only[v6] at h;subst h;exact ⟨hg',rfl,hdst,.inr ⟨j,b,t,hgd,ht,rfl⟩⟩
  ·cases h
theorem C7{dr:Bool}{K:ai→Prop}{op:bS}{dst:Option Nat}{rest:List aw}{a:Act}{w:World}{Kw:Act→World→Prop}{Q:Exit→Act→World→Prop}(hop:di c.P o=some op)(ah:o.dst=dst)(hdn:∀ k,dst=some k→k<c.n)
  (hsim:b5 c A a w) (hK:∀ B a' w',aT c.P c.Y dr K (aA rest B)→b5 c B a' w'→Kw a' w') (h:aT c.P c.Y dr K (cT (bq A op) fun v=>aA rest (A.aX dst v))):o.wpIn c.bH 9 c.P a w Kw Q:=by
 cases hv:bq A op with
 |some v =>
  rw[hv] at h;exact ((E0 hop hv).does (by rw[ah];exact hdn)).wp hop hsim (fun a' w' hs=>by rw[ah] at hs;exact hK _ a' w' h hs)
 |none=>rw[hv] at h;cases h
theorem VI{dr:Bool}{K:ai→Prop}{dst:Option Nat}{rest:List aw}{a:Act}{w:World}{Kw:Act→World→Prop}{Q:Exit→Act→World→Prop}{z:I}(hop:di c.P o=some (.alloc z))(ah:o.dst=dst)(hdn:∀ k,dst=some k→k<c.n)
  (hwp:aT c.P c.Y dr K (bo A dst (.alloc z) rest (aA rest))) (hsim:b5 c A a w) (hK:∀ B a' w',aT c.P c.Y dr K (aA rest B)→b5 c B a' w'→Kw a' w'):o.wpIn c.bH 9 c.P a w Kw Q:=by
 have hop0:=hop;simp only[bo] at hwp;split at hwp
 case h_2=>cases hwp
 rename_i d;split at hwp
 case h_2=>cases hwp
 rename_i hf;unfold di at hop;split at hop <;>try (first | (simp at hop;done) | ((repeat' split at hop) <;>simp at hop;done))
 rename_i t ho;simp only[t7,bS.alloc.injEq] at hop;obtain ⟨z',hz,rfl⟩:=hop;exact (Nl ho hz ah (hdn d rfl) hf).wp hop0 hsim (fun a' w' hs=>hK _ a' w' hwp hs)
theorem VL{dr:Bool}{K:ai→Prop}{dst:Option Nat}{rest:List aw}{a:Act}{w:World}{Kw:Act→World→Prop}{Q:Exit→Act→World→Prop}{x:aR}(hop:di c.P o=some (.box x))(ah:o.dst=dst)(hdn:∀ k,dst=some k→k<c.n)
  (hwp:aT c.P c.Y dr K (bo A dst (.box x) rest (aA rest))) (hsim:b5 c A a w) (hK:∀ B a' w',aT c.P c.Y dr K (aA rest B)→b5 c B a' w'→Kw a' w'):o.wpIn c.bH 9 c.P a w Kw Q:=by
 have hop0:=hop;simp only[bo] at hwp;split at hwp
 case h_2=>cases hwp
 rename_i d;split at hwp
 case h_2=>cases hwp
 rename_i hf;split at hwp
 case isFalse=>cases hwp
 rename_i hv;unfold di at hop;split at hop <;>try (first | (simp at hop;done) | ((repeat' split at hop) <;>simp at hop;done))
 rename_i t y ho;simp only[t7,bS.box.injEq] at hop;obtain ⟨z',hz,rfl⟩:=hop;exact (Ns ho hz hv ah (hdn d rfl) hf).wp hop0 hsim (fun a' w' hs=>hK _ a' w' hwp hs)
theorem VX{dr:Bool}{K:ai→Prop}{dst:Option Nat}{rest:List aw}{a:Act}{w:World}{Kw:Act→World→Prop}{Q:Exit→Act→World→Prop}{s:Option Nat}{x v:aR}(hop:di c.P o=some (.bl s x v))(ah:o.dst=dst)(hdn:∀ k,dst=some k→k<c.n)
  (hwp:aT c.P c.Y dr K (bo A dst (.bl s x v) rest (aA rest))) (hsim:b5 c A a w) (hK:∀ B a' w',aT c.P c.Y dr K (aA rest B)→b5 c B a' w'→Kw a' w'):o.wpIn c.bH 9 c.P a w Kw Q:=by
 have hop0:=hop;simp only[bo] at hwp;split at hwp
 case h_2=>cases hwp
 split at hwp
 case h_2=>cases hwp
 rename_i n p hp;split at hwp
 case h_2=>cases hwp
 rename_i b hb;split at hwp
 case h_2=>cases hwp
 rename_i old hat;split at hwp
 case isFalse=>cases hwp
 rename_i hok;unfold di at hop;split at hop <;>try (first | (simp at hop;done) | ((repeat' split at hop) <;>simp at hop;done))
 rename_i t y z ho;split at hop
 case h_2=>cases hop
 rename_i s' x' v' U ab af;split at hop
 case isFalse=>cases hop
 rename_i hk;simp only[v6,bS.bl.injEq] at hop;obtain ⟨rfl,rfl,rfl⟩:=hop;exact (Nz ho U hk ab af hp hb hat hok.1 hok.2.1 hok.2.2 ah).wp hop0 hsim (fun a' w' hs=>hK _ a' w' hwp hs)
theorem VM{dr:Bool}{K:ai→Prop}{dst:Option Nat}{rest:List aw}{a:Act}{w:World}{Kw:Act→World→Prop}{Q:Exit→Act→World→Prop}{f:FuncId}{args:List aR}(hop:di c.P o=some (.call f args))(ah:o.dst=dst)(hdn:∀ k,dst=some k→k<c.n)
  (hwp:aT c.P c.Y dr K (bo A dst (.call f args) rest (aA rest))) (hsim:b5 c A a w) (hK:∀ B a' w',aT c.P c.Y dr K (aA rest B)→b5 c B a' w'→Kw a' w'):o.wpIn c.bH 9 c.P a w Kw Q:=by
 have hop0:=hop;simp only[bo] at hwp;unfold di at hop;split at hop <;>try (first | (simp at hop;done) | ((repeat' split at hop) <;>simp at hop;done))
 rename_i f' xs ts ho;split at hop
 case isFalse=>simp at hop
 simp only[t7,bS.call.injEq] at hop;obtain ⟨ys,hys,rfl,rfl⟩:=hop;refine wK (vs:=xs.toList.map a.eval) hop0 rfl rfl (fun D E hs=>lB hs xs.toList ts.toList ys hys) hsim hwp ah hdn (fun hc =>?_) hK;have e:xs.map a.eval=(xs.toList.map a.eval).toArray:=by apply Array.ext';simp
 simp only[execOp,ho,resolve,Act.eval,Deferred.ofValue,Sem.run_bind,Sem.run_pure,Result.andThen_ok,invoke,Array.append_empty,Array.empty_append,ou hc];rw[←e]
theorem VY{dr:Bool}{K:ai→Prop}{dst:Option Nat}{rest:List aw}{a:Act}{w:World}{Kw:Act→World→Prop}{Q:Exit→Act→World→Prop}{f:FuncId}{args:List aR}(hop:di c.P o=some (.kN f args))(ah:o.dst=dst)(hdn:∀ k,dst=some k→k<c.n)
  (hwp:aT c.P c.Y dr K (bo A dst (.kN f args) rest (aA rest))) (hsim:b5 c A a w) (hK:∀ B a' w',aT c.P c.Y dr K (aA rest B)→b5 c B a' w'→Kw a' w'):o.wpIn c.bH 9 c.P a w Kw Q:=by
 have hop0:=hop;simp only[bo] at hwp;unfold di at hop;split at hop <;>try (first | (simp at hop;done) | ((repeat' split at hop) <;>simp at hop;done))
 rename_i f' xs ts ho;split at hop
 case isTrue=>simp at hop
 simp only[t7,bS.kN.injEq] at hop;obtain ⟨ys,hys,rfl,rfl⟩:=hop;obtain ⟨D,E,hs⟩:=hsim;cases hwp with
 |ext r hdr hx hw =>
  obtain ⟨v,g1,g2⟩:=hx c a w D E (xs.toList.map a.eval) rfl hs (lB hs xs.toList ts.toList ys hys);have e:xs.map a.eval=(xs.toList.map a.eval).toArray:=by apply Array.ext';simp
  have hrun:(execOp a.eval o).run c.P w=.ok (.value v) w:=by
   simp only[execOp,ho,resolve,Act.eval,Deferred.ofValue,Sem.run_bind,Sem.run_pure,Result.andThen_ok,invoke,Array.append_empty,Array.empty_append];rw[←e] at g1;exact g1
  refine ⟨lA,?_⟩;rw[l8 hop0,hrun,Oper.uponIn_value];exact hK _ _ _ hw ⟨D,E,by rw[ah];exact hs.aX hdn g2⟩
theorem VR{dr:Bool}{K:ai→Prop}{dst:Option Nat}{rest:List aw}{a:Act}{w:World}{Kw:Act→World→Prop}{Q:Exit→Act→World→Prop} (hop:di c.P o=some (.jg))(ah:o.dst=dst)(hdn:∀ k,dst=some k→k<c.n)
  (hwp:aT c.P c.Y dr K (bo A dst (.jg) rest (aA rest))) (hsim:b5 c A a w) (hK:∀ B a' w',aT c.P c.Y dr K (aA rest B)→b5 c B a' w'→Kw a' w'):o.wpIn c.bH 9 c.P a w Kw Q:=by
 have hop0:=hop;simp only[bo] at hwp;split at hwp
 case h_2=>cases hwp
 rename_i d;split at hwp
 case h_2=>cases hwp
 rename_i hf;unfold di at hop;split at hop <;>try (first | (simp at hop;done) | ((repeat' split at hop) <;>simp at hop;done))
 rename_i t ho;exact (Nw ho ah (hdn d rfl) hf).wp hop0 hsim (fun a' w' hs=>hK _ a' w' hwp hs)
theorem VS{dr:Bool}{K:ai→Prop}{dst:Option Nat}{rest:List aw}{a:Act}{w:World}{Kw:Act→World→Prop}{Q:Exit→Act→World→Prop}{e:TypeId}{bytes:Nat}{z:I}{n:aR}(hop:di c.P o=some (.kV e bytes z n))(ah:o.dst=dst)(hdn:∀ k,dst=some k→k<c.n)
  (hwp:aT c.P c.Y dr K (bo A dst (.kV e bytes z n) rest (aA rest))) (hsim:b5 c A a w) (hK:∀ B a' w',aT c.P c.Y dr K (aA rest B)→b5 c B a' w'→Kw a' w'):o.wpIn c.bH 9 c.P a w Kw Q:=by
 have hop0:=hop;simp only[bo] at hwp;split at hwp
 case h_2=>cases hwp
 rename_i d;split at hwp
 case h_2=>cases hwp
 rename_i hf;split at hwp
 case h_2=>cases hwp
 rename_i k m hn;split at hwp
 case isFalse=>cases hwp
 rename_i hc;unfold di at hop;split at hop <;>try (first | (simp at hop;done) | ((repeat' split at hop) <;>simp at hop;done))
 rename_i t l l' ho;split at hop
 case h_2=>cases hop
 rename_i e' n' hu hl;split at hop
 case h_2=>cases hop
 rename_i z' hz;split at hop
 case isFalse=>cases hop
 rename_i hc2;simp only[v6,bS.kV.injEq] at hop;obtain ⟨rfl,rfl,rfl,rfl⟩:=hop;obtain ⟨j,rfl⟩:=Int.eq_ofNat_of_zero_le hc.1;simp only[Int.toNat_natCast] at hc hwp;exact (Nx ho (ZJ hc2.1) hu hl hn hz hc2.2.1 hc2.2.2 hc.2.1 hc.2.2 ah (hdn d rfl) hf).wp hop0 hsim (fun a' w' hs=>hK _ a' w' hwp hs)
theorem VT{dr:Bool}{K:ai→Prop}{dst:Option Nat}{rest:List aw}{a:Act}{w:World}{Kw:Act→World→Prop}{Q:Exit→Act→World→Prop}{ty:cD}{m k v:aR}(hop:di c.P o=some (.eX ty m k v))(ah:o.dst=dst)(hdn:∀ k,dst=some k→k<c.n)
  (hwp:aT c.P c.Y dr K (bo A dst (.eX ty m k v) rest (aA rest))) (hsim:b5 c A a w) (hK:∀ B a' w',aT c.P c.Y dr K (aA rest B)→b5 c B a' w'→Kw a' w'):o.wpIn c.bH 9 c.P a w Kw Q:=by
 have hop0:=hop;simp only[bo] at hwp;split at hwp
 case h_2=>cases hwp
 split at hwp
 case h_2=>cases hwp
 rename_i n hm;split at hwp
 case h_2=>cases hwp
 rename_i ks vs hn;split at hwp
 case h_2=>cases hwp
 rename_i ks' vs' hl;unfold di at hop;split at hop <;>try (first | (simp at hop;done) | ((repeat' split at hop) <;>simp at hop;done))
 all_goals
  rename_i t mo ko vo ho;split at hop
  case h_2=>cases hop
  rename_i kt et m' k' hu U ab;split at hop
  case h_2=>cases hop
  rename_i ty' v' hk af;simp only[v6,bS.eX.injEq] at hop;obtain ⟨rfl,rfl,rfl,rfl⟩:=hop
 ·exact (B1 (.inl ho) hu hk U ab af hm hn hl ah).wp hop0 hsim (fun a' w' hs=>hK _ a' w' hwp hs)
 ·exact (B1 (.inr ho) hu hk U ab af hm hn hl ah).wp hop0 hsim (fun a' w' hs=>hK _ a' w' hwp hs)
theorem VQ{dr:Bool}{K:ai→Prop}{dst:Option Nat}{rest:List aw}{a:Act}{w:World}{Kw:Act→World→Prop}{Q:Exit→Act→World→Prop}{ty:cD}{m k:aR}(hop:di c.P o=some (.jf ty m k))(ah:o.dst=dst)(hdn:∀ k,dst=some k→k<c.n)
  (hwp:aT c.P c.Y dr K (bo A dst (.jf ty m k) rest (aA rest))) (hsim:b5 c A a w) (hK:∀ B a' w',aT c.P c.Y dr K (aA rest B)→b5 c B a' w'→Kw a' w'):o.wpIn c.bH 9 c.P a w Kw Q:=by
 have hop0:=hop;simp only[bo] at hwp;split at hwp
 case h_2=>cases hwp
 split at hwp
 case h_2=>cases hwp
 rename_i n hm;split at hwp
 case h_2=>cases hwp
 rename_i ks vs hn;split at hwp
 case h_2=>cases hwp
 rename_i ks' vs' hl;unfold di at hop;split at hop <;>try (first | (simp at hop;done) | ((repeat' split at hop) <;>simp at hop;done))
 rename_i args tys ho;split at hop
 case h_2=>cases hop
 rename_i mo ko t t' ha ht;split at hop
 case h_2=>cases hop
 rename_i kt et m' k' hu U ab;simp only[t7,bS.jf.injEq] at hop;obtain ⟨ty',hk,rfl,rfl,rfl⟩:=hop;have ha':args = #[mo,ko]:=by apply Array.ext';simpa using ha
 have ht':tys = #[t,t']:=by apply Array.ext';simpa using ht
 subst ha' ht';exact (Nv ho hu hk U ab hm hn hl ah).wp hop0 hsim (fun a' w' hs=>hK _ a' w' hwp hs)
theorem VW{dr:Bool}{K:ai→Prop}{dst:Option Nat}{rest:List aw}{a:Act}{w:World}{Kw:Act→World→Prop}{Q:Exit→Act→World→Prop}{x:aR}(hop:di c.P o=some (.j9 x))(ah:o.dst=dst)(hdn:∀ k,dst=some k→k<c.n)
  (hwp:aT c.P c.Y dr K (bo A dst (.j9 x) rest (aA rest))) (hsim:b5 c A a w) (hK:∀ B a' w',aT c.P c.Y dr K (aA rest B)→b5 c B a' w'→Kw a' w'):o.wpIn c.bH 9 c.P a w Kw Q:=by
 have hop0:=hop;simp only[bo] at hwp;split at hwp
 case h_2=>cases hwp
 rename_i d;split at hwp
 case h_2=>cases hwp
 rename_i hf;split at hwp
 case h_2=>cases hwp
 rename_i ks vs hx;unfold di at hop;split at hop <;>try (first | (simp at hop;done) | ((repeat' split at hop) <;>simp at hop;done))
 rename_i t y ho;split at hop
 case h_2=>cases hop
 rename_i kt et hu;simp only[t7,bS.j9.injEq] at hop;obtain ⟨z,hz,rfl⟩:=hop;exact (Ny ho hu hz hx ah (hdn d rfl) hf).wp hop0 hsim (fun a' w' hs=>hK _ a' w' hwp hs)
theorem VV{dr:Bool}{K:ai→Prop}{dst:Option Nat}{rest:List aw}{a:Act}{w:World}{Kw:Act→World→Prop}{Q:Exit→Act→World→Prop}{x:aR}(hop:di c.P o=some (.iR x))(ah:o.dst=dst)(hdn:∀ k,dst=some k→k<c.n)
  (hwp:aT c.P c.Y dr K (bo A dst (.iR x) rest (aA rest))) (hsim:b5 c A a w) (hK:∀ B a' w',aT c.P c.Y dr K (aA rest B)→b5 c B a' w'→Kw a' w'):o.wpIn c.bH 9 c.P a w Kw Q:=by
 have hop0:=hop;simp only[bo] at hwp;split at hwp
 case h_2=>cases hwp
 rename_i n hx;split at hwp
 case h_2=>cases hwp
 rename_i ks vs left cur hn;unfold di at hop;split at hop <;>try (first | (simp at hop;done) | ((repeat' split at hop) <;>simp at hop;done))
 rename_i y ho;simp only[t7,bS.iR.injEq] at hop;obtain ⟨z,hz,rfl⟩:=hop;obtain ⟨D,E,hs⟩:=hsim;obtain ⟨w',v,hrun,hor⟩:=XG ho hz hx hn (by rw[ah];exact hdn) hs;refine ⟨lA,?_⟩;rw[l8 hop0,hrun,Oper.uponIn_value];rw[ah] at hor;split at hwp
 ·rename_i hl;rcases hor with ⟨_,hor⟩ | ⟨i,k,x,hi,_⟩
  ·exact hK _ _ _ hwp (by rw[ah];exact hor)
  ·rw[hl] at hi;cases hi
 ·rename_i hl;rcases hor with ⟨h,_⟩ | ⟨i,k,x,hi,hk,hx,hor⟩
  ·exact absurd h hl
  ·cases hwp with
   |any hdr hall =>
    have:=hall i hi;simp only[hk,hx] at this;exact hK _ _ _ this (by rw[ah];exact hor)
theorem VN{dr:Bool}{K:ai→Prop}{dst:Option Nat}{rest:List aw}{a:Act}{w:World}{Kw:Act→World→Prop}{Q:Exit→Act→World→Prop}{x:aR}{args:List aR}(hop:di c.P o=some (.fy x args))(ah:o.dst=dst)(hdn:∀ k,dst=some k→k<c.n)
  (hwp:aT c.P c.Y dr K (bo A dst (.fy x args) rest (aA rest))) (hsim:b5 c A a w) (hK:∀ B a' w',aT c.P c.Y dr K (aA rest B)→b5 c B a' w'→Kw a' w'):o.wpIn c.bH 9 c.P a w Kw Q:=by
 have hop0:=hop;simp only[bo] at hwp;unfold di at hop;split at hop <;>try (first | (simp at hop;done) | ((repeat' split at hop) <;>simp at hop;done))
 rename_i y xs ts _ ho;split at hop
 case h_2=>cases hop
 rename_i y' ys U ab;simp only[v6,bS.fy.injEq] at hop;obtain ⟨rfl,rfl⟩:=hop;obtain ⟨D,E,hs⟩:=hsim;have hv:=bZ hs U;split at hwp
 ·rename_i f caps hx;rw[hx] at hv;obtain ⟨cs,q1,q2⟩:=hv;simp only[al] at q2;obtain ⟨vs,q3,q4⟩:=q2;have hval:a.eval y=jU f vs:=by simpa[bG,I.isAgg,q3] using q1.symm
  have caps_ok:∀ D' E',aY c A a w D' E'→fJ (bg w D' E') caps vs:=fun D' E' hs'=>by
   have hv':=bZ hs' U;rw[hx] at hv';obtain ⟨cs',q1',q2'⟩:=hv';simp only[al] at q2';obtain ⟨vs',q3',q4'⟩:=q2';have hval':a.eval y=jU f vs':=by simpa[bG,I.isAgg,q3'] using q1'.symm
   rw[hval] at hval';have:=Ou hval';subst this;exact td q4'
  have e:xs.map a.eval=(xs.toList.map a.eval).toArray:=by apply Array.ext';simp
  rcases Nat.lt_or_ge f 1000000 with hf | hf
  ·rw[xf hf,xe hf] at hwp;rw[nX hf] at hval;refine wK (vs:=xs.toList.map a.eval++vs) hop0 rfl rfl (fun D' E' hs'=>(lB hs' xs.toList ts.toList ys ab).append (caps_ok D' E' hs')) ⟨D,E,hs⟩ hwp ah hdn (fun hc =>?_) hK;simp only[execOp,ho,resolve,hval,Deferred.ofValue,Sem.run_bind,Sem.run_pure,Result.andThen_ok,invoke,Array.empty_append,ou hc];rw[e];simp
  ·obtain ⟨g,rfl⟩:∃ g:Nat,f=g+1000000:=⟨Nat.sub f 1000000,(Nat.sub_add_cancel hf).symm⟩
   rw[uh,xd] at hwp;rw[r1] at hval;refine wK (vs:=vs++xs.toList.map a.eval) hop0 rfl rfl (fun D' E' hs'=>(caps_ok D' E' hs').append (lB hs' xs.toList ts.toList ys ab)) ⟨D,E,hs⟩ hwp ah hdn (fun hc =>?_) hK;simp only[execOp,ho,resolve,hval,Deferred.ofValue,Sem.run_bind,Sem.run_pure,Result.andThen_ok,invoke,Array.append_empty,ou hc];rw[e];simp
 ·rename_i u hx;rw[hx] at hv;obtain ⟨cs,q1,q2⟩:=hv;simp only[al] at q2;have hval:a.eval y=u:=by simpa[bG,I.isAgg,q2.1] using q1.symm
  refine Ku (vs:=xs.toList.map a.eval) hop0 (fun D' E' hs'=>lB hs' xs.toList ts.toList ys ab) ⟨D,E,hs⟩ hwp ah hdn (fun l hl =>?_) hK;subst hl;have e:xs.map a.eval=(xs.toList.map a.eval).toArray:=by apply Array.ext';simp
  simp only[execOp,ho,resolve,hval,Deferred.ofValue,Sem.run_bind,Sem.run_pure,Result.andThen_ok,invoke,Array.empty_append];rw[e]
 ·cases hwp
theorem VU{dr:Bool}{K:ai→Prop}{dst:Option Nat}{rest:List aw}{a:Act}{w:World}{Kw:Act→World→Prop}{Q:Exit→Act→World→Prop}{neg:Bool}{x:aR}(hop:di c.P o=some (.nilS neg x))(ah:o.dst=dst)(hdn:∀ k,dst=some k→k<c.n)
  (hwp:aT c.P c.Y dr K (bo A dst (.nilS neg x) rest (aA rest))) (hsim:b5 c A a w) (hK:∀ B a' w',aT c.P c.Y dr K (aA rest B)→b5 c B a' w'→Kw a' w'):o.wpIn c.bH 9 c.P a w Kw Q:=by
 have hop0:=hop;simp only[bo] at hwp;split at hwp
 case isFalse=>exact C7 hop ah hdn hsim hK hwp
 rename_i hu;cases hwp with
 |any hdr hall =>
 unfold di at hop;split at hop <;>try (first | (simp at hop;done) | ((repeat' split at hop) <;>simp at hop;done))
 rename_i bop t y z yt ho;split at hop
 ·simp at hop
 ·simp at hop
 ·rename_i e y' z' hut U ab;split at hop
  ·rename_i s;split at hop
   ·rename_i hopp;simp only[v6,bS.nilS.injEq] at hop;obtain ⟨rfl,rfl⟩:=hop;have ho':o.op=.binOp (if (bop==.neq)=true then .neq else .eql) t y z yt:=by
     rcases hopp with rfl | rfl <;>simpa using ho
    obtain ⟨D,E,hs⟩:=hsim;have hund:∃ sz,ak A y'=.slice sz []∨ak A y'=.c0 sz:=by
     generalize ak A y'=q at hu;cases q <;>simp only[kg,zz3,List.isEmpty_iff] at hu
     ·rename_i sz;exact ⟨sz,.inr rfl⟩
     ·rename_i sz es;subst hu;exact ⟨sz,.inl rfl⟩
    obtain ⟨b,hrun⟩:=XH ho' hut U ab hund hs;refine ⟨lA,?_⟩;rw[l8 hop0,hrun,Oper.uponIn_value];have hb:=hall (if b then 0 else 1) (by cases b <;>simp);refine hK _ _ _ hb ⟨D,E,?_⟩;rw[ah];have e:((if b=true then (0:Nat) else 1)==0)=b:=by cases b <;>rfl
    rw[e];exact hs.aX hdn (ph b)
   ·cases hop
  ·cases hop
 ·split at hop <;>simp at hop
 ·split at hop <;>simp at hop
 ·cases hop
theorem VJ{dr:Bool}{K:ai→Prop}{dst:Option Nat}{rest:List aw}{a:Act}{w:World}{Kw:Act→World→Prop}{Q:Exit→Act→World→Prop}{e:TypeId}{esz bytes:Nat}{z:I}{s x:aR}(hop:di c.P o=some (.dB e esz bytes z s x))(ah:o.dst=dst)(hdn:∀ k,dst=some k→k<c.n)
  (hwp:aT c.P c.Y dr K (bo A dst (.dB e esz bytes z s x) rest (aA rest))) (hsim:b5 c A a w) (hK:∀ B a' w',aT c.P c.Y dr K (aA rest B)→b5 c B a' w'→Kw a' w'):o.wpIn c.bH 9 c.P a w Kw Q:=by
 have hop0:=hop;simp only[bo] at hwp;unfold di at hop;split at hop <;>try (first | (simp at hop;done) | ((repeat' split at hop) <;>simp at hop;done))
 rename_i args tys ho;split at hop
 case h_2=>cases hop
 rename_i y q t t' ha ht;split at hop
 case h_2=>cases hop
 rename_i e' s' x' k1 k2 k3;split at hop
 case isFalse=>split at hop <;>simp at hop
 rename_i hk;simp only[t7,bS.dB.injEq] at hop;obtain ⟨zz,hz1,rfl,rfl,rfl,rfl,rfl,rfl⟩:=hop;obtain ⟨rfl,hk2,hk3⟩:=hk;have ha':args = #[y,q]:=by apply Array.ext';simpa using ha
 have ht':tys = #[t,t]:=by apply Array.ext';simpa using ht
 subst ha' ht';rw[hz1] at hk3;simp only[zy2,v6] at hk3;have hinfo:(c.P.info? e').isSome=true:=by
  obtain ⟨ti,_,hti,_⟩:=mq hz1;rw[hti];rfl
 have grow:∀ es ys,eC A (c.P.cellsOf e') (ak A s')=some es→eC A (c.P.cellsOf e') (ak A x')=some ys→ys≠[]→(∀ a w D E,aY c A a w D E→∀ ad l cp,a.eval y=.slice ad l cp→cp<l+ys.length) →
   aT c.P c.Y dr K (gn A dst (c.P.cellsOf e') (c.P.bytesOf e') zz es ys (aA rest))→o.wpIn c.bH 9 c.P a w Kw Q:=fun es ys hse hsx hne hfull h=>by
  simp only[gn] at h;split at h
  case h_2=>cases h
  rename_i d;split at h
  case h_2=>cases h
  rename_i hf;split at h
  case isFalse=>cases h
  rename_i hb;cases h with
  |any hdr hall =>
   obtain ⟨D,E,hs⟩:=hsim;obtain ⟨v,w',m,g1,g2,g3⟩:=IW ho k1 k2 k3 hz1 hk3 hse hsx hb.1 ah (hdn d rfl) hf hne hs (hfull a w D E hs) hb.2;refine ⟨lA,?_⟩;rw[l8 hop0,g1,Oper.uponIn_value,ah];rw[ah] at g3;exact hK _ _ _ (hall m g2) g3
 split at hwp
 ·rename_i n l hs';split at hwp
  case h_2=>cases hwp
  rename_i sz ys hx';split at hwp
  case h_3=>cases hwp
  case h_2 =>
   rename_i T xs hn;split at hwp
   case isFalse=>cases hwp
   rename_i hok;obtain ⟨U,ab,af,aq,h5,h6,h7,h8⟩:=hok;subst af aq;have hl5:ys.length=(sa ys).length:=(congrArg List.length h5).trans (by simp);rw[hl5] at h7 h8 hwp;rw[h5] at hx';have hd':=Np (o:=o) ho k1 k2 k3 hz1 ab hs' hn U hx' (fun e=>h6 (by rw[h5,e];rfl)) h7 h8 (by rw[ah];exact hdn);exact hd'.wp hop0 hsim (fun a' w' hs=>by rw[ah] at hs;exact hK _ a' w' hwp hs)
  rename_i T sz' es hn;split at hwp
  case isFalse=>cases hwp
  rename_i hok;obtain ⟨U,ab,af,aq,h5,h6,h7⟩:=hok;subst ab af aq;have hd':=Nn (o:=o) ho k1 k2 k3 hz1 hk3 hk2 hs' hn U hx' rfl h5 h6 h7 (by rw[ah];exact hdn);exact hd'.wp hop0 hsim (fun a' w' hs=>by rw[ah] at hs;exact hK _ a' w' hwp hs)
 ·simp only[fb] at hwp;split at hwp
  case h_2=>cases hwp
  rename_i es ys hse hsx;split at hwp
  ·rename_i hne;subst hne;exact ((Nr ho k1 hinfo k2 k3 hse hsx).does (by rw[ah];exact hdn)).wp hop0 hsim (fun a' w' hs=>by rw[ah] at hs;exact hK _ a' w' hwp hs)
  ·rename_i hne;have hpos:0<ys.length:=List.length_pos_iff.2 hne;split at hwp
   ·rename_i z0 hsv;refine grow es ys hse hsx hne (fun a w D E hs ad l cp hv =>?_) hwp;have aZ:=bZ hs k2;rw[hsv] at aZ;obtain ⟨cs,q1,q2⟩:=aZ;simp only[al] at q2;have:a.eval y=.slice none 0 0:=by simpa[bG,I.isAgg,q2] using q1.symm
    rw[this] at hv;simp only[Value.slice.injEq] at hv;omega
   ·rename_i z0 hsv;refine grow es ys hse hsx hne (fun a w D E hs ad l cp hv =>?_) hwp;have aZ:=bZ hs k2;rw[hsv] at aZ;obtain ⟨cs,q1,q2⟩:=aZ;simp only[al] at q2;obtain ⟨ad',q2⟩:=q2;have:a.eval y=.slice ad' 0 0:=by simpa[bG,I.isAgg,q2] using q1.symm
    rw[this] at hv;simp only[Value.slice.injEq] at hv;omega
   ·rename_i n p sz lo l hsv;split at hwp
    case h_2=>cases hwp
    rename_i b hn;split at hwp
    case h_2=>cases hwp
    rename_i fs hat;split at hwp
    ·rename_i hroom;split at hwp
     case isFalse=>cases hwp
     rename_i hok;obtain ⟨rfl,hsh⟩:=hok;exact (Nq ho k1 hinfo k2 k3 hsv hn hat hsx hroom hsh (by rw[ah];exact hdn)).wp hop0 hsim (fun a' w' hs=>by rw[ah] at hs;exact hK _ a' w' hwp hs)
    ·rename_i hroom;refine grow es ys hse hsx hne (fun a w D E hs ad l' cp hv =>?_) hwp;have aZ:=bZ hs k2;rw[hsv] at aZ;obtain ⟨_,bb,cs,T,off,c1,c2,c3,_,_,_,_,_,_,_,_,_,_,lX,j5,lY⟩:=hs.view (fs:=fs) aZ (by simp only[cJ,hn,hat]);rw[lY] at hv;simp only[Value.slice.injEq] at hv;omega
   ·cases hwp
theorem VK{dr:Bool}{K:ai→Prop}{dst:Option Nat}{rest:List aw}{a:Act}{w:World}{Kw:Act→World→Prop}{Q:Exit→Act→World→Prop}{e:TypeId}{esz bytes:Nat}{z:I}{s n:aR}(hop:di c.P o=some (.mA e esz bytes z s n))(ah:o.dst=dst)(hdn:∀ k,dst=some k→k<c.n)
  (hwp:aT c.P c.Y dr K (bo A dst (.mA e esz bytes z s n) rest (aA rest))) (hsim:b5 c A a w) (hK:∀ B a' w',aT c.P c.Y dr K (aA rest B)→b5 c B a' w'→Kw a' w'):o.wpIn c.bH 9 c.P a w Kw Q:=by
 have hop0:=hop;simp only[bo] at hwp;unfold di at hop;split at hop <;>try (first | (simp at hop;done) | ((repeat' split at hop) <;>simp at hop;done))
 rename_i args tys ho;split at hop
 case h_2=>cases hop
 rename_i y q t t' ha ht;split at hop
 case h_2=>cases hop
 rename_i e' s' x' k1 k2 k3;split at hop
 case isTrue=>simp at hop
 split at hop
 case isFalse=>cases hop
 rename_i hk;simp only[t7,bS.mA.injEq] at hop;obtain ⟨zz,hz1,rfl,rfl,rfl,rfl,rfl,rfl⟩:=hop;obtain ⟨hint,hk2,hk3⟩:=hk;have ha':args = #[y,q]:=by apply Array.ext';simpa using ha
 have ht':tys = #[t,t']:=by apply Array.ext';simpa using ht
 subst ha' ht';rw[hz1] at hk3;simp only[zy2,v6] at hk3;obtain ⟨kt,hkt⟩:∃ kt,c.P.underlying t'=some (.int kt):=by
  cases hu:c.P.underlying t' with
  |none=>rw[hu] at hint;cases hint
  |some dsc=>cases dsc <;>rw[hu] at hint <;>first | exact ⟨_,rfl⟩ | cases hint
 split at hwp
 case h_2=>cases hwp
 rename_i kx cd hx';simp only[we] at hwp;split at hwp
 case h_2=>cases hwp
 rename_i es hse;split at hwp
 case h_2=>cases hwp
 rename_i nn p sz lo l hsv;split at hwp
 case h_2=>cases hwp
 rename_i bb hn;split at hwp
 case h_2=>cases hwp
 rename_i fs hat;split at hwp
 case isFalse=>cases hwp
 rename_i hroom;simp only[gn] at hwp;split at hwp
 case h_2=>cases hwp
 rename_i d;split at hwp
 case h_2=>cases hwp
 rename_i hf;split at hwp
 case isFalse=>cases hwp
 rename_i hb;rw[List.length_replicate] at hb;cases hwp with
 |any hdr hall =>
  obtain ⟨D,E,hs⟩:=hsim;obtain ⟨v,w',m,g1,g2,g3⟩:=IX ho k1 k2 k3 hkt hx' rfl hroom.1 hk2 hz1 hk3 hse hb.1 ah (hdn d rfl) hf hs (fun ad l' cp hv=>by
   have aZ:=bZ hs k2;rw[hsv] at aZ;have hsv':=hse;obtain ⟨_,b1,cs,T,off,c1,c2,c3,_,_,_,_,_,_,_,_,_,_,lX,j5,lY⟩:=hs.view (fs:=fs) aZ (by simp only[cJ,hn,hat]);rw[lY] at hv;simp only[Value.slice.injEq] at hv;have hel:es.length=l:=by
    rw[hsv] at hse;simp only[eC,cJ,hn,hat] at hse;split at hse
    ·simp only[v6] at hse;rw[←hse,zx7,List.length_drop];omega
    ·cases hse
   omega) hb.2
  refine ⟨lA,?_⟩;rw[l8 hop0,g1,Oper.uponIn_value,ah];rw[ah] at g3;have:=hall m (by rw[List.length_replicate];exact g2);rw[List.length_replicate] at this;exact hK _ _ _ this g3
theorem VO{dr:Bool}{K:ai→Prop}{dst:Option Nat}{rest:List aw}{a:Act}{w:World}{Kw:Act→World→Prop}{Q:Exit→Act→World→Prop}{esz:Nat}{z:I}{x:aR}(hop:di c.P o=some (.jQ esz z x))(ah:o.dst=dst)(hdn:∀ k,dst=some k→k<c.n)
  (hwp:aT c.P c.Y dr K (bo A dst (.jQ esz z x) rest (aA rest))) (hsim:b5 c A a w) (hK:∀ B a' w',aT c.P c.Y dr K (aA rest B)→b5 c B a' w'→Kw a' w'):o.wpIn c.bH 9 c.P a w Kw Q:=by
 have hop0:=hop;simp only[bo] at hwp;split at hwp
 case h_2=>cases hwp
 unfold di at hop;split at hop <;>try (first | (simp at hop;done) | ((repeat' split at hop) <;>simp at hop;done))
 rename_i args tys ho;split at hop
 case h_2=>cases hop
 rename_i y t ha ht;split at hop
 case h_2=>cases hop
 rename_i e' x' k1 k2;simp only[t7,bS.jQ.injEq] at hop;obtain ⟨zz,hz1,rfl,rfl,rfl⟩:=hop;have ha':args = #[y]:=by apply Array.ext';simpa using ha
 have ht':tys = #[t]:=by apply Array.ext';simpa using ht
 subst ha' ht';have nothing:aT c.P c.Y dr K (aA rest A)→(∀ a w D E,aY c A a w D E→∃ ad cp,a.eval y=.slice ad 0 cp)→o.wpIn c.bH 9 c.P a w Kw Q:=fun h hv=>by
  obtain ⟨D,E,hs⟩:=hsim;obtain ⟨ad,cp,hv⟩:=hv a w D E hs;refine ⟨lA,?_⟩;have hrun:(execOp a.eval o).run c.P w=.ok (.value (.tuple #[])) w:=by
   cases ad <;>simp[execOp,ho,resolve,invoke,builtin,Builtin.clear_,run_underlying k1,hv]
  rw[l8 hop0,hrun,Oper.uponIn_value,ah];exact hK _ _ _ h ⟨D,E,hs⟩
 unfold nS at hwp;split at hwp
 ·rename_i n p sz lo l hv;split at hwp
  case h_2=>cases hwp
  rename_i b hn;split at hwp
  case h_2=>cases hwp
  rename_i fs hat;split at hwp
  case isFalse=>cases hwp
  rename_i hok;obtain ⟨rfl,hsh⟩:=hok;exact (Nt ho k1 k2 hz1 hv hn hat hsh ah).wp hop0 hsim (fun a' w' hs=>hK _ a' w' hwp hs)
 ·rename_i z0 hv;refine nothing hwp fun a w D E hs =>?_;have aZ:=bZ hs k2;rw[hv] at aZ;obtain ⟨cs,q1,q2⟩:=aZ;simp only[al] at q2;exact ⟨none,0,by simpa[bG,I.isAgg,q2] using q1.symm⟩
 ·rename_i z0 hv;refine nothing hwp fun a w D E hs =>?_;have aZ:=bZ hs k2;rw[hv] at aZ;obtain ⟨cs,q1,q2⟩:=aZ;simp only[al] at q2;obtain ⟨ad,q2⟩:=q2;exact ⟨ad,0,by simpa[bG,I.isAgg,q2] using q1.symm⟩
 ·cases hwp
theorem VP{dr:Bool}{K:ai→Prop}{dst:Option Nat}{rest:List aw}{a:Act}{w:World}{Kw:Act→World→Prop}{Q:Exit→Act→World→Prop}{esz:Nat}{x y:aR}(hop:di c.P o=some (.lI esz x y))(ah:o.dst=dst)(hdn:∀ k,dst=some k→k<c.n)
  (hwp:aT c.P c.Y dr K (bo A dst (.lI esz x y) rest (aA rest))) (hsim:b5 c A a w) (hK:∀ B a' w',aT c.P c.Y dr K (aA rest B)→b5 c B a' w'→Kw a' w'):o.wpIn c.bH 9 c.P a w Kw Q:=by
 have hop0:=hop;simp only[bo] at hwp;unfold di at hop;split at hop <;>try (first | (simp at hop;done) | ((repeat' split at hop) <;>simp at hop;done))
 rename_i args tys ho;split at hop
 case h_2=>cases hop
 rename_i u v t t' ha ht;split at hop
 case h_2=>cases hop
 rename_i e' x' y' k1 k2 k3;split at hop
 case isFalse=>cases hop
 rename_i hk;simp only[v6,bS.lI.injEq] at hop;obtain ⟨rfl,rfl,rfl⟩:=hop;obtain ⟨rfl,hinfo⟩:=hk;have ha':args = #[u,v]:=by apply Array.ext';simpa using ha
 have ht':tys = #[t,t]:=by apply Array.ext';simpa using ht
 subst ha' ht';unfold ua at hwp;split at hwp
 ·rename_i n p sz lo l ys hv hsx;split at hwp
  case h_2=>cases hwp
  rename_i b hn;split at hwp
  case h_2=>cases hwp
  rename_i fs hat;split at hwp
  case isFalse=>cases hwp
  rename_i hok;obtain ⟨rfl,hsh⟩:=hok;exact (Nu ho k1 hinfo k2 k3 hv hn hat hsx rfl hsh (by rw[ah];exact hdn)).wp hop0 hsim (fun a' w' hs=>by rw[ah] at hs;exact hK _ a' w' hwp hs)
 ·cases hwp
theorem uu{dr:Bool}{K:ai→Prop}{op:bS}{dst:Option Nat}{rest:List aw}{a:Act}{w:World}{Kw:Act→World→Prop}{Q:Exit→Act→World→Prop}(hop:di c.P o=some op)(ah:o.dst=dst)(hdn:∀ k,dst=some k→k<c.n)
  (hwp:aT c.P c.Y dr K (bo A dst op rest (aA rest))) (hsim:b5 c A a w) (hK:∀ B a' w',aT c.P c.Y dr K (aA rest B)→b5 c B a' w'→Kw a' w'):o.wpIn c.bH 9 c.P a w Kw Q:=by
 cases op with
 |alloc z=>exact VI hop ah hdn hwp hsim hK
 |box x=>exact VL hop ah hdn hwp hsim hK
 |bl s x v=>exact VX hop ah hdn hwp hsim hK
 |call f args=>exact VM hop ah hdn hwp hsim hK
 |kN f args=>exact VY hop ah hdn hwp hsim hK
 |jg=>exact VR hop ah hdn hwp hsim hK
 |kV e bytes z n=>exact VS hop ah hdn hwp hsim hK
 |eX ty m k v=>exact VT hop ah hdn hwp hsim hK
 |jf ty m k=>exact VQ hop ah hdn hwp hsim hK
 |j9 x=>exact VW hop ah hdn hwp hsim hK
 |iR x=>exact VV hop ah hdn hwp hsim hK
 |fy x args=>exact VN hop ah hdn hwp hsim hK
 |nilS neg x=>exact VU hop ah hdn hwp hsim hK
 |dB e esz bytes z s x=>exact VJ hop ah hdn hwp hsim hK
 |mA e esz bytes z s n=>exact VK hop ah hdn hwp hsim hK
 |jQ esz z x=>exact VO hop ah hdn hwp hsim hK
 |lI esz x y=>exact VP hop ah hdn hwp hsim hK
 |_=>exact C7 hop ah hdn hsim hK (by simpa only[bo] using hwp)
theorem uA{j t:Nat}{bj:Array Oper}{a:Act}{w:World}{b b':Bool}(hs:b5 c A a w)(hg:o.guard=some (j,b))(ht:(bj[j]?).bind (·.dst)=some t)(hv:A.t t=.bool b'):Region.wanted o (yielded bj a.tmps)=(b'==b):=by
 obtain ⟨D,E,hs⟩:=hs;have h:=hs.dN t;rw[hv] at h;have h:=lg h;have hy:yielded bj a.tmps j=some b':=by
  unfold yielded;rw[ht];simp only[Option.bind_some];simp only[Array.getD_eq_getD_getElem?] at h;cases hh:a.tmps[t]? with
  |none=>simp[hh,undef] at h
  |some v=>simp only[hh,Option.getD_some] at h;subst h;rfl
 unfold Region.wanted;rw[hg];simp only[hy];cases b <;>cases b' <;>rfl
theorem uB{j t:Nat}{bj:Array Oper}{a:Act}{w:World}{b:Bool}(hs:b5 c A a w)(hg:o.guard=some (j,b))(ht:(bj[j]?).bind (·.dst)=some t)(hv:A.t t=.undef):Region.wanted o (yielded bj a.tmps)=false:=by
 obtain ⟨D,E,hs⟩:=hs;have h:=hs.dN t;rw[hv] at h;simp only[bg] at h;have hy:yielded bj a.tmps j=none:=by
  unfold yielded;rw[ht];simp only[Option.bind_some];simp only[Array.getD_eq_getD_getElem?] at h;cases hh:a.tmps[t]? with
  |none=>rfl
  |some v=>simp only[hh,Option.getD_some] at h;subst h;rfl
 unfold Region.wanted;rw[hg];simp only[hy];rfl
theorem b5.oi{a:Act}{w:World}(h:b5 c A a w){d:Option Nat}(ah:∀ k,d=some k→k<c.n):b5 c (A.aX d .undef) (a.put d undef) w:=by
 obtain ⟨D,E,h⟩:=h;exact ⟨D,E,h.aX ah (by simp[bg])⟩
theorem uz{dr:Bool}{K:ai→Prop}{bj:Array Oper}{Q:Exit→Act→World→Prop}(hQ:∀ B a w,K B→b5 c B a w→Q .normal a w):∀ (l:List Oper) (gs:List aw) (A:ai) (a:Act) (w:World),gu c.P c.n bj l=some gs→aT c.P c.Y dr K (aA gs A) →
  b5 c A a w→wpListIn c.bH 9 c.P bj Q l a w
 | [],gs,A,a,w,hc,hwp,hs=>by
  simp only[gu,v6] at hc;subst hc;simp only[aA] at hwp;cases hwp with
  |done hk=>exact hQ A a w hk hs
 |o::l,gs,A,a,w,hc,hwp,hs=>by
  simp only[gu] at hc;split at hc
  case h_2=>cases hc
  rename_i g gs' hg hgs;simp only[v6] at hc;subst hc;obtain ⟨U,ab,af,aq⟩:=oT hg;have step:aT c.P c.Y dr K (bo A g.dst g.op gs' (aA gs'))→o.wpIn c.bH 9 c.P a w (wpListIn c.bH 9 c.P bj Q l) Q:=fun h =>
   uu U ab.symm (by rw[ab];exact af) h hs (fun B a' w' hw hs'=>uz hQ l gs' B a' w' hgs hw hs')
  simp only[wpListIn];simp only[aA] at hwp;rcases aq with ⟨h5,h6⟩ | ⟨j,b,t,h5,h6,h7⟩
  ·rw[h6] at hwp;have hw:Region.wanted o (yielded bj a.tmps)=true:=by simp[Region.wanted,h5]
   rw[hw,if_pos rfl];exact step hwp
  ·rw[h7] at hwp;simp only at hwp;split at hwp
   ·rename_i b' hb';rw[uA hs h5 h6 hb'];split at hwp
    ·rename_i hbb;subst hbb;simp only[BEq.rfl,if_true];exact step hwp
    ·rename_i hbb;have:(b'==b)=false:=by simpa using hbb
     rw[this];simp only[zz3,if_false];exact ⟨fun f _=>mK c f,uz hQ l gs' _ _ w hgs hwp (by rw[ab];exact hs.oi af)⟩
   ·rename_i hb';rw[uB hs h5 h6 hb'];simp only[zz3,if_false];exact ⟨fun f _=>mK c f,uz hQ l gs' _ _ w hgs hwp (by rw[ab];exact hs.oi af)⟩
   ·cases hwp
end
def aR.sl:aR→List Nat
 | .t n=>[n]
 | .c _=>[]
def uW:Option aR→List Nat
 |some x=>x.sl
 |none=>[]
def kc(l:List aR):List Nat:=l.flatMap aR.sl
def bS.cU:bS→List Nat
 | .mv x=>x.sl
 | .pick c a b=>c.sl++(a.sl++b.sl)
 | .bin _ x y=>x.sl++y.sl
 | .eqv _ _ x y=>x.sl++y.sl
 | .nilS _ x=>x.sl
 | .conv _ x=>x.sl
 | .un _ x=>x.sl
 | .ld _ x=>x.sl
 | .fa _ _ x=>x.sl
 | .fl _ _ _ x=>x.sl
 | .ia _ _ x i=>x.sl++i.sl
 | .is _ x i=>x.sl++i.sl
 | .ix _ _ _ x i=>x.sl++i.sl
 | .len x=>x.sl
 | .lenT x=>x.sl
 | .va _ _ x=>x.sl
 | .sl _ x lo hi mx=>x.sl++(uW lo++(uW hi++uW mx))
 | .bld _ ps=>kc (ps.map (·.2))
 | .bs _ _ ps=>kc ps
 | .ext x _=>x.sl
 | .mk _ caps=>kc caps
 | .alloc _=>[]
 | .box x=>x.sl
 | .bl _ x v=>x.sl++v.sl
 | .dB _ _ _ _ s x=>s.sl++x.sl
 | .mA _ _ _ _ s x=>s.sl++x.sl
 | .cap x=>x.sl
 | .bs0 _=>[]
 | .jQ _ _ x=>x.sl
 | .lI _ x y=>x.sl++y.sl
 | .call _ args=>kc args
 | .fy x args=>x.sl++kc args
 | .kN _ args=>kc args
 | .nilC x=>x.sl
 | .ptrE _ x y=>x.sl++y.sl
 | .max2 x y=>x.sl++y.sl
 | .kV _ _ _ n=>n.sl
 | .jg=>[]
 | .lk _ _ _ m k=>m.sl++k.sl
 | .eX _ m k v=>m.sl++(k.sl++v.sl)
 | .jf _ m k=>m.sl++k.sl
 | .j9 x=>x.sl
 | .iR x=>x.sl
 | .ent x=>x.sl
def aw.cU(g:aw):List Nat:=g.op.cU++(match g.guard with | some (t,_)=>[t] | none=>[])
def bS.gZ:bS→Nat
 | .mv _ | .pick .. | .bin .. | .eqv .. | .nilS .. | .conv .. | .un .. | .fl .. | .ix .. | .lenT _ | .bld .. | .ext .. | .mk .. | .nilC _ | .ptrE .. | .max2 .. =>0
 | .ld .. | .fa .. | .ia .. | .is .. | .len _ | .va .. | .bs .. | .sl .. | .cap _ | .bs0 _ | .lk .. | .ent _=>1
 | .call .. | .fy .. =>2
 | .alloc _ | .box _=>3
 | .bl .. =>4
 | .dB .. | .mA .. | .jQ .. | .lI .. | .kN .. | .kV .. | .jg | .eX .. | .jf .. | .j9 _ | .iR _=>5
def wP(a b:Nat):Bool:=(decide (a≤2)&&decide (b≤3))||(a==0&&b==4)
def nY(g h:aw):Bool:=wP g.op.gZ h.op.gZ&&(match g.dst with
  |some d => !h.cU.contains d&&h.dst != some d
  |none=>true)&&(match h.dst with
  |some d => !g.cU.contains d
  |none=>true)
def ed(A A':ai)(l:List Nat):Prop:=∀ k∈l,A'.t k=A.t k
section
variable {A A':ai}
theorem dc{x:aR}(h:ed A A' x.sl):ak A' x=ak A x:=by
 cases x with
 |t n=>exact h n (by simp[aR.sl])
 |c x=>rfl
theorem ed.l{l m:List Nat}(h:ed A A' (l++m)):ed A A' l:=fun k hk=>h k (List.mem_append_left _ hk)
theorem ed.r{l m:List Nat}(h:ed A A' (l++m)):ed A A' m:=fun k hk=>h k (List.mem_append_right _ hk)
theorem mI:∀ {l:List aR},ed A A' (kc l)→l.map (ak A')=l.map (ak A)
 | [],_=>rfl
 |x::l,h=>by
  simp only[kc,List.flatMap_cons] at h;simp only[zz4,dc h.l,mI (l:=l) h.r]
theorem qw{x:Option aR}(h:ed A A' (uW x)):x.map (ak A')=x.map (ak A):=by
 cases x with
 |none=>rfl
 |some x=>simp only[zy2,dc (x:=x) h]
theorem Cf:∀ {l:List (Nat×aR)},ed A A' (kc (l.map (·.2)))→(l.map fun p=>(p.1,ak A' p.2))=l.map fun p=>(p.1,ak A p.2)
 | [],_=>rfl
 |x::l,h=>by
  simp only[kc,zz4,List.flatMap_cons] at h;simp only[zz4,dc h.l,Cf (l:=l) h.r]
theorem sy{f g:I→Option I}(h:∀ x v,f x=some v→g x=some v):∀ {xs vs:List I},fZ f xs=some vs→fZ g xs=some vs
 | [],vs,hx=>by simpa only[fZ] using hx
 |x::xs,vs,hx=>by
  simp only[fZ] at hx ⊢;cases U:f x with
  |none=>rw[U] at hx;cases hx
  |some y=>cases ab:fZ f xs with
   |none=>rw[U,ab] at hx;cases hx
   |some ys=>rw[U,ab] at hx;rw[h x y U,sy h ab];exact hx
theorem xk(hu:ep A A'):∀ (k:Nat) (x v:I),c4 A k x=some v→c4 A' k x=some v
 |0,_,_,h=>by simp[c4] at h
 |k+1,x,v,h=>by
  have ih:=xk hu k;simp only[c4] at h ⊢;split at h
  ·rename_i hc;rw[if_pos hc];exact h
  ·rename_i hc;rw[if_neg hc];cases x <;>simp only[] at h ⊢ <;>try (cases h;done)
   case agg fs =>
    simp only[t7] at h ⊢;obtain ⟨a,U,ab⟩:=h;exact ⟨a,sy ih U,ab⟩
   case func f fs =>
    split at h
    case isFalse hf=>rw[if_neg hf];exact h
    rename_i hf;rw[if_pos hf];simp only[t7] at h ⊢;obtain ⟨a,U,ab⟩:=h;exact ⟨a,sy ih U,ab⟩
   case ptr n p =>
    cases ah:cJ A (.ptr n p) with
    |none=>rw[ah] at h;cases h
    |some y =>
     rw[ah] at h;rw[jR hu ah];simp only[t7] at h ⊢;obtain ⟨a,U,ab⟩:=h;exact ⟨a,ih _ _ U,ab⟩
   case view n p sz lo l =>
    cases ah:cJ A (.ptr n p) with
    |none=>rw[ah] at h;cases h
    |some y=>rw[ah] at h;rw[jR hu ah];exact h
   case mref n =>
    cases ho:A.o n with
    |none=>rw[ho] at h;cases h
    |some y =>
     rw[ho] at h;rw[hu n y ho];cases y <;>try (cases h;done)
     simp only at h ⊢;split at h
     ·rename_i hk;rw[if_pos hk];simp only[t7] at h ⊢;obtain ⟨a,U,ab⟩:=h;exact ⟨a,sy ih U,ab⟩
     ·cases h
   case own n l =>
    cases ho:A.o n with
    |none=>rw[ho] at h;cases h
    |some y=>rw[ho] at h;rw[hu n y ho];exact h
mutual
theorem Ct(hu:ep A A'){aJ:Bool} : ∀ {x v:I},bn aJ A x=some v→bn aJ A' x=some v
 | .ptr n p,v,h=>by
  simp only[bn] at h ⊢;cases aJ <;>simp only[zz3,if_false,if_true] at h ⊢
  ·exact h
  ·cases ah:cJ A (.ptr n p) with
   |none=>rw[ah] at h;cases h
   |some y =>
    rw[ah] at h;rw[jR hu ah];simp only at h ⊢;split at h
    ·rename_i hc;rw[if_pos hc];exact h
    ·rename_i hc;rw[if_neg hc];simp only[t7] at h ⊢;obtain ⟨a,U,ab⟩:=h;exact ⟨a,xk hu 9 _ _ U,ab⟩
 | .mref n,v,h=>by
  simp only[bn] at h ⊢;cases aJ <;>simp only[zz3,if_false,if_true] at h ⊢
  ·exact h
  ·cases ho:A.o n with
   |none=>rw[ho] at h;cases h
   |some y =>
    rw[ho] at h;rw[hu n y ho];cases y <;>try (cases h;done)
    simp only at h ⊢;split at h
    ·rename_i hk;rw[if_pos hk];simp only[t7] at h ⊢;obtain ⟨a,U,ab⟩:=h;exact ⟨a,sy (xk hu 9) U,ab⟩
    ·cases h
 | .dp _,_,h=>by simp[bn] at h
 | .dk _ _,_,h=>by simpa only[bn] using h
 | .own n k,v,h=>by
  simp only[bn] at h ⊢;cases ho:A.o n with
  |none=>rw[ho] at h;cases h
  |some y=>rw[ho] at h;rw[hu n y ho];exact h
 | .view n p sz lo k,v,h=>by
  simp only[bn] at h ⊢;cases aJ <;>simp only[zz3,if_false,if_true] at h ⊢
  ·exact h
  ·cases ah:cJ A (.ptr n p) with
   |none=>rw[ah] at h;cases h
   |some y=>rw[ah] at h;rw[jR hu ah];exact h
 | .func f caps,v,h=>by
  simp only[bn] at h ⊢;split at h
  case isFalse hf=>rw[if_neg hf];exact h
  rename_i hf;rw[if_pos hf];simp only[t7] at h ⊢;obtain ⟨a,U,ab⟩:=h;exact ⟨a,lM hu U,ab⟩
 | .agg fs,v,h=>by
  simp only[bn,t7] at h ⊢;obtain ⟨a,U,ab⟩:=h;exact ⟨a,lM hu U,ab⟩
 | .nils _,_,h | .c0 _,_,h | .tuple _,_,h | .undef,_,h | .du,_,h | .bool _,_,h | .int _ _,_,h | .bR _,_,h | .nilp,_,h | .dA,_,h | .dW,_,h | .any,_,h | .raw _,_,h | .slice _ _,_,h | .ref _,_,h | .iface _ _,_,h=>by simpa only[bn] using h
theorem lM(hu:ep A A'){aJ:Bool} : ∀ {xs vs:List I},bX aJ A xs=some vs→bX aJ A' xs=some vs
 | [],vs,h=>by simpa only[bX] using h
 |x::xs,vs,h=>by
  simp only[bX] at h ⊢;cases U:bn aJ A x with
  |none=>rw[U] at h;cases h
  |some y=>cases ab:bX aJ A xs with
   |none=>rw[U,ab] at h;cases h
   |some ys=>rw[U,ab] at h;rw[Ct hu U,lM hu ab];exact h
end
theorem yB{op:bS}(hc:op.gZ=0)(h:ed A A' op.cU):bq A' op=bq A op:=by
 cases op <;>simp only[bS.gZ] at hc <;>try (cases hc;done)
 all_goals simp only[bS.cU] at h
 case mv x=>simp only[bq,dc h]
 case pick c a b=>simp only[bq,dc h.l,dc h.r.l,dc h.r.r]
 case bin _ x y=>simp only[bq,dc h.l,dc h.r]
 case eqv _ _ x y=>simp only[bq,dc h.l,dc h.r]
 case nilS x=>simp only[bq,dc h]
 case conv x=>simp only[bq,dc h]
 case un x=>simp only[bq,dc h]
 case fl x=>simp only[bq,dc h]
 case ix x i=>simp only[bq,dc h.l,dc h.r]
 case lenT x=>simp only[bq,dc h]
 case bld zs ps=>simp only[bq,Cf h]
 case ext x i=>simp only[bq,dc h]
 case mk f caps=>simp only[bq,mI h]
 case nilC x=>simp only[bq,dc h]
 case ptrE neg x y=>simp only[bq,dc h.l,dc h.r]
 case max2 x y=>simp only[bq,dc h.l,dc h.r]
theorem Xn(hu:ep A A'){m:I}{q:List I×List I}(h:gx A m=some q):gx A' m=some q:=by
 cases m with
 |mref n =>
  simp only[gx] at h ⊢;cases ah:A.o n with
  |none=>simp only[ah] at h;cases h
  |some y=>simp only[ah] at h;simp only[hu n y ah];exact h
 |raw v=>cases v <;>first | (cases h;done) | (rename_i m;cases m <;>first | exact h | cases h)
 |dk ks vs=>exact h
 |_=>simp only[gx] at h;cases h
theorem EZ{op:bS}(hu:ep A A')(h:ed A A' op.cU){v:I}(hv:bq A op=some v):bq A' op=some v:=by
 by_cases hc:op.gZ=0
 ·rw[yB hc h];exact hv
 cases op <;>try (exact absurd rfl hc)
 all_goals simp only[bS.cU] at h
 case ld s x =>
  simp only[bq,dc h] at hv ⊢;cases ah:cJ A (ak A x) with
  |none=>rw[ah] at hv;cases hv
  |some y=>rw[ah] at hv;rw[jR hu ah];exact hv
 case fa f off x =>
  simp only[bq,dc h] at hv ⊢;generalize ak A x=z at *;cases z <;>try (first | exact hv | (rename_i y;cases y <;>exact hv))
  rename_i n p;cases ah:cJ A (.ptr n p) with
  |none=>simp only[ah] at hv;cases hv
  |some y=>simp only[ah] at hv;simp only[jR hu ah];exact hv
 case ia n esz x i =>
  simp only[bq,dc h.l,dc h.r] at hv ⊢;generalize ak A x=z at *;cases z <;>try (first | exact hv | (rename_i y;cases y <;>exact hv))
  rename_i n p;cases ah:cJ A (.ptr n p) with
  |none=>simp only[ah] at hv;(repeat' split at hv) <;>cases hv
  |some y=>simp only[ah] at hv;simp only[jR hu ah];exact hv
 case is esz x i =>
  simp only[bq,dc h.l,dc h.r] at hv ⊢;generalize ak A i=q at *;cases q <;>try (exact hv)
  simp only at hv ⊢;generalize ak A x=z at *;cases z <;>try (first | exact hv | (rename_i y;cases y <;>exact hv))
  ·rename_i n p;cases ah:A.o n with
   |none=>simp only[ah] at hv;cases hv
   |some y=>simp only[ah] at hv;simp only[hu n y ah];exact hv
  ·rename_i n p sz lo k;simp only at hv ⊢;cases ah:cJ A (.ptr n p) with
   |none=>simp only[ah] at hv;cases hv
   |some y=>simp only[ah] at hv;simp only[jR hu ah];exact hv
 case len x =>
  simp only[bq,dc h] at hv ⊢;generalize ak A x=z at *;cases z <;>try (first | exact hv | (rename_i y;cases y <;>exact hv))
  rename_i n p;cases ah:A.o n with
  |none=>simp only[ah] at hv;cases hv
  |some y=>simp only[ah] at hv;simp only[hu n y ah];exact hv
 case cap x =>
  simp only[bq,dc h] at hv ⊢;generalize ak A x=z at *;cases z <;>try (first | exact hv | (rename_i y;cases y <;>exact hv))
  rename_i n p sz lo k;simp only at hv ⊢;cases ah:cJ A (.ptr n p) with
  |none=>simp only[ah] at hv;cases hv
  |some y=>simp only[ah] at hv;simp only[jR hu ah];exact hv
 case bs0 esz=>exact hv
 case sl esz x lo hi mx =>
  simp only[bq,dc h.l,qw h.r.l,qw h.r.r.l,qw h.r.r.r] at hv ⊢;generalize ak A x=z at *;cases z <;>try (first | exact hv | (rename_i y;cases y <;>exact hv))
  rename_i n p sz l0 k;simp only at hv ⊢;cases ah:cJ A (.ptr n p) with
  |none=>simp only[ah] at hv;cases hv
  |some y=>simp only[ah] at hv;simp only[jR hu ah];exact hv
 case va n esz x =>
  simp only[bq,dc h] at hv ⊢;generalize ak A x=z at *;cases z <;>try (first | exact hv | (rename_i y;cases y <;>exact hv))
  rename_i n p;cases ah:cJ A (.ptr n p) with
  |none=>simp only[ah] at hv;cases hv
  |some y=>simp only[ah] at hv;simp only[jR hu ah];exact hv
 case lk ty z ok m k =>
  simp only[bq,dc h.l,dc h.r] at hv ⊢;cases ah:gx A (ak A m) with
  |none=>rw[ah] at hv;cases hv
  |some y=>rw[ah] at hv;rw[Xn hu ah];exact hv
 case ent x =>
  simp only[bq,dc h] at hv ⊢;generalize ak A x=z at *;cases z <;>try (exact hv)
  rename_i n;simp only at hv ⊢;cases ah:A.o n with
  |none=>simp only[ah] at hv;cases hv
  |some y=>simp only[ah] at hv;simp only[hu n y ah];exact hv
 case bs esz ps =>
  simp only[bq,mI h] at hv ⊢;cases ah:bX false A (ps.map (ak A)) with
  |none=>rw[ah] at hv;cases hv
  |some y=>rw[ah] at hv;rw[lM hu ah];exact hv
 all_goals (simp only[bq] at hv;cases hv)
end
def pass(A:ai)(g:aw):Prop:=match g.guard with | none=>True | some (t,b)=>A.t t=.bool b
def gT(A:ai)(g:aw):Prop:=match g.guard with | none=>False | some (t,b)=>A.t t=.bool (!b)∨A.t t=.undef
inductive jH (P:Program) (A:ai):bS→I→Prop where
 |pure {op:bS} {v:I} : bq A op=some v→jH P A op v
 |flat {f:FuncId} {args:List aR} {cargs:List I} {r:I} : bX true A (args.map (ak A))=some cargs→bm P f cargs r→r.flat=true→jH P A (.call f args) r
 |lead {f:FuncId} {args:List aR} {cargs:List I} {r:I} : bX false A (args.map (ak A))=some cargs→bm P f cargs r→jH P A (.call f args) r
 |vL {x:aR} {f:FuncId} {caps:List I} {args:List aR} {cargs:List I} {r:I} : ak A x=.func f caps→bX true A (iL f (args.map (ak A)) caps)=some cargs→bm P (lL f) cargs r→r.flat=true→jH P A (.fy x args) r
 |vM {x:aR} {f:FuncId} {caps:List I} {args:List aR} {cargs:List I} {r:I} : ak A x=.func f caps→bX false A (iL f (args.map (ak A)) caps)=some cargs→bm P (lL f) cargs r→jH P A (.fy x args) r
def tI(A:ai)(op:bS)(x:I):Prop:=op=.alloc x∨∃ y,op=.box y∧(ak A y).bT=true∧x=ak A y
def tJ(A:ai)(op:bS)(n:Nat)(z:ao):Prop:=∃ s x v p b old,op=.bl s x v∧ak A x=.ptr n p∧A.o n=some (.box b)∧b.at p=some old∧yj s (ak A v) old∧z=.box (b.eA p (ak A v))
def Ij(A:ai)(dst:Option Nat)(op:bS)(B:ai):Prop:=op.gZ=5∧∀ (rest:List aw) (k:ai→cM),bo A dst op rest k=k B
theorem aau{A:ai}{neg:Bool}{x:aR}{v:I}(h:bq A (.nilS neg x)=some v):kg (ak A x)=false:=by
 simp only[bq] at h;generalize ak A x=q at *;cases q <;>simp only[kg] <;>simp only at h <;>try (cases h;done)
 rename_i sz es;cases es with
 |nil=>simp at h
 |cons=>rfl
inductive dz (P:Program) (g:aw) (A:ai):ai→Prop where
 |skip:gT A g→dz P g A (A.aX g.dst .undef)
 |val {v:I} : pass A g→jH P A g.op v→dz P g A (A.aX g.dst v)
 |jB {d:Nat} {x:I} : pass A g→g.dst=some d→tI A g.op x→A.o d=none→dz P g A ((A.aV d (.box x)).put d (.ptr d []))
 |bl {n:Nat} {z:ao} : pass A g→g.dst=none→tJ A g.op n z→dz P g A (A.aV n z)
 |iz {B:ai} : pass A g→Ij A g.dst g.op B→dz P g A B
theorem wo{b' b:Bool}(h:b'≠b):b' = !b:=by cases b <;>cases b' <;>simp_all
section
variable {P:Program} {Y:Value→List I→List (Nat×ao)→cA→Prop} {K:ai→Prop}
theorem dz.Eu{A:ai}{g:aw}{rest:List aw}(hp:pass A g)(h:aT P Y true K (bo A g.dst g.op rest (aA rest))):∃ B,dz P g A B∧aT P Y true K (aA rest B):=by
 have pure:aT P Y true K (cT (bq A g.op) fun v=>aA rest (A.aX g.dst v))→∃ B,dz P g A B∧aT P Y true K (aA rest B):=by
  intro h;cases hv:bq A g.op with
  |none=>rw[hv] at h;cases h
  |some v=>rw[hv] at h;exact ⟨_,.val hp (.pure hv),h⟩
 obtain ⟨dst,op,gd⟩:=g;cases op with
 |alloc z =>
  simp only[bo] at h;split at h
  case h_2=>cases h
  split at h
  case h_2=>cases h
  rename_i ah _ ho;exact ⟨_,.jB hp rfl (.inl rfl) ho,h⟩
 |box x =>
  simp only[bo] at h;split at h
  case h_2=>cases h
  split at h
  case h_2=>cases h
  rename_i ah _ ho;split at h
  case isFalse=>cases h
  rename_i hv;exact ⟨_,.jB hp rfl (.inr ⟨x,rfl,hv,rfl⟩) ho,h⟩
 |bl s x v =>
  simp only[bo] at h;split at h
  case h_2=>cases h
  split at h
  case h_2=>cases h
  rename_i n p hx;split at h
  case h_2=>cases h
  rename_i b hb;split at h
  case h_2=>cases h
  rename_i old hat;split at h
  case isFalse=>cases h
  rename_i hok;exact ⟨_,.bl hp rfl ⟨s,x,v,p,b,old,rfl,hx,hb,hat,hok,rfl⟩,h⟩
 |nilS neg x =>
  simp only[bo] at h;split at h
  ·cases h with | any hdr=>cases hdr
  ·exact pure h
 |dB e esz bytes z s x =>
  simp only[bo] at h;split at h
  ·rename_i n l hs';split at h
   case h_2=>cases h
   rename_i sz ys hx';split at h
   case h_3=>cases h
   case h_2 =>
    rename_i T xs hn;split at h
    case isFalse=>cases h
    rename_i hok;exact ⟨_,.iz hp ⟨rfl,fun rest k=>by simp only[bo,hs',hx',hn,if_pos hok]⟩,h⟩
   rename_i T sz' es hn;split at h
   case isFalse=>cases h
   rename_i hok;exact ⟨_,.iz hp ⟨rfl,fun rest k=>by simp only[bo,hs',hx',hn,if_pos hok]⟩,h⟩
  ·rename_i hno;have hg:∀ (rest:List aw) (k:ai→cM),bo A dst (.dB e esz bytes z s x) rest k=fb A dst esz bytes z (ak A s) (eC A esz (ak A s)) (eC A esz (ak A x)) k:=fun rest k=>by
    simp only[bo]
   simp only[fb] at h hg;split at h
   case h_2=>cases h
   rename_i es ys hse hsx;simp only[hse,hsx] at hg;have grow:¬ aT P Y true K (gn A dst esz bytes z es ys (aA rest)):=fun h=>by
    simp only[gn] at h;split at h
    case h_2=>cases h
    split at h
    case h_2=>cases h
    split at h
    case isFalse=>cases h
    cases h with | any hdr=>cases hdr
   split at h
   ·rename_i hne;simp only[if_pos hne] at hg;exact ⟨_,.iz hp ⟨rfl,hg⟩,h⟩
   ·rename_i hne;simp only[if_neg hne] at hg;split at h
    ·exact absurd h grow
    ·exact absurd h grow
    ·rename_i n p sz lo l hsv;split at h
     case h_2=>cases h
     rename_i b hn;split at h
     case h_2=>cases h
     rename_i fs hat;split at h
     ·rename_i hroom;split at h
      case isFalse=>cases h
      rename_i hok;simp only[hsv,hn,hat,if_pos hroom,if_pos hok] at hg;exact ⟨_,.iz hp ⟨rfl,hg⟩,h⟩
     ·exact absurd h grow
    ·cases h
 |kN f args =>
  simp only[bo] at h;cases h with | ext r hdr=>cases hdr
 |mA e esz bytes z s n =>
  exfalso
  simp only[bo] at h;split at h
  case h_2=>cases h
  simp only[we] at h;split at h
  case h_2=>cases h
  split at h
  case h_2=>cases h
  split at h
  case h_2=>cases h
  split at h
  case h_2=>cases h
  split at h
  case isFalse=>cases h
  simp only[gn] at h;split at h
  case h_2=>cases h
  split at h
  case h_2=>cases h
  split at h
  case isFalse=>cases h
  cases h with | any hdr=>cases hdr
 |jg =>
  simp only[bo] at h;split at h
  case h_2=>cases h
  rename_i d;split at h
  case h_2=>cases h
  rename_i hf;exact ⟨_,.iz hp ⟨rfl,fun rest k=>by simp only[bo,hf]⟩,h⟩
 |kV e bytes z n =>
  simp only[bo] at h;split at h
  case h_2=>cases h
  rename_i d;split at h
  case h_2=>cases h
  rename_i hf;split at h
  case h_2=>cases h
  rename_i k m hn;split at h
  case isFalse=>cases h
  rename_i hc;exact ⟨_,.iz hp ⟨rfl,fun rest k=>by simp only[bo,hf,hn,if_pos hc]⟩,h⟩
 |eX ty m key v =>
  simp only[bo] at h;split at h
  case h_2=>cases h
  split at h
  case h_2=>cases h
  rename_i n hm;split at h
  case h_2=>cases h
  rename_i ks vs hn;split at h
  case h_2=>cases h
  rename_i ks' vs' hl;exact ⟨_,.iz hp ⟨rfl,fun rest k=>by simp only[bo,hm,hn,hl]⟩,h⟩
 |jf ty m key =>
  simp only[bo] at h;split at h
  case h_2=>cases h
  split at h
  case h_2=>cases h
  rename_i n hm;split at h
  case h_2=>cases h
  rename_i ks vs hn;split at h
  case h_2=>cases h
  rename_i ks' vs' hl;exact ⟨_,.iz hp ⟨rfl,fun rest k=>by simp only[bo,hm,hn,hl]⟩,h⟩
 |j9 x =>
  simp only[bo] at h;split at h
  case h_2=>cases h
  rename_i d;split at h
  case h_2=>cases h
  rename_i hf;split at h
  case h_2=>cases h
  rename_i ks vs hx;exact ⟨_,.iz hp ⟨rfl,fun rest k=>by simp only[bo,hf,hx]⟩,h⟩
 |iR x =>
  simp only[bo] at h;split at h
  case h_2=>cases h
  rename_i n hx;split at h
  case h_2=>cases h
  rename_i ks vs left cur hn;split at h
  ·rename_i hl;exact ⟨_,.iz hp ⟨rfl,fun rest k=>by simp only[bo,hx,hn,if_pos hl]⟩,h⟩
  ·cases h with | any hdr=>cases hdr
 |jQ esz z x =>
  simp only[bo] at h;split at h
  case h_2=>cases h
  have hg:∀ (rest:List aw) (k:ai→cM),bo A none (.jQ esz z x) rest k=nS A esz z k (ak A x):=fun rest k=>rfl;simp only[nS] at h hg;split at h
  ·rename_i n p sz lo l hv;split at h
   case h_2=>cases h
   rename_i b hn;split at h
   case h_2=>cases h
   rename_i fs hat;split at h
   case isFalse=>cases h
   rename_i hok;simp only[hv,hn,hat,if_pos hok] at hg;exact ⟨_,.iz hp ⟨rfl,hg⟩,h⟩
  ·rename_i z0 hv;simp only[hv] at hg;exact ⟨_,.iz hp ⟨rfl,hg⟩,h⟩
  ·rename_i z0 hv;simp only[hv] at hg;exact ⟨_,.iz hp ⟨rfl,hg⟩,h⟩
  ·cases h
 |lI esz x y =>
  have hg:∀ (rest:List aw) (k:ai→cM),bo A dst (.lI esz x y) rest k=ua A dst esz k (ak A x) (eC A esz (ak A y)):=fun rest k=>rfl;simp only[bo] at h;simp only[ua] at h hg;split at h
  ·rename_i n p sz lo l ys hv hsx;split at h
   case h_2=>cases h
   rename_i b hn;split at h
   case h_2=>cases h
   rename_i fs hat;split at h
   case isFalse=>cases h
   rename_i hok;simp only[hv,hsx,hn,hat,if_pos hok] at hg;exact ⟨_,.iz hp ⟨rfl,hg⟩,h⟩
  ·cases h
 |call f args =>
  simp only[bo] at h;generalize U:bX true A (args.map (ak A))=a1 at h;generalize ab:bX false A (args.map (ak A))=a2 at h;cases h with
  |flat r hc hf hw=>exact ⟨_,.val hp (.flat U hc hf),hw⟩
  |lead r hc hw=>exact ⟨_,.val hp (.lead ab hc),hw⟩
  |jz ns r hdr=>cases hdr
  |bP aJ ρ os cargs post hdr=>cases hdr
 |fy x args =>
  simp only[bo] at h;split at h
  case h_3=>cases h
  case h_2=>cases h with | vN os cargs post hdr=>cases hdr
  rename_i f caps hx;generalize U:bX true A (iL f (args.map (ak A)) caps)=a1 at h;generalize ab:bX false A (iL f (args.map (ak A)) caps)=a2 at h;cases h with
  |flat r hc hf hw=>exact ⟨_,.val hp (.vL hx U hc hf),hw⟩
  |lead r hc hw=>exact ⟨_,.val hp (.vM hx ab hc),hw⟩
  |jz ns r hdr=>cases hdr
  |bP aJ ρ os cargs post hdr=>cases hdr
 |_=>exact pure (by simpa only[bo] using h)
theorem dz.yg{A:ai}{g:aw}{rest:List aw}(h:aT P Y true K (aA (g::rest) A)):∃ B,dz P g A B∧aT P Y true K (aA rest B):=by
 simp only[aA] at h;split at h
 ·rename_i hg;exact dz.Eu (by simp only[pass,hg]) h
 ·rename_i t b hg;split at h
  ·rename_i b' hb;split at h
   ·rename_i hbb;subst hbb;exact dz.Eu (by simp only[pass,hg];exact hb) h
   ·rename_i hbb;refine ⟨_,.skip (by simp only[gT,hg];exact .inl (by rw[hb,wo hbb])),h⟩
  ·rename_i hb;exact ⟨_,.skip (by simp only[gT,hg];exact .inr hb),h⟩
  ·cases h
theorem oQ{A:ai}{g:aw}{rest:List aw}(hp:pass A g):aA (g::rest) A=bo A g.dst g.op rest (aA rest):=by
 simp only[aA];cases hg:g.guard with
 |none=>rfl
 |some tb =>
  obtain ⟨t,b⟩:=tb;simp only[pass,hg] at hp;simp only[hp,if_true]
theorem dz.zk{A B:ai}{g:aw}{rest:List aw}(h:dz P g A B)(hw:aT P Y true K (aA rest B)):aT P Y true K (aA (g::rest) A):=by
 cases h with
 |skip hn =>
  simp only[aA];cases hg:g.guard with
  |none=>simp only[gT,hg] at hn
  |some tb =>
   obtain ⟨t,b⟩:=tb;simp only[gT,hg] at hn;rcases hn with hn | hn
   ·simp only[hn];rw[if_neg (by cases b <;>simp)];exact hw
   ·simp only[hn];exact hw
 |val hp hv =>
  rw[oQ hp];obtain ⟨dst,op,gd⟩:=g;cases hv with
  |pure hv =>
   have hv':bq A op=some _:=hv;cases op <;>try (simp only[bo,hv',cT] <;>first | exact hw | (simp only[bq] at hv';cases hv');done)
   all_goals first
    |(simp only[bq] at hv';cases hv';done)
    |(simp only[bo,aau hv',zz3,if_false,hv',cT];exact hw)
  |flat U ab af=>simp only[bo,U];exact .flat _ ab af hw
  |lead U ab=>simp only[bo,U];exact .lead _ ab hw
  |vL aZ U ab af=>simp only[bo,aZ,U];exact .flat _ ab af hw
  |vM aZ U ab=>simp only[bo,aZ,U];exact .lead _ ab hw
 |jB hp ah hm ho =>
  rw[oQ hp];obtain ⟨dst,op,gd⟩:=g;simp only at ah;subst ah;rcases hm with hm | ⟨y,hm,hv,rfl⟩ <;>simp only at hm <;>subst hm
  ·simp only[bo,ho];exact hw
  ·simp only[bo,ho,hv,if_true];exact hw
 |bl hp ah hm =>
  rw[oQ hp];obtain ⟨dst,op,gd⟩:=g;simp only at ah;subst ah;obtain ⟨s,x,v,p,b,old,U,ab,af,aq,h5,rfl⟩:=hm;simp only at U;subst U;simp only[bo,ab,af,aq,if_pos h5];exact hw
 |iz hp hm =>
  rw[oQ hp,hm.2];exact hw
theorem jH.cR{A A':ai}{op:bS}{v:I}(h:jH P A op v)(hu:ep A A')(ha:ed A A' op.cU):jH P A' op v:=by
 cases h with
 |pure h=>exact .pure (EZ hu ha h)
 |flat U ab af=>exact .flat (by rw[mI ha];exact lM hu U) ab af
 |lead U ab=>exact .lead (by rw[mI ha];exact lM hu U) ab
 |vL aZ U ab af=>simp only[bS.cU] at ha;exact .vL (by rw[dc ha.l];exact aZ) (by rw[mI ha.r];exact lM hu U) ab af
 |vM aZ U ab=>simp only[bS.cU] at ha;exact .vM (by rw[dc ha.l];exact aZ) (by rw[mI ha.r];exact lM hu U) ab
theorem jH.jz{A A':ai}{op:bS}{v:I}(h:jH P A op v)(hc:op.gZ=0)(ha:ed A A' op.cU):jH P A' op v:=by
 cases h with
 |pure h=>exact .pure (by rw[yB hc ha];exact h)
 |_=>simp[bS.gZ] at hc
theorem oc{A A':ai}{g:aw}(ha:ed A A' g.cU)(h:pass A g):pass A' g:=by
 unfold pass at *;cases hg:g.guard with
 |none=>trivial
 |some tb=>simp only[hg] at h ⊢;rw[ha tb.1 (by simp[aw.cU,hg])];exact h
theorem qQ{A A':ai}{g:aw}(ha:ed A A' g.cU)(h:gT A g):gT A' g:=by
 unfold gT at *;cases hg:g.guard with
 |none=>simp only[hg] at h
 |some tb=>simp only[hg] at h ⊢;rw[ha tb.1 (by simp[aw.cU,hg])];exact h
theorem aw.kE{A A':ai}{g:aw}(ha:ed A A' g.cU):ed A A' g.op.cU:=fun k hk=>ha k (List.mem_append_left _ hk)
def ly(P:Program)(g:aw)(A:ai)(v:I):Prop:=(gT A g∧v=.undef)∨(pass A g∧jH P A g.op v)
theorem ly.step{A:ai}{g:aw}{v:I}(h:ly P g A v):dz P g A (A.aX g.dst v):=by
 rcases h with ⟨h,rfl⟩ | ⟨h,k⟩
 ·exact .skip h
 ·exact .val h k
theorem ly.cR{A A':ai}{g:aw}{v:I}(h:ly P g A v)(hu:ep A A')(ha:ed A A' g.cU):ly P g A' v:=by
 rcases h with ⟨h,rfl⟩ | ⟨h,k⟩
 ·exact .inl ⟨qQ ha h,rfl⟩
 ·exact .inr ⟨oc ha h,k.cR hu (aw.kE ha)⟩
theorem ly.jz{A A':ai}{g:aw}{v:I}(h:ly P g A v)(hc:g.op.gZ=0)(ha:ed A A' g.cU):ly P g A' v:=by
 rcases h with ⟨h,rfl⟩ | ⟨h,k⟩
 ·exact .inl ⟨qQ ha h,rfl⟩
 ·exact .inr ⟨oc ha h,k.jz hc (aw.kE ha)⟩
theorem dz.zh{A B:ai}{g:aw}(h:dz P g A B)(hc:g.op.gZ≤2):∃ v,ly P g A v∧B=A.aX g.dst v:=by
 cases h with
 |skip h=>exact ⟨_,.inl ⟨h,rfl⟩,rfl⟩
 |val h k=>exact ⟨_,.inr ⟨h,k⟩,rfl⟩
 |jB U ab af aq=>rcases af with af | ⟨y,af,_⟩ <;>(rw[af] at hc;simp[bS.gZ] at hc)
 |bl U ab af=>obtain ⟨s,x,v,p,b,old,aq,_⟩:=af;rw[aq] at hc;simp[bS.gZ] at hc
 |iz U af=>rw[af.1] at hc;omega
theorem qW{A:ai}{a b:Option Nat}{v u:I}(h:∀ d,a=some d→b≠some d):(A.aX a v).aX b u=(A.aX b u).aX a v:=by
 cases a with
 |none=>rfl
 |some d=>cases b with
  |none=>rfl
  |some e =>
   have hne:d≠e:=fun he=>h d rfl (by rw[he]);simp only[ai.aX,ai.put,ai.mk.injEq,and_true]
   funext k
   by_cases U:k=e <;>by_cases ab:k=d <;>simp_all
theorem iW{A:ai}{d:Option Nat}{v:I} : (A.aX d v).o=A.o:=by cases d <;>rfl
theorem nd{A:ai}{d:Option Nat}{v:I}{l:List Nat}(h:∀ k,d=some k→k∉l):ed A (A.aX d v) l:=by
 cases d with
 |none=>exact fun _ _=>rfl
 |some e =>
  intro k hk;have:k≠e:=fun he=>h e rfl (he▸hk);simp[ai.aX,ai.put,this]
theorem ed.symm{A A':ai}{l:List Nat}(h:ed A A' l):ed A' A l:=fun k hk=>(h k hk).symm
theorem tI.same{A A':ai}{op:bS}{x:I}(h:tI A op x)(ha:ed A A' op.cU):tI A' op x:=by
 rcases h with h | ⟨y,U,ab,af⟩
 ·exact .inl h
 ·subst U;have:=dc (x:=y) ha;exact .inr ⟨y,rfl,by rw[this];exact ab,by rw[this];exact af⟩
theorem tJ.same{A A':ai}{op:bS}{n:Nat}{z:ao}(h:tJ A op n z)(ho:A'.o=A.o)(ha:ed A A' op.cU):tJ A' op n z:=by
 obtain ⟨s,x,v,p,b,old,U,ab,af,aq,h5,h6⟩:=h;subst U;simp only[bS.cU] at ha;have e1:=dc ha.l;have e2:=dc ha.r;exact ⟨s,x,v,p,b,old,rfl,by rw[e1];exact ab,by rw[ho];exact af,aq,by rw[e2];exact h5,by rw[e2];exact h6⟩
theorem WJ{g h:aw}(hi:nY g h=true):wP g.op.gZ h.op.gZ=true∧(∀ d,g.dst=some d→d∉h.cU)∧(∀ d,g.dst=some d→h.dst≠some d)∧(∀ d,h.dst=some d→d∉g.cU):=by
 simp only[nY,t8] at hi;obtain ⟨⟨U,ab⟩,af⟩:=hi;refine ⟨U,fun d ah =>?_,fun d ah =>?_,fun d ah =>?_⟩
 ·rw[ah] at ab;simp at ab;exact ab.1
 ·rw[ah] at ab;simp at ab;exact ab.2
 ·rw[ah] at af;simpa using af
theorem dz.tp{A B C:ai}{g h:aw}(hi:nY g h=true)(U:dz P g A B)(ab:dz P h B C):∃ B',dz P h A B'∧dz P g B' C:=by
 obtain ⟨hc,i1,i2,i3⟩:=WJ hi;simp only[wP,Bool.or_eq_true,t8,decide_eq_true_eq,beq_iff_eq] at hc;have hg2:g.op.gZ≤2:=by rcases hc with hc | hc <;>omega
 obtain ⟨v,hv,rfl⟩:=U.zh hg2;have ag:ed (A.aX g.dst v) A h.cU:=(nd i1).symm;have cR:ep (A.aX g.dst v) A:=fun n x hx=>by rwa [iW] at hx
 cases ab with
 |skip hn =>
  exact ⟨_,.skip (qQ ag hn),by
   rw[qW i2];exact (hv.cR (by intro n x hx;rwa [iW]) (nd i3)).step⟩
 |val hp hu =>
  exact ⟨_,.val (oc ag hp) (hu.cR cR (aw.kE ag)),by
   rw[qW i2];exact (hv.cR (by intro n x hx;rwa [iW]) (nd i3)).step⟩
 |jB hp ah hm ho =>
  rename_i d x;rw[iW] at ho;refine ⟨_,.jB (oc ag hp) ah (hm.same (aw.kE ag)) ho,?_⟩;have e:((A.aX g.dst v).aV d (.box x)).put d (.ptr d [])=((A.aV d (.box x)).put d (.ptr d [])).aX g.dst v:=by
   cases hgd:g.dst with
   |none=>rfl
   |some e =>
    have hne:e≠d:=fun he=>i2 e hgd (by rw[ah,he]);simp only[ai.aX,ai.put,ai.aV,ai.mk.injEq,and_true]
    funext k
    by_cases U:k=e <;>by_cases ab:k=d <;>simp_all
  rw[e];refine (hv.cR (fun n y hy =>?_) (fun k hk =>?_)).step
  ·have:n≠d:=fun he=>by rw[he,ho] at hy;cases hy
   simp only[ai.put,ai.aV,this,if_false];exact hy
  ·have:k≠d:=fun he=>i3 d ah (he▸hk);simp only[ai.put,ai.aV,this,if_false]
 |bl hp ah hm =>
  rename_i n z;have hc0:g.op.gZ=0:=by
   obtain ⟨s,x,v,p,b,old,aq,_⟩:=hm;rcases hc with hc | hc
   ·rw[aq] at hc;exact absurd hc.2 (by simp[bS.gZ])
   ·exact hc.1
  refine ⟨_,.bl (oc ag hp) ah (hm.same iW.symm (aw.kE ag)),?_⟩;have e:(A.aX g.dst v).aV n z=(A.aV n z).aX g.dst v:=by cases g.dst <;>rfl
  rw[e];exact (ly.jz (A':=A.aV n z) hv hc0 (fun _ _=>rfl)).step
 |iz hp hm =>
  exfalso
  rw[hm.1] at hc;omega
theorem aT.tp{A:ai}{g h:aw}{rest:List aw}(hi:nY g h=true)(hw:aT P Y true K (aA (g::h::rest) A)):aT P Y true K (aA (h::g::rest) A):=by
 obtain ⟨B,U,ab⟩:=dz.yg hw;obtain ⟨C,af,aq⟩:=dz.yg ab;obtain ⟨B',h5,h6⟩:=dz.tp hi U af;exact h5.zk (h6.zk aq)
theorem aT.ql{g:aw} : ∀ {l:List aw} {r:List aw} {A:ai},(∀ j∈l,nY j g=true)→aT P Y true K (aA (l++g::r) A)→aT P Y true K (aA (g::(l++r)) A)
 | [],r,A,_,h=>h
 |j::l,r,A,hi,h=>by
  obtain ⟨B,U,ab⟩:=dz.yg (g:=j) (rest:=l++g::r) h;have af:=aT.ql (l:=l) (r:=r) (fun k hk=>hi k (by simp[hk])) ab;exact aT.tp (hi j (by simp)) (U.zk af)
end
def ct(o:Oper):List Nat:=(o.after.toList.filter fun e=>Region.binds .any e).map (·.on)
def mj(cl:List Nat):List Nat→Nat
 | []=>0
 |k::ks=>(2^k ||| cl.getD k 0) ||| mj cl ks
def ud(on:List (List Nat))(gs:List aw)(cl:List Nat):Bool :=
 (List.range gs.length).all fun i=>(on.getD i []).all (fun k=>decide (k<i))&&Nat.beq (cl.getD i 0) (mj cl (on.getD i [])) &&
  (List.range i).all fun j=>(cl.getD i 0).testBit j||nY (gs.getD j default) (gs.getD i default)
theorem tv{cl:List Nat}{j:Nat} : ∀ {l:List Nat},(mj cl l).testBit j=true→j∈l∨∃ k∈l,(cl.getD k 0).testBit j=true
 | [],h=>by simp[mj] at h
 |k::ks,h=>by
  simp only[mj,Nat.testBit_or,Bool.or_eq_true,Nat.testBit_two_pow,decide_eq_true_eq] at h;rcases h with (h | h) | h
  ·exact .inl (by simp[h])
  ·exact .inr ⟨k,by simp,h⟩
  ·rcases tv h with h | ⟨m,U,ab⟩
   ·exact .inl (by simp[h])
   ·exact .inr ⟨m,by simp[U],ab⟩
structure vR (l:List Oper) (gs:List aw):Prop where
 gG:∀ i o,l[i]?=some o→∀ k∈ct o,k<i
 r9:∀ (S:Nat→Prop),(∀ i o,l[i]?=some o→S i→∀ k∈ct o,S k)→∀ i o g j,l[i]?=some o→gs[i]?=some g→(∀ k∈ct o,S k)→j<i→¬ S j→nY (gs.getD j default) g=true
theorem ND{l:List Oper}{gs:List aw}{cl:List Nat}(hlen:gs.length=l.length)(h:ud (l.map ct) gs cl=true):vR l gs:=by
 simp only[ud,zx2,zy9] at h;have fQ:∀ i o,l[i]?=some o→∃ g,gs[i]?=some g∧(∀ k∈ct o,k<i)∧(∀ j,(cl.getD i 0).testBit j=true→j∈ct o∨∃ k∈ct o,(cl.getD k 0).testBit j=true)∧∀ j,j<i→(cl.getD i 0).testBit j=true∨nY (gs.getD j default) g=true:=by
  intro i o ho;have hi:i<l.length:=(zz8.1 ho).1;have U:=h i (by omega);have hon:(l.map ct).getD i []=ct o:=by simp[zz0,ho]
  have hgi:i<gs.length:=by omega
  have hg:gs[i]?=some gs[i]:=zx0 hgi;have hgd:gs.getD i default=gs[i]:=by simp[zz0,hg]
  rw[hon,hgd] at U;simp only[t8,zx2,decide_eq_true_eq,Bool.or_eq_true,zy9] at U;have hb:=Nat.eq_of_beq_eq_true U.1.2;exact ⟨_,hg,U.1.1,fun j hj=>tv (by rw[←hb];exact hj),U.2⟩
 refine ⟨fun i o ho=>(fQ i o ho).choose_spec.2.1,?_⟩;intro S hS i o g j ho hg hon hj hnj;have key:∀ n i o,i≤n→l[i]?=some o→(∀ k∈ct o,S k)→∀ j,(cl.getD i 0).testBit j=true→S j:=by
  intro n
  induction n with
  |zero =>
   intro i o hi ho hon j hj;obtain ⟨g,_,U,ab,_⟩:=fQ i o ho;rcases ab j hj with h | ⟨k,hk,_⟩
   ·exact hon j h
   ·have:=U k hk;omega
  |succ n ih =>
   intro i o hi ho hon j hj;obtain ⟨g,_,U,ab,_⟩:=fQ i o ho;rcases ab j hj with h | ⟨k,hk,hjk⟩
   ·exact hon j h
   ·have hki:=U k hk;have hkl:k<l.length:=Nat.lt_trans hki (zz8.1 ho).1;obtain ⟨ok,hok⟩:∃ ok,l[k]?=some ok:=⟨l[k],zx0 hkl⟩
    exact ih k ok (by omega) hok (hS k ok hok (hon k hk)) j hjk
 obtain ⟨g',hg',_,_,af⟩:=fQ i o ho;rw[hg,v6] at hg';subst hg';rcases af j hj with h | h
 ·exact absurd (key i i o (zz5 _) ho hon j h) hnj
 ·exact h
def jl(listed:Array Bool)(n:Nat):List Nat:=(List.range n).filter fun i => !listed.getD i true
def pB(gs:List aw)(listed:Array Bool)(n:Nat):List aw:=(jl listed n).map fun i=>gs.getD i default
theorem F5{i n:Nat}(h:i<n):List.range n=List.range i++i::(List.range (n-(i+1))).map (i+1 + ·):=by
 conv=>lhs;rw[show n=(i+1)+(n-(i+1)) by omega,List.range_add]
 rw[List.range_succ];simp
theorem Zh{listed:Array Bool}{i n:Nat}(h:i<n)(hs:listed.size=n)(hu:listed.getD i true=false):∃ l1 l2,jl listed n=l1++i::l2∧jl (listed.setIfInBounds i true) n=l1++l2∧∀ j∈l1,j<i∧listed.getD j true=false:=by
 have same:∀ j,j≠i→(listed.setIfInBounds i true).getD j true=listed.getD j true:=fun j hj=>getD_set_ne true (Ne.symm hj);have hit:(listed.setIfInBounds i true).getD i true=true:=by simp[hs,h]
 refine ⟨(List.range i).filter fun j => !listed.getD j true,((List.range (n-(i+1))).map (i+1 + ·)).filter fun j => !listed.getD j true,?_,?_,?_⟩
 ·simp only[jl];rw[F5 h,List.filter_append,zw0];simp only[hu,Bool.not_false,if_true]
 ·simp only[jl];rw[F5 h,List.filter_append,zw0];simp only[hit,Bool.not_true,zz3,if_false]
  congr 1
  ·refine List.filter_congr fun j hj =>?_;rw[same j (by have:=zy9.1 hj;omega)]
  ·refine List.filter_congr fun j hj =>?_;obtain ⟨k,_,rfl⟩:=zy5.1 hj;rw[same _ (by omega)]
 ·intro j hj;simp only[zx5,zy9,Bool.not_eq_true'] at hj;exact hj
theorem Gf{n:Nat} : jl (Array.replicate n false) n=List.range n:=by
 simp only[jl];refine List.filter_eq_self.2 fun i hi =>?_;have:=zy9.1 hi;simp[this]
theorem Xo(gs:List aw):((List.range gs.length).map fun i=>gs.getD i default)=gs:=by
 apply List.ext_getElem
 ·simp
 ·intro i U ab;simp[zz0,ab]
section
variable {c:cX}
theorem kQ{P:Program}{n:Nat}{bj:Array Oper} : ∀ {l:List Oper} {gs:List aw},gu P n bj l=some gs→gs.length=l.length∧∀ (i:Nat) (o:Oper),l[i]?=some o→∃ g,gs[i]?=some g∧mD P n bj o=some g
 | [],gs,h=>by simp only[gu,v6] at h;subst h;exact ⟨rfl,fun i o ho=>by simp at ho⟩
 |o::l,gs,h=>by
  simp only[gu] at h;split at h
  case h_2=>cases h
  rename_i g gs' hg hgs;simp only[v6] at h;subst h;obtain ⟨U,ab⟩:=kQ (l:=l) hgs;refine ⟨by simp[U],fun i o' ho =>?_⟩;cases i with
  |zero=>simp only[List.getElem?_cons_zero,v6] at ho;subst ho;exact ⟨g,rfl,hg⟩
  |succ i=>simpa using ab i o' (by simpa using ho)
theorem VG{K:ai→Prop}{bj:Array Oper}{Q:Exit→Act→World→Prop}{o:Oper}{g:aw}{rest:List aw}{A:ai}{a:Act}{w:World}{Kw:Act→World→Prop}(hg:mD c.P c.n bj o=some g)(hwp:aT c.P c.Y true K (aA (g::rest) A))(hs:b5 c A a w)
  (hK:∀ B a' w',aT c.P c.Y true K (aA rest B)→b5 c B a' w'→Kw a' w'):if Region.wanted o (yielded bj a.tmps) then o.wpIn c.bH 9 c.P a w Kw Q else (∀ f,o.about c.P w a.eval=some f→c.bH.fn f)∧Kw (a.put o.dst undef) w:=by
 obtain ⟨U,ab,af,aq⟩:=oT hg;have step:aT c.P c.Y true K (bo A g.dst g.op rest (aA rest))→o.wpIn c.bH 9 c.P a w Kw Q:=fun h =>
  uu U ab.symm (by rw[ab];exact af) h hs (fun B a' w' hw hs'=>hK B a' w' hw hs')
 simp only[aA] at hwp;rcases aq with ⟨h5,h6⟩ | ⟨j,b,t,h5,h6,h7⟩
 ·rw[h6] at hwp;have hw:Region.wanted o (yielded bj a.tmps)=true:=by simp[Region.wanted,h5]
  rw[hw,if_pos rfl];exact step hwp
 ·rw[h7] at hwp;simp only at hwp;split at hwp
  ·rename_i b' hb';rw[uA hs h5 h6 hb'];split at hwp
   ·rename_i hbb;subst hbb;simp only[BEq.rfl,if_true];exact step hwp
   ·rename_i hbb;have:(b'==b)=false:=by simpa using hbb
    rw[this];simp only[zz3,if_false];exact ⟨fun f _=>mK c f,hK _ _ _ hwp (by rw[ab];exact hs.oi af)⟩
  ·rename_i hb';rw[uB hs h5 h6 hb'];simp only[zz3,if_false];exact ⟨fun f _=>mK c f,hK _ _ _ hwp (by rw[ab];exact hs.oi af)⟩
  ·cases hwp
theorem IH{K:ai→Prop}{bj:Array Oper}{gs:List aw}{Q:Exit→Act→World→Prop}(hQ:∀ B a w,K B→b5 c B a w→Q .normal a w)(hgs:gu c.P c.n bj bj.toList=some gs)(ah:vR bj.toList gs) :
  ∀ (fuel:Nat) (listed:Array Bool) (A:ai) (a:Act) (w:World),listed.size=bj.size→(∀ i o,bj.toList[i]?=some o→listed.getD i false=true→∀ k∈ct o,listed.getD k false=true)→(jl listed bj.size).length≤fuel →
   aT c.P c.Y true K (aA (pB gs listed bj.size) A)→b5 c A a w→wpAnyIn c.bH 9 c.P .any bj Q fuel listed a w:=by
 obtain ⟨hlen,hat⟩:=kQ hgs;have onOf_mem:∀ (o:Oper) (e:Edge),e∈o.after→Region.binds .any e=true→e.on∈ct o:=fun o e he hb=>by
  simp only[ct,zy5,zx5];exact ⟨e,⟨by simpa using he,hb⟩,rfl⟩
 have of_onOf:∀ (o:Oper) (k:Nat),k∈ct o→∃ e∈o.after,Region.binds .any e=true∧e.on=k:=fun o k hk=>by
  simp only[ct,zy5,zx5] at hk;obtain ⟨e,⟨U,ab⟩,af⟩:=hk;exact ⟨e,by simpa using U,ab,af⟩
 have last:∀ (listed:Array Bool) (A:ai) (a:Act) (w:World),listed.size=bj.size→Region.ready .any bj listed=[]→aT c.P c.Y true K (aA (pB gs listed bj.size) A)→b5 c A a w→Q .normal a w:=by
  intro listed A a w hsz hr hwp hs;have hnone:jl listed bj.size=[]:=by
   have all:∀ n,∀ i,i<n→i<bj.size→listed.getD i true=true:=by
    intro n
    induction n with
    |zero=>intro i hi;omega
    |succ n ih =>
     intro i hi his;cases hb:listed.getD i true with
     |true=>rfl
     |false =>
      exfalso
      have ho:bj[i]?=some bj[i]:=Array.getElem?_eq_getElem his;have:i∈Region.ready .any bj listed:=mem_ready.2 ⟨hb,bj[i],ho,fun e he hbd=>by
       have hlt:=ah.gG i bj[i] (by simp) e.on (onOf_mem _ e he hbd);have U:=ih e.on (by omega) (by omega);have ab:e.on<listed.size:=by omega
       simpa[Array.getD_eq_getD_getElem?,ab] using U⟩
      rw[hr] at this;cases this
   simp only[jl];refine List.filter_eq_nil_iff.2 fun i hi =>?_;have:=all (i+1) i (by omega) (zy9.1 hi);simp only[this,Bool.not_true,zz3,not_false_eq_true]
  simp only[pB,hnone,zx6,aA] at hwp;cases hwp with
  |done hk=>exact hQ A a w hk hs
 intro fuel
 induction fuel with
 |zero =>
  intro listed A a w hsz hcl hcnt hwp hs;have hnone:jl listed bj.size=[]:=List.length_eq_zero_iff.1 (by omega);have hr:Region.ready .any bj listed=[]:=by
   refine List.eq_nil_iff_forall_not_mem.2 fun i hi =>?_;obtain ⟨U,o,ho,_⟩:=mem_ready.1 hi;have:i∈jl listed bj.size:=by
    simp only[jl,zx5,zy9,U,Bool.not_false,and_true];exact (zy7.1 ho).1
   rw[hnone] at this;cases this
  exact ⟨hr,last listed A a w hsz hr hwp hs⟩
 |succ fuel ih =>
  intro listed A a w hsz hcl hcnt hwp hs;refine ⟨fun hr=>last listed A a w hsz hr hwp hs,fun i hi =>?_⟩;obtain ⟨hun,o,ho,hall⟩:=mem_ready.1 hi;have hin:i<bj.size:=(zy7.1 ho).1;obtain ⟨l1,l2,e1,e2,hl1⟩:=Zh hin hsz hun;have hol:bj.toList[i]?=some o:=by simpa using ho
  obtain ⟨g,hgi,hcg⟩:=hat i o hol;have hon:∀ k∈ct o,listed.getD k false=true:=fun k hk=>by
   obtain ⟨e,U,ab,af⟩:=of_onOf o k hk;exact af▸hall e U ab
  have hgd:gs.getD i default=g:=by simp[zz0,hgi]
  have hwp':aT c.P c.Y true K (aA (g::pB gs (listed.setIfInBounds i true) bj.size) A):=by
   simp only[pB,e1,zy8,zz4,hgd] at hwp;simp only[pB,e2,zy8];refine aT.ql (fun j hj =>?_) hwp;obtain ⟨k,hk,rfl⟩:=zy5.1 hj;obtain ⟨hk1,hk2⟩:=hl1 k hk;refine ah.r9 (fun k=>listed.getD k false=true) hcl i o g k hol hgi hon hk1 ?_;have hks:k<listed.size:=by omega
   simp[Array.getD_eq_getD_getElem?,hks] at hk2 ⊢;exact hk2
  unfold wpOpIn;rw[ho];refine VG hcg hwp' hs fun B a' w' hw hs'=>ih _ B a' w' (by simpa using hsz) ?_ ?_ hw hs'
  ·intro m om hom hm k hk;by_cases hmi:m=i
   ·subst hmi;rw[hol,v6] at hom;subst hom;exact getD_set_true (hon k hk)
   ·rw[getD_set_ne false (Ne.symm hmi)] at hm;exact getD_set_true (hcl m om hom hm k hk)
  ·have:(jl listed bj.size).length=(jl (listed.setIfInBounds i true) bj.size).length+1:=by
    rw[e1,e2];simp;omega
   omega
theorem Zg{K:ai→Prop}{bj:Array Oper}{gs:List aw}{Q:Exit→Act→World→Prop}{id:Nat}{A:ai}{a:Act}{w:World}(hm:c.P.follows .mixedOrders=true)(hQ:∀ B a w,K B→b5 c B a w→Q .normal a w)(hgs:gu c.P c.n bj bj.toList=some gs)(ah:vR bj.toList gs)
  (hwp:aT c.P c.Y true K (aA gs A)) (hs:b5 c A a w):(Code.region id bj true).wpIn c.bH 9 c.P Q a w:=by
 refine wpIn_region_any hm (IH hQ hgs ah bj.size (Array.replicate bj.size false) A a _ (by simp) ?_ ?_ ?_ ?_)
 ·intro i o _ h
  exfalso
  simp only[Array.getD_eq_getD_getElem?,Array.getElem?_replicate] at h;split at h <;>simp at h
 ·rw[Gf];simp
 ·have hl:=(kQ hgs).1;simp only[zw2] at hl;simp only[pB,Gf];rw[←hl,Xo];exact hwp
 ·obtain ⟨D,E,hs⟩:=hs;exact ⟨D,E,hs.grow (w' := { w with drawn:=w.drawn+1 }) ⟨rfl,rfl,rfl,zz5 _,fun _ _=>rfl⟩ (fun _ _ h=>h) (fun _ _ h _=>h) (fun b o h=>hs.aQ b o h)⟩
end
inductive bD where
 |cm (on:Option (List (List Nat))) (gs:List aw)
 |seq (x y:bD)
 |cond (b:aR) (x y:bD)
 |block (id:Nat) (x:bD)
 |loop (x:bD)
 |exit (id:Nat)
 |ret
 |skip
 |scope (x:bD)
 |label
 |wi
 |np (f:aR) (ps:List Nat) (x y:bD)
 deriving Inhabited
def eE(P:Program)(n:Nat):Code→Option bD
 | .region _ bj draw=>match gu P n bj bj.toList with
  |some gs=>if (!draw||P.follows .mixedOrders)=true then some (.cm (bif draw then some (bj.toList.map ct) else none) gs) else none
  |none=>some .wi
 | .seq x y=>match eE P n x,eE P n y with
  |some x,some y=>some (.seq x y)
  |_,_=>none
 | .cond b x y=>match bB P 0 b,eE P n x,eE P n y with
  |some b,some x,some y=>some (.cond b x y)
  |_,_,_=>none
 | .block id x=>match eE P n x with
  |some x=>some (.block id x)
  |none=>none
 | .loop x=>match eE P n x with
  |some x=>some (.loop x)
  |none=>none
 | .exit id=>some (.exit id)
 | .ret=>some .ret
 | .skip=>some .skip
 | .scope x=>match eE P n x with
  |some x=>some (.scope x)
  |none=>none
 | .label _=>some .label
 | .rangeFunc f ps x y=>match bB P 0 f,eE P n x,eE P n y with
  |some f,some x,some y=>if (ps.toList.all fun p=>p<n)=true then some (.np f ps.toList x y) else none
  |_,_,_=>none
 |_=>none
def uK(c:cX)(Q:Exit→ai→Prop):Exit→Act→World→Prop:=fun e a w=>∃ A,Q e A∧b5 c A a w
def ae(c:cX)(x:bD)(Q:Exit→ai→Prop)(A:ai):Prop :=
 ∀ code,eE c.P c.n code=some x→∀ a w,b5 c A a w→code.wpIn c.bH 9 c.P (uK c Q) a w
def eb(k:ai→Prop)(Q:Exit→ai→Prop):Exit→ai→Prop
 | .normal,A=>k A
 |e,A=>Q e A
def jL(id:Nat)(Q:Exit→ai→Prop):Exit→ai→Prop
 | .exit id',A=>if id'=id then Q .normal A else Q (.exit id') A
 |e,A=>Q e A
section
variable {c:cX} {A:ai} {Q:Exit→ai→Prop}
def Nb(d:Option (List (List Nat)))(gs:List aw)(cl:List Nat):Bool:=match d with
 |none=>true
 |some on=>ud on gs cl
theorem ae.cm{d:Option (List (List Nat))}{gs:List aw}{cl:List Nat}(ah:Nb d gs cl=true)(h:∀ K:ai→Prop,(∀ B,Q .normal B→K B)→aT c.P c.Y d.isSome K (aA gs A)):ae c (.cm d gs) Q A:=by
 intro code hc a w hs;cases code <;>simp only[eE] at hc <;>try (first | (cases hc;done) | ((repeat' split at hc) <;>cases hc;done))
 rename_i id bj draw;split at hc
 ·rename_i gs' hgs;split at hc
  case isFalse=>cases hc
  rename_i hok;simp only[v6,bD.cm.injEq] at hc;obtain ⟨rfl,rfl⟩:=hc;cases draw with
  |false=>exact wpIn_region_list (uz (K:=Q .normal) (fun B a w hk hs=>⟨B,hk,hs⟩) bj.toList gs' A a w hgs (h _ fun _ hb=>hb) hs)
  |true =>
   simp only[Bool.not_true,Bool.false_or] at hok;exact Zg (K:=Q .normal) hok (fun B a w hk hs=>⟨B,hk,hs⟩) hgs (ND (kQ hgs).1 ah) (h _ fun _ hb=>hb) hs
 ·cases hc
theorem ae.seq{x y:bD}(h:ae c x (eb (fun B=>ae c y Q B) Q) A):ae c (.seq x y) Q A:=by
 intro code hc a w hs;cases code <;>simp only[eE] at hc <;>try (first | (cases hc;done) | ((repeat' split at hc) <;>cases hc;done))
 rename_i cx cy;split at hc
 ·rename_i x' y' hx hy;simp only[v6,bD.seq.injEq] at hc;obtain ⟨rfl,rfl⟩:=hc;refine wpIn_seq (wpIn_mono (h cx hx a w hs) ?_);rintro e a' w' ⟨B,hq,hs'⟩;cases e <;>simp only[eb,Exit.then] at * <;>first | exact hq cy hy a' w' hs' | exact ⟨B,hq,hs'⟩
 ·cases hc
theorem ae.cond{b:aR}{x y:bD}{t:Bool}(hb:ak A b=.bool t)(U:t=true→ae c x Q A)(ab:t=false→ae c y Q A):ae c (.cond b x y) Q A:=by
 intro code hc a w hs;cases code <;>simp only[eE] at hc <;>try (first | (cases hc;done) | ((repeat' split at hc) <;>cases hc;done))
 rename_i cb cx cy;split at hc
 ·rename_i b' x' y' hb' hx hy;simp only[v6,bD.cond.injEq] at hc;obtain ⟨rfl,rfl,rfl⟩:=hc;obtain ⟨D,E,hs'⟩:=hs;have hv:=bZ hs' hb';rw[hb] at hv;exact wpIn_cond_split (lg hv) (fun ht=>U ht cx hx a w ⟨D,E,hs'⟩) (fun ht=>ab ht cy hy a w ⟨D,E,hs'⟩)
 ·cases hc
theorem ae.block{id:Nat}{x:bD}(h:ae c x (jL id Q) A):ae c (.block id x) Q A:=by
 intro code hc a w hs;cases code <;>simp only[eE] at hc <;>try (first | (cases hc;done) | ((repeat' split at hc) <;>cases hc;done))
 rename_i id' cx;split at hc
 ·rename_i x' hx;simp only[v6,bD.block.injEq] at hc;obtain ⟨rfl,rfl⟩:=hc;refine wpIn_block (wpIn_mono (h cx hx a w hs) ?_);rintro e a' w' ⟨B,hq,hs'⟩;cases e <;>simp only[jL,Exit.inBlock] at * <;>first
   |exact ⟨B,hq,hs'⟩
   |(split at hq
     ·rename_i he;rw[if_pos he];exact ⟨B,hq,hs'⟩
     ·rename_i he;rw[if_neg he];exact ⟨B,hq,hs'⟩)
 ·cases hc
theorem ae.exit{id:Nat}(h:Q (.exit id) A):ae c (.exit id) Q A:=by
 intro code hc a w hs;cases code <;>simp only[eE] at hc <;>try (first | (cases hc;done) | ((repeat' split at hc) <;>cases hc;done))
 simp only[v6,bD.exit.injEq] at hc;subst hc;exact wpIn_exit ⟨A,h,hs⟩
theorem ae.ret(h:Q .ret A):ae c .ret Q A:=by
 intro code hc a w hs;cases code <;>simp only[eE] at hc <;>try (first | (cases hc;done) | ((repeat' split at hc) <;>cases hc;done))
 exact wpIn_ret ⟨A,h,hs⟩
theorem ae.skip(h:Q .normal A):ae c .skip Q A:=by
 intro code hc a w hs;cases code <;>simp only[eE] at hc <;>try (first | (cases hc;done) | ((repeat' split at hc) <;>cases hc;done))
 exact wpIn_skip ⟨A,h,hs⟩
theorem Ch{p:Nat→Prop}(h:∃ n,p n):∃ n,p n∧∀ m,p m→n≤m:=by
 obtain ⟨n,hn⟩:=h
 induction n using Nat.strongRecOn with
 |_ n ih =>
  by_cases hm:∃ m,m<n∧p m
  ·obtain ⟨m,U,ab⟩:=hm;exact ih m U ab
  ·exact ⟨n,hn,fun m hp=>Nat.le_of_not_lt fun hlt=>hm ⟨m,hlt,hp⟩⟩
open Classical in
noncomputable def least(p:Nat→Prop):Nat:=if h:∃ n,p n then (Ch h).choose else 0
theorem DL{p:Nat→Prop}(h:∃ n,p n):p (least p)∧∀ m,p m→least p≤m:=by
 simp only[least,dif_pos h];exact (Ch h).choose_spec
theorem aaH{bH:Fence}{N:Nat}{P:Program}{code:Code}{QQ:Exit→Act→World→Prop}(ar:Nat→Act→World→Prop)(round:∀ n a w,ar n a w→code.wpIn bH N P (Exit.then (fun a' w'=>∃ m,m<n∧ar m a' w') QQ) a w) :
  ∀ n a w,ar n a w→(Code.loop code).wpIn bH N P QQ a w:=by
 intro n a w h;refine wpIn_loop (fun a w=>∃ n,ar n a w) (fun a w=>least fun n=>ar n a w) ⟨n,h⟩ ?_;intro a w hI;have hm:=(DL hI).1;refine wpIn_mono (round _ a w hm) ?_;intro e a' w' hq;cases e <;>simp only[Exit.then] at hq ⊢ <;>try exact hq
 obtain ⟨m,U,ab⟩:=hq;exact ⟨⟨m,ab⟩,Nat.lt_of_le_of_lt ((DL ⟨m,ab⟩).2 m ab) U⟩
def bt(A B:ai):Prop:=∀ (c:cX) (a:Act) (w:World),b5 c A a w→b5 c B a w
theorem bt.refl(A:ai):bt A A:=fun _ _ _ h=>h
theorem bt.trans{A B C:ai}(h:bt A B)(k:bt B C):bt A C:=fun c a w hs=>k c a w (h c a w hs)
theorem ae.sub{x:bD}{B:ai}(hsub:bt A B)(h:ae c x Q B):ae c x Q A:=fun code hc a w hs=>h code hc a w (hsub c a w hs)
theorem ae.mono{x:bD}{Q':Exit→ai→Prop}(h:ae c x Q A)(hq:∀ e B,Q e B→Q' e B):ae c x Q' A :=
 fun code hc a w hs=>wpIn_mono (h code hc a w hs) fun e a' w' ⟨B,U,ab⟩=>⟨B,hq e B U,ab⟩
theorem ae.loop{σ:Type}(S:σ→ai)(C:σ→Prop)(m:σ→Nat)(s0:σ){x:bD}(aZ:C s0)(hsub:bt A (S s0))
  (round:∀ s,C s→ae c x (eb (fun B=>∃ s',C s'∧m s'<m s∧bt B (S s')) Q) (S s)):ae c (.loop x) Q A:=by
 intro code hc a w hs;cases code <;>simp only[eE] at hc <;>try (first | (cases hc;done) | ((repeat' split at hc) <;>cases hc;done))
 rename_i cx;split at hc
 ·rename_i x' hx;simp only[v6,bD.loop.injEq] at hc;subst hc;refine aaH (fun n a w=>∃ s,C s∧m s=n∧b5 c (S s) a w) ?_ (m s0) a w ⟨s0,aZ,rfl,hsub c a w hs⟩;rintro n a w ⟨s,hC,rfl,hs⟩;refine wpIn_mono (round s hC cx hx a w hs) ?_;rintro e a' w' ⟨B,hq,hs'⟩;cases e <;>simp only[eb,Exit.then] at * <;>first
   |exact ⟨B,hq,hs'⟩
   |(obtain ⟨s',U,ab,af⟩:=hq;exact ⟨m s',ab,s',U,rfl,af c a' w' hs'⟩)
 ·cases hc
end
inductive bV where
 |tmp (t:Nat)
 |cell (a:Nat) (s:Option Nat)
def ig(P:Program):List ResultVar→Option (List bV)
 | []=>some []
 | .tmp t::l=>(ig P l).map (.tmp t :: ·)
 | .cell a t::l=>match fY P t,ig P l with
  |some s,some l=>some (.cell a s::l)
  |_,_=>none
def vu(A:ai):bV→Option I
 | .tmp t=>bn true A (A.t t)
 | .cell a s=>match cJ A (A.t a) with
  |some x=>if b8 s x then bn true A x else none
  |none=>none
def fi(A:ai):List bV→Option (List I)
 | []=>some []
 |r::rs=>match vu A r,fi A rs with
  |some x,some xs=>some (x::xs)
  |_,_=>none
def kF:List I→I
 | [x]=>x
 |xs=>.tuple xs
def pT(args:List I):ai:=⟨fun t=>args.getD t .undef,fun _=>none⟩
def kZ(rs:List bV)(r:I):Exit→ai→Prop
 | .ret,A=>∃ xs,fi A rs=some xs∧kF xs=r
 | .normal,A=>∃ xs,fi A rs=some xs∧kF xs=r
 |_,_=>False
def pU(args:List I)(os:List (Nat×ao)):ai:=⟨fun t=>args.getD t .undef,aj os⟩
theorem zg{P:Program}{n:Nat}{w:World}{D:aU}{E:bf}{Y:Value→List I→List (Nat×ao)→cA→Prop}{args:List I}{os:List (Nat×ao)}{vs:List Value}(hD:∀ b o,D b o→b<w.heap.size)(ho:ki (fun _=>True) w D E (aj os))
  (hv:aG w D E args vs) (hn:vs.length≤n) (hos:∀ m,av os m=true→n≤m∧1000000≤m) (hy:p9 ⟨P,w,D,n,cE E,E,Y,none,none⟩) :
  aY ⟨P,w,D,n,cE E,E,Y,none,none⟩ (pU args os) { tmps:=vs.toArray++Array.replicate (n-vs.toArray.size) undef,defers:=[] } w D E:=by
 refine ⟨by simp;omega,⟨[],rfl,.nil,fun _ h=>by simp at h⟩,fun t =>?_,e8.refl _ _,fun _ _ h _=>h,hD,fun m =>?_,ho.cO,fun m e h=>.inr ⟨e,h,.refl e⟩,fun m hm =>?_,fun _ _ h=>h,hy,.refl _ _⟩
 ·have key:∀ (args:List I) (vs:List Value) (t:Nat),aG w D E args vs→bg w D E (args.getD t .undef) (vs.getD t undef):=by
   intro args
   induction args with
   |nil=>intro vs t h;simp only[aG] at h;subst h;simp[bg]
   |cons x xs ih =>
    intro vs t h;simp only[aG] at h;obtain ⟨v,rest,cs,rfl,U,ab,af⟩:=h;cases t with
    |zero=>simpa using jY U ab
    |succ t=>simpa using ih rest t af
  have:=key args vs t hv;have e:(vs.toArray++Array.replicate (n-vs.toArray.size) undef).getD t undef=vs.getD t undef:=by
   simp only[Array.getD_eq_getD_getElem?,zz0];rcases Nat.lt_or_ge t vs.length with h | h
   ·rw[Array.getElem?_append_left (by simpa using h)];simp
   ·rw[Array.getElem?_append_right (by simpa using h),List.getElem?_eq_none h];simp only[Array.getElem?_replicate];split <;>rfl
  simp only[pU];rw[e];exact this
 ·have h:=ho.bP m;simp only[pU];cases hx:aj os m with
  |none=>rw[hx] at h;exact h
  |some x =>
   rw[hx] at h;cases x with
   |box x =>
    obtain ⟨b,cs,T,k1,_,k3⟩:=h;exact ⟨b,cs,T,k1,.inr ⟨m,_,k1,rfl⟩,k3⟩
   |bU T sz es =>
    obtain ⟨aH,k1,k2,k3⟩:=h;refine ⟨aH,k1,k2,?_⟩;cases aH with
    |none=>exact k3
    |some bc =>
     obtain ⟨b,cap⟩:=bc;obtain ⟨cs,pre,rest,_,k4⟩:=k3;exact ⟨cs,pre,rest,.inr ⟨m,_,k1,rfl⟩,k4⟩
   |dD T xs =>
    obtain ⟨aH,k1,k2,k3⟩:=h;refine ⟨aH,k1,k2,?_⟩;cases aH with
    |none=>exact k3
    |some bc =>
     obtain ⟨b,cap⟩:=bc;obtain ⟨cs,rest,_,k4⟩:=k3;exact ⟨cs,rest,.inr ⟨m,_,k1,rfl⟩,k4⟩
   |dC x =>
    obtain ⟨b,k1,_,k3⟩:=h;exact ⟨b,k1,.inr ⟨m,_,k1,rfl⟩,k3⟩
   |bA ks vs =>
    obtain ⟨b,es,ck,k1,_,k3⟩:=h;exact ⟨b,es,ck,k1,.inr ⟨m,_,k1,rfl⟩,k3⟩
   |it ks vs left cur =>
    obtain ⟨r,b,es,ck,si,se,la,k1,_,k3⟩:=h;exact ⟨r,b,es,ck,si,se,la,k1,.inr ⟨m,_,k1,rfl⟩,k3⟩
 ·have h:=ho.bP m;refine hos m ?_;cases hx:aj os m with
  |none=>rw[hx] at h;exact absurd h hm
  |some x=>simp[av,hx]
def s9(tmps:Array Value):ResultVar→Sem Value
 | .tmp t=>pure (tmps.getD t undef)
 | .cell a t=>do loadVar t (←asAddr (tmps.getD a undef))
theorem Zs(fn:Func)(tmps:Array Value):results fn tmps=(do
  let vs ←fn.results.mapM (s9 tmps)
  pure (if h:vs.size=1 then vs[0] else .tuple vs)):=by
 unfold results;rfl
def sU(A:ai):bV→Option I
 | .tmp t=>some (A.t t)
 | .cell a s=>match cJ A (A.t a) with
  |some x=>if b8 s x then some x else none
  |none=>none
def nj(A A0:ai)(os:List (Nat×ao)):List bV→List I→Prop
 | [],[]=>True
 |r::rs,y::ys=>(∃ x,sU A r=some x∧((y=x∧x.bT=true∧x.only (av os)=true)∨bn true A0 x=some y))∧nj A A0 os rs ys
 |_,_=>False
def ai.lh(A:ai)(os:List (Nat×ao)):ai:=⟨A.t,fun n=>if av os n then none else A.o n⟩
def jw(rs:List bV)(post:cA)(A:ai):Prop :=
 ∃ (os:List (Nat×ao)) (xs:List I),(∀ n x,aj os n=some x→A.o n=some x∧x.only (av os)=true∧x.eg=true)∧nj A (A.lh os) os rs xs∧post (kF xs) os
def pF(rs:List bV)(post:cA):Exit→ai→Prop
 | .ret,A=>jw rs post A
 | .normal,A=>jw rs post A
 |_,_=>False
theorem yN{c:cX}{A:ai}{a:Act}{w:World}{D:aU}{E:bf}(hs:aY c A a w D E){A0:ai}(hu:ep A0 A){os:List (Nat×ao)}{D':aU}{E':bf}(hw:iI true A0 D E D')(ay:∀ n,av os n=true→E' n=E n)(hE':∀ n,av os n=false→E' n=none) :
  ∀ (rs:List ResultVar) (ls:List bV) (xs:List I),ig c.P rs=some ls→nj A A0 os ls xs→∃ vs:List Value,(rs.mapM (s9 a.tmps)).run c.P w=.ok vs w∧aG w D' E' xs vs
 | [],ls,xs,hc,hr=>by
  simp only[ig,v6] at hc;subst hc;cases xs with
  |nil=>exact ⟨[],by simp,by simp[aG]⟩
  |cons x xs=>simp[nj] at hr
 |r::rs,ls,xs,hc,hr=>by
  have hl:dU w D E' w D' E':=⟨hw.cZ,fun _ _ _ _ h=>h,fun _ _ _ h=>h,fun _ aH l h=>⟨aH,l,h,zz5 _,fun _=>rfl⟩,fun _ _ h=>h,fun _ _ h=>h,fun _ _ _ _ h=>h⟩
  have fin1:∀ {x y:I} {v:Value},bg w D E x v→((y=x∧x.bT=true∧x.only (av os)=true)∨bn true A0 x=some y)→∃ cs,bG y v cs∧al w D' E' y cs:=by
   intro x y v hv hf;rcases hf with ⟨rfl,U,ab⟩ | hf
   ·have af:=bg.later hl (bg.c9 ay ab hv);cases y <;>simp only[bg] at af <;>first | (simp[I.bT] at U;done) | exact af
   ·have U:aG w D E [x] [v]:=l6 [x] [v] (.cons hv .nil) (by
     intro z hz;simp only[zy1] at hz;subst hz;cases z <;>simp_all[bn,I.bT])
    have ab:=mJ (E':=E') hs hu hw [x] [y] [v] U (by simp[bX,hf]);simp only[aG] at ab;obtain ⟨v',rest,cs,e,k1,k2,_⟩:=ab;simp only[zv0] at e;obtain ⟨rfl,_⟩:=e;exact ⟨cs,k1,k2⟩
  cases r with
  |tmp t =>
   simp only[ig,t7] at hc;obtain ⟨ls',hl',rfl⟩:=hc;cases xs with
   |nil=>simp[nj] at hr
   |cons y ys =>
    simp only[nj] at hr;obtain ⟨⟨x,U,ab⟩,af⟩:=hr;simp only[sU,v6] at U;subst U;obtain ⟨vs,k1,k2⟩:=yN hs hu hw ay hE' rs ls' ys hl' af;obtain ⟨cs,k3,k4⟩:=fin1 (hs.dN t) ab;refine ⟨a.tmps.getD t undef::vs,?_,?_⟩
    ·simp only[List.mapM_cons,Sem.run_bind,s9,Sem.run_pure,Result.andThen_ok,k1]
    ·simp only[aG];exact ⟨_,vs,cs,rfl,k3,k4,k2⟩
  |cell ad t =>
   simp only[ig] at hc;split at hc
   ·rename_i s ls' hk hl';simp only[v6] at hc;subst hc;cases xs with
    |nil=>simp[nj] at hr
    |cons y ys =>
     simp only[nj] at hr;obtain ⟨⟨x,U,ab⟩,af⟩:=hr;obtain ⟨vs,k1,k2⟩:=yN hs hu hw ay hE' rs ls' ys hl' af;simp only[sU] at U;split at U
     ·rename_i z hz;split at U
      ·rename_i hok;simp only[v6] at U;subst U;obtain ⟨b,off,cs,q1,q2,q3⟩:=hs.Ab (hs.dN ad) hz;obtain ⟨v,q4,q5⟩:=GC hk hok q2 q3;obtain ⟨cs',k3,k4⟩:=fin1 q5 ab;refine ⟨v::vs,?_,?_⟩
       ·have e:(s9 a.tmps (.cell ad t)).run c.P w=.ok v w:=by
         simp only[s9,Sem.run_bind,q1,asAddr,Sem.run_pure,Result.andThen_ok,q4]
        simp only[List.mapM_cons,Sem.run_bind,Sem.run_pure,Result.andThen_ok,k1,e]
       ·simp only[aG];exact ⟨_,vs,cs',rfl,k3,k4,k2⟩
      ·cases U
     ·cases U
   ·cases hc
theorem aY.BM{c:cX}{A:ai}{a:Act}{w:World}{D:aU}{E:bf}(h:aY c A a w D E)(hb:c.fx=none){B:Nat}{ds:List Deferred}(ah:a.defers = { target:=.collected B,args := #[] } :: ds) :
  w.heap[B]?=some (.deferred (some []))∧aY c A { a with defers:=ds } (w.putObj B (.deferred none)) D E:=by
 have hdf:=h.eB;rw[hb] at hdf;obtain ⟨Bs,U,ab,af⟩:=hdf;rw[ah] at U;cases Bs with
 |nil=>cases U
 |cons B' Bs =>
  simp only[zz4,zv0,Deferred.mk.injEq,Target.collected.injEq,and_true] at U;obtain ⟨rfl,rfl⟩:=U;have hB:=af B (by simp);have hlt:B<w.heap.size:=(zy7.1 hB.2).1;have hl:dU w D E (w.putObj B (.deferred none)) D E :=
   ⟨fun _ _ h=>h,fun b o v _ hv=>wM hB.2 rfl hv,fun _ _ _ h=>h,fun _ aH l h=>⟨aH,l,h,zz5 _,fun _=>rfl⟩,fun _ _ h=>h,fun _ _ h=>h,fun b es ck _ hm=>(World.putObj_heap_other (fun e=>by rw[e,hB.2] at hm;cases hm)).trans hm⟩
  have hne:∀ {b:Nat} {cs:Array Value} {T:TypeId},w.heap[b]?=some (.cells cs T (0,0))→(w.putObj B (.deferred none)).heap[b]?=w.heap[b]?:=fun {b cs T} hb =>
   World.putObj_heap_other (fun e=>by rw[e,hB.2] at hb;cases hb)
  refine ⟨hB.2,h.sz,by rw[hb];refine ⟨Bs,rfl,(List.nodup_cons.1 ab).2,fun B2 hB2=>⟨(af B2 (by simp[hB2])).1,?_⟩⟩;rw[World.putObj_heap_other (fun e=>(List.nodup_cons.1 ab).1 (by rw[←e];exact hB2))];exact (af B2 (by simp[hB2])).2,fun t=>bg.later hl (h.dN t),h.dG.trans ⟨rfl,rfl,rfl,by simp,fun k hk =>?_⟩,h.cZ,fun b o ah=>by have:=h.aQ b o ah;simpa using this,fun n =>?_,h.cO,h.dQ,h.eL,h.cR,h.eV,h.lp hl⟩
  ·exact World.putObj_heap_other (fun e=>hk (e▸.inl hB.1))
  ·refine (h.bP n).later hl rfl fun e b he hb=>⟨?_,fun _ h=>h⟩
   have hob:=h.bP n;unfold cN at hob;split at hob
   ·rw[hob] at he;cases he
   ·obtain ⟨b',cs,T,k1,_,k3,_⟩:=hob;rw[k1,v6] at he;subst he;simp only[bM.aH,v6] at hb;subst hb;exact hne k3
   ·obtain ⟨aH,k1,_,k3⟩:=hob;rw[k1,v6] at he;subst he;split at k3
    ·simp[bM.aH] at hb
    ·obtain ⟨cs,pre,rest,_,k5,_⟩:=k3;simp only[bM.aH,v6] at hb;subst hb;exact hne k5
   ·obtain ⟨b',k1,_,k3,k4,_⟩:=hob;rw[k1,v6] at he;subst he;simp only[bM.aH,v6] at hb;subst hb;exact World.putObj_heap_other (fun e=>by rw[e,hB.2] at k3;cases k3;cases k4)
   ·obtain ⟨b',es,ck,k1,_,k3,_⟩:=hob;rw[k1,v6] at he;subst he;cases hb;exact World.putObj_heap_other (fun e=>by rw[e,hB.2] at k3;cases k3)
   ·obtain ⟨r,b',es,ck,si,se,la,k1,_,k3,_⟩:=hob;rw[k1,v6] at he;subst he;cases hb;exact World.putObj_heap_other (fun e=>by rw[e,hB.2] at k3;cases k3)
   ·obtain ⟨aH,k1,_,k3⟩:=hob;rw[k1,v6] at he;subst he;split at k3
    ·simp[bM.aH] at hb
    ·obtain ⟨cs,m,_,k5,_⟩:=k3;simp only[bM.aH,v6] at hb;subst hb;exact hne k5
def mu(w:World)(D:aU)(E:bf)(post:cA)(v:Value)(w':World):Prop :=
 ∃ D' E' r os',post r os'∧bg w' D' E' r v∧ki (fun b=>w.heap.size≤b∨cE E b) w' D' E' (aj os') ∧
  e8 (fun b=>w.heap.size≤b∨cE E b) w w'∧(∀ b o,D b o→D' b o)∧(∀ b o,D' b o→b<w'.heap.size)∧(∀ b o,D' b o→b<w.heap.size→¬ cE E b→D b o) ∧
  (∀ n e,E n=some e→av os' n=true→∃ e',E' n=some e'∧e.le e')∧h4 w D w'
theorem aY.xS{P:Program}{n:Nat}{w:World}{D:aU}{E:bf}{Y:Value→List I→List (Nat×ao)→cA→Prop}{l4:Option Nat}{fx:Option (List Deferred)}{A:ai}{a:Act}{w':World}{D':aU}{E':bf}
  (hs:aY ⟨P,w,D,n,cE E,E,Y,l4,fx⟩ A a w' D' E') {os:List (Nat×ao)} (U:∀ n x,aj os n=some x→A.o n=some x∧x.only (av os)=true∧x.eg=true) :
  ∃ D2 E2,iI true (A.lh os) D' E' D2∧(∀ n,av os n=true→E2 n=E' n)∧(∀ n,av os n=false→E2 n=none)∧ki (fun b=>w.heap.size≤b∨cE E b) w' D2 E2 (aj os) ∧
   e8 (fun b=>w.heap.size≤b∨cE E b) w w'∧(∀ b o,D b o→D2 b o)∧(∀ b o,D2 b o→b<w'.heap.size)∧(∀ b o,D2 b o→b<w.heap.size→¬ cE E b→D b o) ∧
   (∀ n e,E n=some e→av os n=true→∃ e',E2 n=some e'∧e.le e')∧h4 w D w':=by
 obtain ⟨c,hc⟩:∃ c:cX,c=⟨P,w,D,n,cE E,E,Y,l4,fx⟩:=⟨_,rfl⟩
 rw[←hc] at hs;have hM:c.e9=fun b=>w.heap.size≤b∨cE E b:=by rw[hc];rfl
 obtain ⟨E2,hE2⟩:∃ E2:bf,E2=fun n=>if av os n then E' n else none:=⟨_,rfl⟩
 obtain ⟨D2,hD2⟩:∃ D2:aU,D2=fun b o=>b<w'.heap.size∧(D' b o∨(¬ cE E2 b∧c.e9 b)):=⟨_,rfl⟩
 have e2:∀ n,av os n=true→E2 n=E' n:=fun n hn=>by rw[hE2];simp only[hn,if_true]
 have kj:∀ n e,E2 n=some e→av os n=true∧E' n=some e:=fun n e he=>by
  rw[hE2] at he;simp only at he;split at he
  ·exact ⟨by assumption,he⟩
  ·cases he
 have up2:∀ b o,D' b o→D2 b o:=fun b o ah=>by
  rw[hD2];exact ⟨hs.aQ b o ah,.inl ah⟩
 have down:∀ b o,D2 b o→cE E2 b→D' b o:=fun b o ah hb=>by
  rw[hD2] at ah;rcases ah.2 with h | h
  ·exact h
  ·exact absurd hb h.1
 have hu:ep (A.lh os) A:=fun n x hx=>by
  simp only[ai.lh] at hx;split at hx
  ·cases hx
  ·exact hx
 have notOwn:∀ n e b,(A.lh os).o n≠none→E' n=some e→e.aH=some b→¬ cE E2 b:=fun n e b hn he hb ho=>by
  obtain ⟨m,e',k1,k3⟩:=ho;obtain ⟨k1,k2⟩:=kj m e' k1;have:=hs.cO n m e _ b he k2 hb k3;subst this;simp[ai.lh,k1] at hn
 have hw:iI true (A.lh os) D' E' D2:=by
  refine ⟨up2,fun n T sz es b cap hn ay o _ =>?_,fun _ n x b bd hn ay o _ =>?_,fun _ n ks vs b hn ay =>?_⟩
  ·rw[hD2];refine ⟨hs.gq ay rfl,.inr ⟨notOwn n _ b (by rw[hn];simp) ay rfl,?_⟩⟩;obtain ⟨aH,k1,k2,k3⟩:=hs.bU (hu n _ hn);rw[ay] at k1;simp only[v6,bM.rw.injEq,and_true] at k1;subst k1;obtain ⟨_,_,_,k4,_⟩:=k3;exact k4
  ·rw[hD2];refine ⟨hs.gq ay rfl,.inr ⟨notOwn n _ b (by rw[hn];simp) ay rfl,?_⟩⟩;obtain ⟨b',cs,T,k1,k2,_⟩:=hs.box (hu n _ hn);rw[k1] at ay;simp only[v6,bM.aJ.injEq] at ay;obtain ⟨rfl,_⟩:=ay;exact k2
  ·rw[hD2];refine ⟨hs.gq ay rfl,.inr ⟨notOwn n _ b (by rw[hn];simp) ay rfl,?_⟩⟩;obtain ⟨b',es,ck,k1,k2,_⟩:=hs.map (hu n _ hn);rw[k1] at ay;cases ay;exact k2
 have hst:h4 w D w':=by
  have:=hs.fw;rw[hc] at this;exact this
 refine ⟨D2,E2,hw,e2,fun n hn=>by rw[hE2];simp[hn],⟨fun m =>?_,fun m m' e e' b g1 g2 g3 g4 =>?_⟩,?_,fun b o ah=>up2 b o (hs.cR b o (by rw[hc];exact ah)),fun b o ah=>by rw[hD2] at ah;exact ah.1,fun b o ah hlt hno =>?_,fun m e hm hin =>?_,hst⟩
 ·cases hx:aj os m with
  |none=>simp only[cN];rw[hE2];simp[av,hx]
  |some x =>
   have hm:av os m=true:=by simp[av,hx]
   obtain ⟨k1,k2,k3⟩:=U m x hx;have ho:=hs.bP m;rw[k1] at ho;have hl2:dU w' D' E2 w' D2 E2:=⟨up2,fun _ _ _ _ h=>h,fun _ _ _ h=>h,fun _ aH l h=>⟨aH,l,h,zz5 _,fun _=>rfl⟩,fun _ _ h=>h,fun _ _ h=>h,fun _ _ _ _ h=>h⟩
   have nD:∀ e b,E' m=some e→e.aH=some b→∀ o,D2 b o→D' b o:=fun e b he hb o ah=>down b o ah ⟨m,e,(e2 m hm).trans he,hb⟩;cases x with
   |bU T sz es =>
    obtain ⟨aH,q1,q2,q3⟩:=ho;refine ⟨aH,(e2 m hm).trans q1,q2,?_⟩;cases aH with
    |none=>exact q3
    |some bc =>
     obtain ⟨b,cap⟩:=bc;obtain ⟨cs,pre,rest,g1,g2,g3,g4,g5,g6,g7,g8⟩:=q3;exact ⟨cs,pre,rest,by rw[←hM];exact g1,g2,g3,aP.later hl2 _ _ (aP.c9 e2 _ _ (by simpa[ao.only] using k2) g4),g5,g6,g7,fun o ah=>g8 o (nD _ b q1 rfl o ah)⟩
   |box y =>
    obtain ⟨b',cs,T,q1,q2,q3,q4,q5⟩:=ho;exact ⟨b',cs,T,(e2 m hm).trans q1,by rw[←hM];exact q2,q3,al.later hl2 _ _ (al.c9 e2 _ _ (by simpa[ao.only] using k2) q4),fun o ah=>q5 o (nD _ b' q1 rfl o ah)⟩
   |dC o =>
    obtain ⟨b',q1,q2,q3,q4,q5⟩:=ho;exact ⟨b',(e2 m hm).trans q1,by rw[←hM];exact q2,q3,q4,fun o ah=>q5 o (nD _ b' q1 rfl o ah)⟩
   |bA ks vs =>
    obtain ⟨b',es,ck,q1,q2,q3,q4,q5,q6,q7⟩:=ho;simp only[ao.only,t8] at k2;exact ⟨b',es,ck,(e2 m hm).trans q1,by rw[←hM];exact q2,q3,q4,aG.later hl2 _ _ (aG.c9 e2 _ _ k2.1 q5),aG.later hl2 _ _ (aG.c9 e2 _ _ k2.2 q6),fun o ah=>q7 o (nD _ b' q1 rfl o ah)⟩
   |it ks vs left cur=>cases k3
   |dD T xs =>
    obtain ⟨aH,q1,q2,q3⟩:=ho;refine ⟨aH,(e2 m hm).trans q1,q2,?_⟩;cases aH with
    |none=>exact q3
    |some bc =>
     obtain ⟨b,cap⟩:=bc;obtain ⟨cs,r,g1,g2,g3,g4,g5,g6,g7⟩:=q3;exact ⟨cs,r,by rw[←hM];exact g1,g2,g3,g4,g5,g6,fun o ah=>g7 o (nD _ b q1 rfl o ah)⟩
 ·exact hs.cO m m' e e' b (kj m e g1).2 (kj m' e' g2).2 g3 g4
 ·rw[←hM];have:=hs.dG;rw[hc] at this ⊢;exact this
 ·rw[hD2] at ah;have hnm:¬ c.e9 b:=by
    rw[hM];rintro (h | h);· omega
    ·exact hno h
  rcases ah.2 with h | h
  ·have:=hs.cZ b o h hnm;rw[hc] at this;exact this
  ·exact absurd h.2 hnm
 ·rw[e2 m hin];have ho:A.o m≠none:=by
   cases hx:aj os m with
   |none=>simp[av,hx] at hin
   |some x=>rw[(U m x hx).1];simp
  rcases hs.dQ m e (by rw[hc];exact hm) with h | h
  ·have hob:=hs.bP m;cases hx:A.o m with
   |none=>exact absurd hx ho
   |some x=>rw[hx] at hob;exact absurd h (uX hob)
  ·exact h
theorem aY.uI{P:Program}{n:Nat}{w:World}{D:aU}{E:bf}{Y:Value→List I→List (Nat×ao)→cA→Prop}{fx:Option (List Deferred)}{rs:List bV}{post:cA}{fn:Func}{A:ai}{a:Act}{w':World}{D':aU}{E':bf}
  (hs:aY ⟨P,w,D,n,cE E,E,Y,none,fx⟩ A a w' D' E') (hrs:ig P fn.results.toList=some rs) (h:jw rs post A):∃ v,(results fn a.tmps).run P w'=.ok v w'∧mu w D E post v w':=by
 obtain ⟨os,xs,U,ab,af⟩:=h;obtain ⟨D2,E2,hw,e2,e2n,q1,q2,q3,q4,q5,q6⟩:=hs.xS U;have hu:ep (A.lh os) A:=fun n x hx=>by
  simp only[ai.lh] at hx;split at hx
  ·cases hx
  ·exact hx
 obtain ⟨vs,k1,k2⟩:=yN hs hu (os:=os) (E':=E2) hw e2 e2n fn.results.toList rs xs hrs ab;have hres:(results fn a.tmps).run P w'=.ok (if h:vs.toArray.size=1 then vs.toArray[0] else .tuple vs.toArray) w':=by
  rw[Zs,Sem.run_bind,Array.mapM_eq_mapM_toList,Sem.run_map,k1];rfl
 refine ⟨_,hres,D2,E2,kF xs,os,af,?_,q1,q2,q3,q4,q5,q6⟩
 match xs,vs,k2 with
 | [x],vs,k2 =>
  simp only[aG] at k2;obtain ⟨v,rest,cs,rfl,q1,q2,rfl⟩:=k2;simpa[kF] using jY q1 q2
 | [],vs,k2 =>
  simp only[aG] at k2;subst k2;simp[kF,bg,aG]
 |x::y::xs,vs,k2 =>
  have hl:vs.length≠1:=by
   simp only[aG] at k2;obtain ⟨v,rest,cs,rfl,_,_,v2,rest2,cs2,rfl,_⟩:=k2;simp
  simp only[kF,bg];exact ⟨vs,by simp[hl],k2⟩
theorem DM{P:Program}{n:Nat}{w:World}{D:aU}{E:bf}{Y:Value→List I→List (Nat×ao)→cA→Prop}{rs:List bV}{post:cA}{fn:Func}{A:ai}{D':aU}{E':bf}(hrs:ig P fn.results.toList=some rs)(h:jw rs post A) :
  ∀ (ds:List Deferred) (a:Act) (w':World),a.defers=ds→aY ⟨P,w,D,n,cE E,E,Y,none,none⟩ A a w' D' E'→LeavesInM Fence.wide 9 P fn a.tmps (fun e w'=>∃ v,e=.returned v∧mu w D E post v w') ds .returning w'
 | [],a,w',_,hs=>by
  obtain ⟨v,U,ab⟩:=hs.uI hrs h;exact ⟨v,U,v,rfl,ab⟩
 |d::ds,a,w',ah,hs=>by
  obtain ⟨Bs,U,_⟩:=hs.eB;rw[ah] at U;cases Bs with
  |nil=>cases U
  |cons B Bs =>
   simp only[zz4,zv0] at U;obtain ⟨rfl,rfl⟩:=U;obtain ⟨k1,k2⟩:=hs.BM rfl ah;exact ⟨by simp,.inl ⟨B,_,rfl,run_takeDeferred k1,DM hrs h _ { a with defers:=Bs.map _ } _ rfl k2⟩⟩
theorem te{w:World}{D:aU}{E:bf} : ∀ {args:List I} {vs:List Value},aG w D E args vs→vs.length=args.length
 | [],vs,h=>by simp only[aG] at h;subst h;rfl
 |x::xs,vs,h=>by
  simp only[aG] at h;obtain ⟨v,rest,cs,rfl,_,_,af⟩:=h;simp[te af]
def lq(P:Program)(f:FuncId)(Y:Value→List I→List (Nat×ao)→cA→Prop)(args:List I)(os:List (Nat×ao))(post:cA):Prop :=
 fe P f=true∧∀ (w:World) (D:aU) (E:bf) (vs:List Value),(∀ n,p9 ⟨P,w,D,n,cE E,E,Y,none,none⟩)→(∀ b o,D b o→b<w.heap.size)→ki (fun _=>True) w D E (aj os)→aG w D E args vs →
  Calls P f vs.toArray w fun e w'=>∃ v,e=.returned v∧mu w D E post v w'
theorem lq.uY{P:Program}{f:FuncId}{fn:Func}{body:Code}{x:bD}{rs:List bV}{Y:Value→List I→List (Nat×ao)→cA→Prop}{args:List I}{os:List (Nat×ao)}{post:cA}(hf:P.funcs[f]?=some fn)(hb:fn.body=some body)(hcall:fe P f=true)(hc:eE P fn.ntmps body=some x)
  (hrs:ig P fn.results.toList=some rs) (hn:args.length≤fn.ntmps) (hos:∀ m,av os m=true→fn.ntmps≤m∧1000000≤m) (h:∀ (w:World) (D:aU) (E:bf),ae ⟨P,w,D,fn.ntmps,cE E,E,Y,none,none⟩ x (pF rs post) (pU args os)):lq P f Y args os post:=by
 refine ⟨hcall,fun w D E vs hy hD ho hv =>?_⟩;have hlen:=te hv;have hsim:=zg (P:=P) (n:=fn.ntmps) (Y:=Y) hD ho hv (by omega) hos (hy fn.ntmps);refine (callsIn_wide (n:=9)).1 (callsIn_of_wp_marks hf hb trivial ?_);refine wpIn_mono (h w D E body hc _ w ⟨D,E,hsim⟩) ?_;rintro e a w' ⟨A,hq,D',E',hs⟩;cases e <;>simp only[pF] at hq <;>first
  |exact DM hrs hq a.defers a w' rfl hs
  |cases hq
theorem rp{P:Program}{w:World}{D:aU}{E:bf}{n:Nat}{fx:Option (List Deferred)}(hl:h2 P w (cE E)):p9 ⟨P,w,D,n,cE E,E,dv,none,fx⟩:=⟨hl,fun _ _ _ _ h=>h.elim⟩
theorem cQ.Et{P:Program}{f:FuncId}{args:List I}{os:List (Nat×ao)}{post:cA}(h:lq P f dv args os post):cQ P f args os post :=
 ⟨h.1,fun w D E vs hl hD ho hv=>(h.2 w D E vs (fun _=>rp hl) hD ho hv).mono fun e w' ⟨v,he,D',E',r,os',k⟩=>⟨v,D',E',r,os',he,k⟩⟩
theorem bm.Yr{P:Program}{f:FuncId}{args:List I}{r:I}(h:cQ P f args [] (fun r' os'=>r'=r∧os'=[])):bm P f args r:=by
 refine ⟨h.1,fun w D vs hl hD hv =>?_⟩;have hh:ki (fun _=>True) w D dn (aj []):=⟨fun n=>rfl,fun n m e e' b h=>by simp[dn] at h⟩
 refine (h.2 w D dn vs (hl.uJ fun b ⟨n,e,U,_⟩=>by simp[dn] at U) hD hh hv).mono fun e w' hq =>?_;obtain ⟨v,D',E',r',os',he,⟨U,ab⟩,k1,k2,k3,k4,k5,k6,_⟩:=hq;subst U ab;refine ⟨v,D',he,?_,?_,k5,fun b o ah hlt=>k6 b o ah hlt fun ⟨n,e,h,_⟩=>by simp[dn] at h⟩
 ·have:E'=dn:=by funext n;exact k2.bP n
  rw[←this];exact k1
 ·exact k3.I7 fun k hk hm=>by
   rcases hm with hm | ⟨n,e,h,_⟩
   ·omega
   ·simp[dn] at h
theorem ZK(A:ai):A.lh []=A:=rfl
theorem Gr{A:ai} : ∀ {rs:List bV} {xs:List I},fi A rs=some xs→nj A (A.lh []) [] rs xs
 | [],xs,h=>by simp only[fi,v6] at h;subst h;trivial
 |r::rs,xs,h=>by
  simp only[fi] at h;split at h
  ·rename_i x xs' U ab;simp only[v6] at h;subst h;refine ⟨?_,Gr ab⟩;rw[ZK];cases r with
   |tmp t=>exact ⟨_,rfl,.inr U⟩
   |cell a s =>
    simp only[vu,sU] at U ⊢;split at U
    ·rename_i y hy;split at U
     ·rename_i hok;exact ⟨y,by simp[hok],.inr U⟩
     ·cases U
    ·cases U
  ·cases h
theorem Zt{rs:List bV}{r:I}{e:Exit}{A:ai}(h:kZ rs r e A):pF rs (fun r' os'=>r'=r∧os'=[]) e A:=by
 cases e <;>simp only[kZ] at h <;>first
  |exact h.elim
  |(obtain ⟨xs,U,ab⟩:=h
    exact ⟨[],xs,fun n x hx=>by simp[aj] at hx,Gr U,ab,rfl⟩)
theorem bm.uY{P:Program}{f:FuncId}{fn:Func}{body:Code}{x:bD}{rs:List bV}{args:List I}{r:I}(hf:P.funcs[f]?=some fn)(hb:fn.body=some body)(hcall:fe P f=true)(hc:eE P fn.ntmps body=some x)
  (hrs:ig P fn.results.toList=some rs) (hn:args.length≤fn.ntmps) (h:∀ (w:World) (D:aU) (E:bf),ae ⟨P,w,D,fn.ntmps,cE E,E,dv,none,none⟩ x (kZ rs r) (pT args)):bm P f args r:=by
 refine bm.Yr (cQ.Et (lq.uY hf hb hcall hc hrs hn (fun m hm=>by simp[av,aj] at hm) fun w D E =>?_));exact (h w D E).mono fun e B hq=>Zt hq
end Go.Abs
namespace Go.Abs
open Go Go.RowKit
def cn(ts:List (Nat×I)):List (Nat×I)→Prop
 | []=>True
 |(k,v)::r=>bI ts k=v∧cn ts r
def cY(os:List (Nat×ao)):List (Nat×ao)→Prop
 | []=>True
 |(k,v)::r=>aj os k=some v∧cY os r
def cu(p:Nat→Bool):List (Nat×I)→Prop
 | []=>True
 |(_,v)::r=>v.only p=true∧cu p r
theorem vG{ts:List (Nat×I)} : ∀ {ts':List (Nat×I)},cn ts ts'→∀ k,bI ts' k=.du∨bI ts' k=bI ts k
 | [],_,k=>.inl rfl
 |(j,v)::r,h,k=>by
  simp only[cn] at h;simp only[bI];split
  ·rename_i hk;subst hk;exact .inr h.1.symm
  ·exact vG h.2 k
theorem GW{os:List (Nat×ao)} : ∀ {os':List (Nat×ao)},cY os os'→∀ k,aj os' k=none∨aj os' k=aj os k
 | [],_,k=>.inl rfl
 |(j,v)::r,h,k=>by
  simp only[cY] at h;simp only[aj];split
  ·rename_i hk;subst hk;exact .inr h.1.symm
  ·exact GW h.2 k
theorem u6{p:Nat→Bool} : ∀ {ts:List (Nat×I)},cu p ts→∀ k,(bI ts k).only p=true
 | [],_,k=>by simp[bI,I.only]
 |(j,v)::r,h,k=>by
  simp only[cu] at h;simp only[bI];split
  ·exact h.1
  ·exact u6 h.2 k
theorem EB{p:Nat→Bool} : ∀ {os:List (Nat×ao)},cB p os→∀ k x,aj os k=some x→x.only p=true
 | [],_,k,x,hx=>by simp[aj] at hx
 |(j,v)::r,h,k,x,hx=>by
  simp only[cB] at h;simp only[aj] at hx;split at hx
  ·simp only[v6] at hx;subst hx;exact h.1
  ·exact EB h.2 k x hx
theorem bt.c8{ts ts':List (Nat×I)}{os os':List (Nat×ao)}(U:cn ts ts')(ab:cY os os')(af:cu (av os') ts')(aq:cB (av os') os'):bt (au ts os) (au ts' os'):=by
 rintro c a w ⟨D,E,hs⟩;have hp:∀ n,av os' n=true→(if av os' n then E n else none)=E n:=fun n hn=>by simp[hn]
 refine ⟨D,fun n=>if av os' n then E n else none,hs.sz,hs.eB,fun t =>?_,hs.dG,hs.cZ,hs.aQ,fun n =>?_,fun n m e e' b U ab af aq =>?_,fun n e hn =>?_,hs.eL,hs.cR,hs.eV,hs.fw⟩
 ·have:=vG U t;rcases this with h | h
  ·simp only[au];rw[h];simp[bg]
  ·refine bg.c9 (p:=av os') hp (u6 af t) ?_;have:=hs.dN t;simp only[au] at *;rw[h];exact this
 ·have ho:=hs.bP n;simp only[au] at *;rcases GW ab n with h | h
  ·rw[h];simp[cN,av,h]
  ·rw[h];by_cases hin:aj os n=none
   ·rw[hin];simp[cN,av,h,hin]
   ·have ay:(if av os' n then E n else none)=E n:=hp n (by simp[av,h];cases hh:aj os n <;>simp_all);cases hx:aj os n with
    |none=>exact absurd hx hin
    |some x =>
     have hon:=EB aq n x (h.trans hx);rw[hx] at ho;cases x with
     |box x =>
      obtain ⟨b,cs,T,k1,k2,k3,k4,k5⟩:=ho;exact ⟨b,cs,T,ay.trans k1,k2,k3,al.c9 hp _ _ (by simpa[ao.only] using hon) k4,k5⟩
     |bU T sz es =>
      obtain ⟨aH,k1,k2,k3⟩:=ho;refine ⟨aH,ay.trans k1,k2,?_⟩;cases aH with
      |none=>exact k3
      |some bc =>
       obtain ⟨b,cap⟩:=bc;obtain ⟨cs,pre,rest,q1,q2,q3,q4,q5⟩:=k3;exact ⟨cs,pre,rest,q1,q2,q3,aP.c9 hp _ _ (by simpa[ao.only] using hon) q4,q5⟩
     |dD T xs =>
      obtain ⟨aH,k1,k2,k3⟩:=ho;exact ⟨aH,ay.trans k1,k2,k3⟩
     |dC x =>
      obtain ⟨b,k1,k2⟩:=ho;exact ⟨b,ay.trans k1,k2⟩
     |bA ks vs =>
      obtain ⟨b,es,ck,k1,k2,k3,k4,k5,k6,k7⟩:=ho;simp only[ao.only,t8] at hon;exact ⟨b,es,ck,ay.trans k1,k2,k3,k4,aG.c9 hp _ _ hon.1 k5,aG.c9 hp _ _ hon.2 k6,k7⟩
     |it ks vs left cur =>
      obtain ⟨r,b,es,ck,si,se,la,k1,k2,k3,k4,k5,k6,k7⟩:=ho;simp only[ao.only,t8] at hon;exact ⟨r,b,es,ck,si,se,la,ay.trans k1,k2,k3,k4,aG.c9 hp _ _ hon.1 k5,aG.c9 hp _ _ hon.2 k6,k7⟩
 ·refine hs.cO n m e e' b ?_ ?_ af aq
  ·split at U
   ·exact U
   ·cases U
  ·split at ab
   ·exact ab
   ·cases ab
 ·by_cases hi:av os' n=true
  ·simp only[hi,if_true];exact hs.dQ n e hn
  ·simp only[hi];exact .inl rfl
def bQ:Nat→List I→List (Nat×I)
 |_,[]=>[]
 |k,a::as=>(k,a)::bQ (k+1) as
theorem D0:∀ (as:List I) (k t:Nat),bI (bQ k as) t=if t<k then .du else (as[t-k]?).getD .du
 | [],k,t=>by simp[bQ,bI]
 |a::as,k,t=>by
  simp only[bQ,bI,D0 as (k+1) t];by_cases h:t=k
  ·subst h;simp
  ·rw[if_neg h];by_cases ab:t<k
   ·rw[if_pos (by omega),if_pos ab]
   ·rw[if_neg (by omega),if_neg ab,show t-k=(t-(k+1))+1 from by omega];simp
theorem vE(args:List I)(os:List (Nat×ao)):bt (pU args os) (au (bQ 0 args) os):=by
 rintro c a w ⟨D,E,hs⟩;refine ⟨D,E,hs.sz,hs.eB,fun t =>?_,hs.dG,hs.cZ,hs.aQ,hs.bP,hs.cO,hs.dQ,hs.eL,hs.cR,hs.eV,hs.fw⟩;have:=hs.dN t;simp only[au,D0,pU,Nat.not_lt_zero,if_false,Nat.sub_zero] at *;cases h:args[t]? with
 |none=>simp[bg]
 |some x=>simpa[zz0,h] using this
theorem aah(args:List I):bt (pT args) (au (bQ 0 args) []):=vE args []
theorem uR(ts:List (Nat×I))(os:List (Nat×ao))(d:Nat)(v:I):(au ts os).put d v=au ((d,v)::ts) os:=rfl
theorem Ef(ts:List (Nat×I))(os:List (Nat×ao))(d:Nat)(v:I):(au ts os).aX (some d) v=au ((d,v)::ts) os:=rfl
theorem Xy(A:ai)(v:I):A.aX none v=A:=rfl
theorem sA(ts:List (Nat×I))(os:List (Nat×ao))(d:Nat)(x:ao):(au ts os).aV d x=au ts ((d,x)::os):=rfl
theorem Xz(ts:List (Nat×I))(os:List (Nat×ao))(k:Nat):(au ts os).t k=bI ts k:=rfl
theorem Xx(ts:List (Nat×I))(os:List (Nat×ao))(k:Nat):(au ts os).o k=aj os k:=rfl
theorem cw(j:Nat)(v:I)(r:List (Nat×I))(k:Nat):bI ((j,v)::r) k=if k=j then v else bI r k:=rfl
theorem cW(j:Nat)(v:ao)(r:List (Nat×ao))(k:Nat):aj ((j,v)::r) k=if k=j then some v else aj r k:=rfl
theorem sw(k:Nat):aj [] k=none:=rfl
theorem NQ(A:ai)(k:Nat):ak A (.t k)=A.t k:=rfl
theorem NP(A:ai)(x:I):ak A (.c x)=x:=rfl
noncomputable def dj(d:Option Nat)(rest:List aw)(A:ai)(v:I):cM:=aA rest (A.aX d v)
theorem W3(d:Option Nat)(rest:List aw)(A:ai)(v:I):dj d rest A v=aA rest (A.aX d v):=rfl
theorem Jr(v:I)(k:I→cM):cT (some v) k=k v:=rfl
theorem IJ(A:ai):aA [] A=.done A:=rfl
noncomputable def bL(A:ai)(d:Option Nat)(op:bS)(rest:List aw):cM:=bo A d op rest (aA rest)
noncomputable def il(x:I)(b:Bool)(d:Option Nat)(op:bS)(rest:List aw)(A:ai):cM :=
 match x with
 | .bool b'=>if b'=b then bL A d op rest else aA rest (A.aX d .undef)
 | .undef=>aA rest (A.aX d .undef)
 |_=>.fail
theorem aT.guard{P:Program}{Y:Value→List I→List (Nat×ao)→cA→Prop}{dr:Bool}{K:ai→Prop}{x b:Bool}{d:Option Nat}{op:bS}{rest:List aw}{A:ai}(U:x=b→aT P Y dr K (bL A d op rest))(ab:x = !b→aT P Y dr K (aA rest (A.aX d .undef))):aT P Y dr K (il (.bool x) b d op rest A):=by
 unfold il;by_cases h:x=b
 ·simp only[if_pos h];exact U h
 ·simp only[if_neg h];exact ab (by cases x <;>cases b <;>simp_all)
def I.dP:I→Option (List I)
 | .agg fs=>some fs
 |_=>none
def qg(p:List Nat):Option I→Option I
 |some f=>f.at p
 |none=>none
def nN(i:Nat)(p:List Nat):Option (List I)→Option I
 |some fs=>qg p fs[i]?
 |none=>none
theorem IZ(c:I):c.at []=some c:=by cases c <;>rfl
theorem IY(c:I)(i:Nat)(p:List Nat):c.at (i::p)=nN i p c.dP:=by
 cases c <;>first | rfl | (rename_i fs;simp only[I.at,nN,I.dP,qg])
def y8(fs:List I)(i:Nat)(p:List Nat)(v:I):Option I→I
 |some f=>.agg (fs.set i (f.eA p v))
 |none=>.agg fs
def vz(c:I)(i:Nat)(p:List Nat)(v:I):Option (List I)→I
 |some fs=>y8 fs i p v fs[i]?
 |none=>c
theorem ri(c v:I):c.eA [] v=v:=by cases c <;>rfl
theorem ZO(c:I)(i:Nat)(p:List Nat)(v:I):c.eA (i::p) v=vz c i p v c.dP:=by
 cases c <;>first | rfl | (rename_i fs;simp only[I.eA,vz,I.dP];cases fs[i]? <;>rfl)
def fA(p:List Nat):Option ao→Option I
 |some (.box c)=>c.at p
 |_=>none
def ij(A:ai):I→Option I
 | .ref x=>some x
 | .ptr n p=>fA p (A.o n)
 |_=>none
theorem mG(A:ai)(x:I):cJ A x=ij A x:=by
 cases x <;>first | rfl | (rename_i n p;simp only[cJ,ij];cases A.o n with | none=>rfl | some y=>cases y <;>rfl)
def u0(s:Option Nat)(x:I):Option I:=if b8 s x=true then some x else none
def pn(s:Option Nat):Option I→Option I
 |some x=>u0 s x
 |none=>none
open Classical in
noncomputable def dR(fs:List I)(f off:Nat)(y:I):Option I:=if f<fs.length∧I.sizes (fs.take f)=off then some y else none
noncomputable def rV(n:Nat)(p:List Nat)(f off:Nat):Option (List I)→Option I
 |some fs=>dR fs f off (.ptr n (p++[f]))
 |none=>none
noncomputable def qz(fs:List I)(f off:Nat):Option I→Option I
 |some v=>dR fs f off (.ref v)
 |none=>none
noncomputable def rW(f off:Nat):Option (List I)→Option I
 |some fs=>qz fs f off fs[f]?
 |none=>none
def fR:Option I→Option (List I)
 |some x=>x.dP
 |none=>none
noncomputable def jy(A:ai)(f off:Nat):I→Option I
 | .ref c=>rW f off c.dP
 | .ptr n p=>rV n p f off (fR (fA p (A.o n)))
 |_=>none
theorem YU(A:ai)(f off:Nat)(x:aR):bq A (.fa f off x)=jy A f off (ak A x):=by
 simp only[bq];generalize ak A x=y;cases y with
 |ref c =>
  cases c <;>simp only[jy,I.dP,rW]
  rename_i fs;cases h:fs[f]? with
  |none=>simp[qz]
  |some v =>
   have hl:f<fs.length:=(zz8.1 h).1;simp only[qz,dR,hl,true_and]

 |ptr n p =>
  simp only[jy,mG,ij];cases fA p (A.o n) with
  |none=>simp[fR,rV]
  |some c =>
   cases c <;>simp only[fR,I.dP,rV]
   simp only[dR]

 |_=>simp only[jy]
noncomputable def r0(f off:Nat)(s:Option Nat):Option (List I)→Option I
 |some fs=>match fs[f]? with
  |some v=>(dR fs f off v).bind (u0 s)
  |none=>none
 |none=>none
theorem YV(A:ai)(f off:Nat)(s:Option Nat)(x:aR):bq A (.fl f off s x)=r0 f off s (ak A x).dP:=by
 simp only[bq];generalize ak A x=y;cases y <;>simp only[r0,I.dP]
 rename_i fs;cases h:fs[f]? with
 |none=>rfl
 |some v =>
  have hl:f<fs.length:=(zz8.1 h).1;simp only[dR,hl,true_and];by_cases U:I.sizes (fs.take f)=off <;>by_cases ab:b8 s v=true <;>simp[U,ab,u0]
open Classical in
noncomputable def mN(k:Int)(n:Nat)(y:Option I):Option I:=if 0≤k∧k<n then y else none
noncomputable def mM(n esz:Nat)(fs:List I)(y:Option I):Option I:=if jx n esz fs=true then y else none
noncomputable def uC(n esz:Nat)(k:Int):Option (List I)→Option I
 |some fs=>mM n esz fs ((fs[k.toNat]?).map .ref)
 |none=>none
noncomputable def r8(n esz m:Nat)(p:List Nat)(k:Int):Option (List I)→Option I
 |some fs=>mM n esz fs (some (.ptr m (p++[k.toNat])))
 |none=>none
noncomputable def o9(A:ai)(n esz:Nat)(k:Int):I→Option I
 | .ref c=>mN k n (uC n esz k c.dP)
 | .ptr m p=>mN k n (r8 n esz m p k (fR (fA p (A.o m))))
 |_=>none
noncomputable def r7(A:ai)(n esz:Nat)(x:I):I→Option I
 | .int _ k=>o9 A n esz k x
 |_=>none
theorem YW(A:ai)(n esz:Nat)(x i:aR):bq A (.ia n esz x i)=r7 A n esz (ak A x) (ak A i):=by
 simp only[bq];generalize ak A x=y;generalize ak A i=z;cases z <;>simp only[r7]
 rename_i kk k;cases y with
 |ref c =>
  simp only[o9,mN];split
  ·cases c <;>simp only[I.dP,uC,mM]
  ·rfl
 |ptr m p =>
  simp only[o9,mN,mG,ij];split
  ·cases fA p (A.o m) with
   |none=>simp[fR,r8]
   |some c=>cases c <;>simp only[fR,I.dP,r8,mM]
  ·rfl
 |_=>simp only[o9];split <;>rfl
open Classical in
noncomputable def mP(m:Nat)(p:List Nat)(sz lo l esz:Nat)(k:Int):Option (List I)→Option I
 |some _=>if sz=esz∧0≤k∧k<l then some (.ptr m (p++[lo+k.toNat])) else none
 |none=>none
open Classical in
noncomputable def kq(A:ai)(esz:Nat)(k:Int):I→Option I
 | .slice sz es=>if sz=esz∧0≤k∧k<es.length then (es[k.toNat]?).map .ref else none
 | .own m l=>match A.o m with
  |some (.bU _ sz es)=>if l=es.length∧sz=esz∧0≤k∧k<es.length then (es[k.toNat]?).map .ref else none
  |_=>none
 | .view m p sz lo l=>mP m p sz lo l esz k (fR (fA p (A.o m)))
 |_=>none
noncomputable def sd(A:ai)(esz:Nat)(x:I):I→Option I
 | .int _ k=>kq A esz k x
 |_=>none
theorem YX(A:ai)(esz:Nat)(x i:aR):bq A (.is esz x i)=sd A esz (ak A x) (ak A i):=by
 simp only[bq];generalize ak A x=y;generalize ak A i=z;cases z <;>simp only[sd]
 cases y <;>simp only[kq]
 ·split <;>simp_all
 ·rename_i m p sz lo l;simp only[mG,ij];cases fA p (A.o m) with
  |none=>rfl
  |some c=>cases c <;>simp only[fR,I.dP,mP]
noncomputable def uF(n esz:Nat)(s:Option Nat)(k:Int):Option (List I)→Option I
 |some fs=>mN k n (mM n esz fs (pn s fs[k.toNat]?))
 |none=>none
noncomputable def sg(n esz:Nat)(s:Option Nat)(x:I):I→Option I
 | .int _ k=>uF n esz s k x.dP
 |_=>none
theorem YY(A:ai)(n esz:Nat)(s:Option Nat)(x i:aR):bq A (.ix n esz s x i)=sg n esz s (ak A x) (ak A i):=by
 simp only[bq];generalize ak A x=y;generalize ak A i=z;cases z <;>simp only[sg]
 rename_i kk k;cases y <;>simp only[I.dP,uF]
 case agg fs =>
  simp only[mN,mM];split
  ·split
   ·cases fs[k.toNat]? <;>rfl
   ·rfl
  ·rfl
 all_goals (split <;>rfl)
def jX(A:ai):I→Option I
 | .slice _ es=>some (.int .i64 es.length)
 | .nils _=>some (.int .i64 0)
 | .c0 _=>some (.int .i64 0)
 | .own m l=>match A.o m with | some (.bU _ _ es)=>if l=es.length then some (.int .i64 es.length) else none | _=>none
 | .view _ _ _ _ k=>some (.int .i64 k)
 |_=>none
theorem Y0(A:ai)(x:aR):bq A (.len x)=jX A (ak A x):=by
 simp only[bq];generalize ak A x=y;cases y <;>rfl
open Classical in
noncomputable def tw(n esz:Nat)(fs:List I)(y:I):Option I:=if jx n esz fs=true∧n≤maxLen∧n≠0 then some y else none
noncomputable def tx(n esz m:Nat)(p:List Nat):Option (List I)→Option I
 |some fs=>tw n esz fs (.view m p esz 0 n)
 |none=>none
noncomputable def G8(n esz:Nat):Option (List I)→Option I
 |some fs=>tw n esz fs (.slice esz fs)
 |none=>none
noncomputable def pW(A:ai)(n esz:Nat):I→Option I
 | .ptr m p=>tx n esz m p (fR (fA p (A.o m)))
 | .ref c=>G8 n esz c.dP
 |_=>none
theorem Y1(A:ai)(n esz:Nat)(x:aR):bq A (.va n esz x)=pW A n esz (ak A x):=by
 simp only[bq];generalize ak A x=y;cases y with
 |ptr m p =>
  simp only[pW,mG,ij];cases fA p (A.o m) with
  |none=>simp[fR,tx]
  |some c=>cases c <;>simp only[fR,I.dP,tx,tw] <;>(split <;>simp_all)
 |ref c=>cases c <;>simp only[pW,I.dP,G8,tw] <;>(split <;>simp_all)
 |_=>simp only[pW]
theorem YZ(A:ai)(s:Option Nat)(x:aR):bq A (.ld s x)=pn s (ij A (ak A x)):=by
 simp only[bq,mG];cases ij A (ak A x) <;>simp only[pn,u0]
noncomputable def sP(A:ai)(d:Option Nat)(a b:aR)(rest:List aw):I→cM
 | .bool t=>aA rest (A.aX d (if t then ak A a else ak A b))
 |_=>.fail
noncomputable def tu(op:UnOp)(x:I):Option I:=match op,x with
  | .not,.bool b=>some (.bool !b)
  | .neg,.int k n=>some (.int k (k.wrap (0-n)))
  | .xor,.int k n=>some (.int k (qp k n))
  |_,_=>none
def xc(i:Nat):I→Option I
 | .tuple fs=>fs[i]?
 |_=>none
def wQ(k:IntKind):I→Option I
 | .int _ n=>some (.int k (k.wrap n))
 |_=>none
noncomputable def wb(A:ai)(d:Nat)(z:I)(rest:List aw):Option ao→cM
 |none=>aA rest ((A.aV d (.box z)).put d (.ptr d []))
 |some _=>.fail
noncomputable def tX(A:ai)(d:Nat)(z:I)(rest:List aw)(v:Bool):cM:=if v=true then aA rest ((A.aV d (.box z)).put d (.ptr d [])) else .fail
noncomputable def tW(A:ai)(d:Nat)(z:I)(rest:List aw):Option ao→cM
 |none=>tX A d z rest z.bT
 |some _=>.fail
open Classical in
noncomputable def da(A:ai)(s:Option Nat)(n:Nat)(p:List Nat)(b v:I)(rest:List aw):Option I→cM
 |some old=>if yj s v old then aA rest (A.aV n (.box (b.eA p v))) else .fail
 |none=>.fail
noncomputable def vD(A:ai)(s:Option Nat)(n:Nat)(p:List Nat)(v:I)(rest:List aw):Option ao→cM
 |some (.box b)=>da A s n p b v rest (b.at p)
 |_=>.fail
noncomputable def c7(A:ai)(s:Option Nat)(v:I)(rest:List aw):I→cM
 | .ptr n p=>vD A s n p v rest (A.o n)
 |_=>.fail
noncomputable def rK(A:ai)(d:Option Nat)(args:List I)(rest:List aw):I→cM
 | .func f caps=>.call (lL f) (iL f args caps) (bX true A (iL f args caps)) (bX false A (iL f args caps)) d rest A
 | .raw v=>.lE v args d rest A
 |_=>.fail
section
variable (d:Option Nat) (rest:List aw) (A:ai)
theorem It(op:bS):aA (⟨d,op,none⟩::rest) A=bL A d op rest:=rfl
theorem Iu(op:bS)(t:Nat)(b:Bool):aA (⟨d,op,some (t,b)⟩::rest) A=il (A.t t) b d op rest A:=rfl
theorem V2(op:bS):il (.bool true) true d op rest A=bL A d op rest:=by simp[il]
theorem VZ(op:bS):il (.bool false) false d op rest A=bL A d op rest:=by simp[il]
theorem V1(op:bS):il (.bool true) false d op rest A=aA rest (A.aX d .undef):=by simp[il]
theorem V0(op:bS):il (.bool false) true d op rest A=aA rest (A.aX d .undef):=by simp[il]
theorem V3(op:bS)(b:Bool):il .undef b d op rest A=aA rest (A.aX d .undef):=rfl
theorem Yf(x:aR):bL A d (.mv x) rest=aA rest (A.aX d (ak A x)):=rfl
theorem Yj(c a b:aR):bL A d (.pick c a b) rest=sP A d a b rest (ak A c):=by
 simp only[bL,bo,bq];cases ak A c <;>simp only[cT,sP]
theorem XQ(op:BinOp)(x y:aR):bL A d (.bin op x y) rest=cT (cC op (ak A x) (ak A y)) (dj d rest A):=rfl
theorem XZ(ty:cD)(neg:Bool)(x y:aR):bL A d (.eqv ty neg x y) rest=cT ((b7 ty (ak A x) (ak A y)).map fun b=>.bool (if neg then !b else b)) (dj d rest A):=rfl
theorem Yo(op:UnOp)(x:aR):bL A d (.un op x) rest=cT (tu op (ak A x)) (dj d rest A):=rfl
theorem XX(k:IntKind)(x:aR):bL A d (.conv k x) rest=cT (wQ k (ak A x)) (dj d rest A):=by
 simp only[bL,bo,bq];cases ak A x <;>rfl
theorem X6(s:Option Nat)(x:aR):bL A d (.ld s x) rest=cT (pn s (ij A (ak A x))) (dj d rest A):=by rw[←YZ];rfl
theorem X1(f off:Nat)(x:aR):bL A d (.fa f off x) rest=cT (jy A f off (ak A x)) (dj d rest A):=by rw[←YU];rfl
theorem X2(f off:Nat)(s:Option Nat)(x:aR):bL A d (.fl f off s x) rest=cT (r0 f off s (ak A x).dP) (dj d rest A):=by rw[←YV];rfl
theorem X3(n esz:Nat)(x i:aR):bL A d (.ia n esz x i) rest=cT (r7 A n esz (ak A x) (ak A i)) (dj d rest A):=by rw[←YW];rfl
theorem X4(esz:Nat)(x i:aR):bL A d (.is esz x i) rest=cT (sd A esz (ak A x) (ak A i)) (dj d rest A):=by rw[←YX];rfl
theorem X5(n esz:Nat)(s:Option Nat)(x i:aR):bL A d (.ix n esz s x i) rest=cT (sg n esz s (ak A x) (ak A i)) (dj d rest A):=by rw[←YY];rfl
theorem X7(x:aR):bL A d (.len x) rest=cT (jX A (ak A x)) (dj d rest A):=by rw[←Y0];rfl
theorem Yp(n esz:Nat)(x:aR):bL A d (.va n esz x) rest=cT (pW A n esz (ak A x)) (dj d rest A):=by rw[←Y1];rfl
theorem XR(zs:List I)(ps:List (Nat×aR)):bL A d (.bld zs ps) rest=cT ((dY zs (ps.map fun p=>(p.1,ak A p.2))).map .agg) (dj d rest A):=rfl
theorem X0(x:aR)(i:Nat):bL A d (.ext x i) rest=cT (xc i (ak A x)) (dj d rest A):=by
 simp only[bL,bo,bq];cases ak A x <;>rfl
theorem Yb(f:FuncId)(caps:List aR):bL A d (.mk f caps) rest=cT (if ((caps.map (ak A)).all fun y=>y.bT)=true then some (.func f (caps.map (ak A))) else none) (dj d rest A):=rfl
theorem XO(d:Nat)(z:I):bL A (some d) (.alloc z) rest=wb A d z rest (A.o d):=by
 simp only[bL,bo];cases A.o d <;>rfl
theorem XS(d:Nat)(x:aR):bL A (some d) (.box x) rest=tW A d (ak A x) rest (A.o d):=by
 simp only[bL,bo];cases A.o d <;>simp only[tW,tX]
theorem Yn(s:Option Nat)(x v:aR):bL A none (.bl s x v) rest=c7 A s (ak A v) rest (ak A x):=by
 simp only[bL,bo];cases ak A x <;>simp only[c7]
 rename_i n p;cases A.o n with
 |none=>rfl
 |some y =>
  cases y <;>simp only[vD]
  rename_i b;cases b.at p <;>simp only[da]
theorem XU(f:FuncId)(args:List aR):bL A d (.call f args) rest=.call f (args.map (ak A)) (bX true A (args.map (ak A))) (bX false A (args.map (ak A))) d rest A:=rfl
theorem XV(x:aR)(args:List aR):bL A d (.fy x args) rest=rK A d (args.map (ak A)) rest (ak A x):=by
 simp only[bL,bo];cases ak A x <;>rfl
end
end Go.Abs
namespace Go.Abs
open Go Go.RowKit
mutual
/-- Closed,and as a result is told: no nil slice but as the empty one. -/
def I.done:I→Bool
 | .agg fs=>I.fK fs
 | .slice _ es=>I.b9 es
 | .ref x=>x.bC
 | .func f caps=>decide (f<1000000)&&I.fK caps
 | .iface _ v=>v.bC
 | .dk ks vs=>I.b9 ks&&I.b9 vs
 | .bool _ | .int _ _ | .bR _ | .nilp | .dA | .dW | .any | .raw _=>true
 |_=>false
def I.fK:List I→Bool
 | []=>true
 |x::xs=>x.done&&I.fK xs
end
mutual
theorem wT:∀ x:I,x.done=true→x.bC=true
 | .agg fs,h=>by simp only[I.done,I.bC] at *;exact qt fs h
 | .slice _ es,h=>by simpa only[I.done,I.bC] using h
 | .ref x,h=>by simpa only[I.done,I.bC] using h
 | .func _ caps,h=>by simp only[I.done,I.bC,t8] at *;exact qt caps h.2
 | .iface _ v,h=>by simpa only[I.done,I.bC] using h
 | .bool _,_ | .int _ _,_ | .bR _,_ | .nilp,_ | .dA,_ | .dW,_ | .any,_ | .raw _,_=>by simp[I.bC]
 | .dk _ _,h=>by simpa only[I.done,I.bC] using h
 | .nils _,h | .c0 _,h | .ptr _ _,h | .own _ _,h | .view _ _ _ _ _,h | .mref _,h | .dp _,h | .undef,h | .du,h | .tuple _,h=>by simp[I.done] at h
theorem qt:∀ xs:List I,I.fK xs=true→I.b9 xs=true
 | [],_=>rfl
 |x::xs,h=>by
  simp only[I.fK,I.b9,t8] at *;exact ⟨wT x h.1,qt xs h.2⟩
end
mutual
theorem Cp(aJ:Bool)(A:ai):∀ x:I,x.done=true→bn aJ A x=some x
 | .agg fs,h=>by simp only[I.done,bn] at *;rw[nV aJ A fs h];rfl
 | .slice _ es,h=>by simp only[I.done] at h;simp[bn,h]
 | .ref x,h=>by simp only[I.done] at h;simp[bn,h]
 | .func _ caps,h=>by simp only[I.done,bn,t8,decide_eq_true_eq] at *;rw[if_pos h.1,nV aJ A caps h.2];rfl
 | .iface _ v,h=>by simp only[I.done] at h;simp[bn,h]
 | .bool _,_ | .int _ _,_ | .bR _,_ | .nilp,_ | .dA,_ | .dW,_ | .any,_ | .raw _,_=>by simp[bn]
 | .dk _ _,h=>by simp only[I.done] at h;simp[bn,h]
 | .nils _,h | .c0 _,h | .ptr _ _,h | .own _ _,h | .view _ _ _ _ _,h | .mref _,h | .dp _,h | .undef,h | .du,h | .tuple _,h=>by simp[I.done] at h
theorem nV(aJ:Bool)(A:ai):∀ xs:List I,I.fK xs=true→bX aJ A xs=some xs
 | [],_=>by simp[bX]
 |x::xs,h=>by
  simp only[I.fK,t8] at h;simp only[bX,Cp aJ A x h.1,nV aJ A xs h.2]
end
theorem NA{x:I}(h:x.done=true):x.bT=true:=by cases x <;>simp_all[I.done,I.bT]
class Enc (α:Type) where
 enc:α→I
 sz:Nat
 bd:cS
 im:Bool
 done:∀ x,(enc x).done=true
 size:∀ x,(enc x).size=sz
 jq:∀ x,(enc x).bd=bd
 agg:∀ x,(enc x).isAgg=im
open Enc (enc)
instance:Enc Int where
 enc n:=.int .i64 n
 sz:=1
 bd:=.one
 im:=false
 done _:=rfl
 size _:=by simp[I.size]
 jq _:=by simp[I.bd]
 agg _:=rfl
instance:Enc Bool where
 enc b:=.bool b
 sz:=1
 bd:=.one
 im:=false
 done _:=rfl
 size _:=by simp[I.size]
 jq _:=by simp[I.bd]
 agg _:=rfl
theorem iJ{α:Type}[Enc α](l:List α):I.b9 (l.map enc)=true:=by
 induction l with
 |nil=>rfl
 |cons x l ih=>simp only[zz4,I.b9,wT _ (Enc.done x),ih,Bool.and_self]
theorem NB{α:Type}[Enc α](l:List α):I.fK (l.map enc)=true:=by
 induction l with
 |nil=>rfl
 |cons x l ih=>simp only[zz4,I.fK,Enc.done x,ih,Bool.and_self]
theorem ZT{α:Type}[Enc α](l:List α):I.sizes (l.map enc)=l.length*Enc.sz α:=by
 rw[I.iZ (sz:=Enc.sz α) _ (by simp only[zy5];rintro x ⟨y,_,rfl⟩;exact Enc.size y)];simp
theorem tg{α:Type}[Enc α](l:List α):I.cV (l.map enc)=List.replicate l.length (Enc.bd α):=by
 induction l with
 |nil=>rfl
 |cons x l ih=>simp only[zz4,I.cV,Enc.jq x,ih,zv1,List.replicate_succ]
instance {α:Type} [Enc α]:Enc (List α) where
 enc l:=.slice (Enc.sz α) (l.map enc)
 sz:=1
 bd:=.one
 im:=false
 done l:=by simp only[I.done];exact iJ l
 size _:=by simp[I.size]
 jq _:=by simp[I.bd]
 agg _:=rfl
structure zn (n:Nat) (α:Type) where
 l:List α
 h:l.length=n
instance {n:Nat} {α:Type} [Enc α]:Enc (zn n α) where
 enc x:=.agg (x.l.map enc)
 sz:=n*Enc.sz α
 bd:=.eK (List.replicate n (Enc.bd α))
 im:=true
 done x:=by simp only[I.done];exact NB x.l
 size x:=by simp only[I.size,ZT,x.h]
 jq x:=by simp only[I.bd,tg,x.h]
 agg _:=rfl
section
variable {α:Type} [Enc α]
theorem mH(aJ:Bool)(A:ai)(x:α):bn aJ A (enc x)=some (enc x):=Cp aJ A _ (Enc.done x)
theorem kl(x:α):(enc x).bC=true:=wT _ (Enc.done x)
theorem cv(p:Nat→Bool)(x:α):(enc x).only p=true:=kD p _ (kl x)
theorem eF(x:α):(enc x).bT=true:=NA (Enc.done x)
theorem rQ(x:α):b8 none (enc x) = !(Enc.im α):=by simp[b8,Enc.agg]
theorem fB(n:Nat)(x:α):b8 (some n) (enc x)=(Enc.im α&&Enc.sz α==n):=by simp[b8,Enc.agg,Enc.size]
theorem ue(x:α):(enc x).size=Enc.sz α:=Enc.size x
theorem fg(x:α):(enc x).bd=Enc.bd α:=Enc.jq x
theorem eJ(n:Int):(enc n:I)=.int .i64 n:=rfl
theorem NG(n:Bool):(enc n:I)=.bool n:=rfl
theorem iy(l:List α):(enc l:I)=.slice (Enc.sz α) (l.map enc):=rfl
theorem rR:Enc.sz (List α)=1:=rfl
theorem rP:Enc.im (List α)=false:=rfl
theorem wW:Enc.bd (List α)=.one:=rfl
theorem IF(l:List α):∀ x∈l.map (enc (α:=α)),x.size=Enc.sz α:=by
 simp only[zy5];rintro x ⟨y,_,rfl⟩;exact Enc.size y
end
theorem jv(n:Int)(U:-9223372036854775808≤n)(ab:n≤9223372036854775807):IntKind.i64.wrap n=n:=IntWalk.i64_in n ⟨U,ab⟩
theorem bm.mk{P:Program}{f:FuncId}{fn:Func}{x:bD}{rs:List bV}{args:List I}{r:I}(hf:P.funcs[f]?=some fn)(hcall:fe P f=true)(hc:(fn.body.bind (eE P fn.ntmps))=some x)
  (hrs:ig P fn.results.toList=some rs) (hn:args.length≤fn.ntmps) (h:∀ (w:World) (D:aU) (E:bf),ae ⟨P,w,D,fn.ntmps,cE E,E,dv,none,none⟩ x (kZ rs r) (au (bQ 0 args) [])):bm P f args r:=by
 obtain ⟨body,hb,hc'⟩:=zw8.1 hc;exact bm.uY hf hb hcall hc' hrs hn (fun w D E=>(h w D E).sub (aah args))
end Go.Abs
namespace Go.Abs.C
open Go Go.Abs
abbrev o(a:Nat)(x:bS):aw:=⟨some a,x,none⟩
abbrev ca(a:Nat)(x:bS)(k:Nat):aw:=⟨some a,x,some (k,true)⟩
abbrev on(a:Nat)(x:bS)(k:Nat):aw:=⟨some a,x,some (k,false)⟩
abbrev p(x:bS):aw:=⟨none,x,none⟩
abbrev ar(n:Int):aR:=.c (.int .i64 n)
abbrev T:aR:=.c (.bool true)
abbrev bH:aR:=.c (.bool false)
abbrev m(a b:Nat):aw:=⟨some a,.mv (.t b),none⟩
abbrev dK(a b k:Nat):aw:=⟨some a,.mv (.t b),some (k,true)⟩
abbrev iu(a b k:Nat):aw:=⟨some a,.mv (.t b),some (k,false)⟩
abbrev cd(a:Nat)(n:Int):aw:=⟨some a,.mv (.c (.int .i64 n)),none⟩
abbrev l(a b:Nat):aw:=⟨some a,.ld none (.t b),none⟩
abbrev fh(a b k:Nat):aw:=⟨some a,.ld none (.t b),some (k,true)⟩
abbrev ku(a b k:Nat):aw:=⟨some a,.ld none (.t b),some (k,false)⟩
abbrev aE(a s b:Nat):aw:=⟨some a,.ld (some s) (.t b),none⟩
abbrev f(a b c d:Nat):aw:=⟨some a,.fa b c (.t d),none⟩
abbrev fD(a b c d k:Nat):aw:=⟨some a,.fa b c (.t d),some (k,true)⟩
abbrev fn(a b c d k:Nat):aw:=⟨some a,.fa b c (.t d),some (k,false)⟩
abbrev ad(a b:Nat)(n:Int):aw:=⟨some a,.bin .add (.t b) (.c (.int .i64 n)),none⟩
abbrev lt(a b c:Nat):aw:=⟨some a,.bin .lss (.t b) (.t c),none⟩
abbrev and(a b c:Nat):aw:=⟨some a,.pick (.t b) (.t c) (.c (.bool false)),none⟩
abbrev or(a b c:Nat):aw:=⟨some a,.pick (.t b) (.c (.bool true)) (.t c),none⟩
abbrev no(a b:Nat):aw:=⟨some a,.un .not (.t b),none⟩
abbrev b(a c:Nat):aw:=⟨some a,.box (.t c),none⟩
abbrev s(x y:bD):bD:=.seq x y
abbrev r(g:List aw):bD:=.cm none g
abbrev cI(P:Program)(f:Func)(c:bD):Prop:=f.body.bind (eE P f.ntmps)=some c
abbrev cF(P:Program)(f:Func)(r:List bV):Prop:=ig P f.results.toList=some r
abbrev cz(P:Program)(n:FuncId):Prop:=fe P n=true
theorem e{α:Type}{a b:α}(h:a=b):a=b:=h
end Go.Abs.C
