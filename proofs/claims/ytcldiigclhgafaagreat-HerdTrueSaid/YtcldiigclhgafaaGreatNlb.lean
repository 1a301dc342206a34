/-
  A part of the proof that the law HerdTrue returns true for every input; conditions: none beyond the statement's own. (part 2 of 7)
-/
import Derived.Maps.RangeRun
import Derived.Laws.MakeOwn
import Derived.Orders
import Derived.OrdersIn
import Derived.ProofKit
import Derived.SizedLaws
import Derived.Test.YtcldiigclhgafaaGreatNla
set_option linter.unusedSimpArgs false
set_option linter.unusedVariables false
set_option maxHeartbeats 16000000
set_option maxRecDepth 100000
namespace Go.Abs
open Go Go.RowKit
theorem Cx{w:World}{D:aL}{E:aT} : ∀ (l:List cH) (xs ys:List I) (cs ds:List Value),l.all wM=true→iB l xs ys=some true→aG w D E xs cs→aG w D E ys ds→xs=ys∧cs=ds∧∀ v∈cs,∃ k n,v=.int k n
 | [],xs,ys,cs,ds,_,h,hx,hy=>by
  simp only[iB] at h;split at h
  ·simp only[aG] at hx hy;subst hx hy;exact ⟨rfl,rfl,fun v hv=>by simp at hv⟩
  ·cases h
 |t::ts,xs,ys,cs,ds,ha,h,hx,hy=>by
  simp only[List.all_cons,zz2] at ha;simp only[iB] at h;split at h
  case h_2=>cases h
  rename_i f fs g gs;unfold gW at h;split at h
  case h_2=>cases h
  rename_i a b h1 h2;simp only[u8,zz2] at h;obtain ⟨rfl,rfl⟩:=h;simp only[aG] at hx hy;obtain ⟨c1,c2,rfl,p1,p2⟩:=hx;obtain ⟨d1,d2,rfl,q1,q2⟩:=hy;obtain ⟨rfl,rfl,k3⟩:=Cx ts fs gs c2 d2 ha.2 h2 p2 q2;cases t with
  |i k =>
   simp only[cg] at h1;split at h1
   case h_2=>cases h1
   rename_i k1 a k2 b;split at h1
   case isFalse=>cases h1
   rename_i hk;simp only[u8,beq_iff_eq] at h1;subst h1;obtain ⟨rfl,rfl⟩:=hk;simp only[af] at p1 q1;obtain ⟨rfl,_⟩:=p1;obtain ⟨rfl,_⟩:=q1;refine ⟨rfl,rfl,fun v hv =>?_⟩;rcases zy7.1 hv with hv | hv
   ·simp at hv;exact ⟨_,_,hv⟩
   ·exact k3 v hv
  |b | s | bB _ | kh _ _=>simp[wM] at ha
theorem M9:∀ (cs:List Value) (n:Nat),(∀ v∈cs,∃ k m,v=.int k m)→((cs.zip cs).all fun (x,y)=>Instr.sameBits n x y)=true
 | [],_,_=>rfl
 |v::cs,n,h=>by
  obtain ⟨k,m,rfl⟩:=h v (by simp);simp only[List.zip_cons_cons,List.all_cons,zz2];exact ⟨by cases n <;>simp[Instr.sameBits],M9 cs n fun v hv=>h v (by simp[hv])⟩
theorem afb{P:Program}{t:TypeId}{ty:cH}{w:World}{D:aL}{E:aT}{x y:I}{ao v:Value}(hk:lA P t=some ty)(h:cg ty x y=some true)(hx:aS w D E x ao)(hy:aS w D E y v):x=y∧ao=v∧Instr.sameBits 10000 ao v=true:=by
 unfold lA at hk;split at hk
 ·rename_i k hu;simp only[u8] at hk;subst hk;simp only[cg] at h;split at h
  case h_2=>cases h
  split at h
  case isFalse=>cases h
  rename_i hk;simp only[u8,beq_iff_eq] at h;subst h;obtain ⟨rfl,rfl⟩:=hk;rw[(ff hx).1,(ff hy).1];exact ⟨rfl,rfl,by simp[Instr.sameBits]⟩
 ·rename_i fs hu;split at hk
  case h_2=>cases hk
  rename_i l hl;split at hk
  case isFalse=>cases hk
  rename_i hc;simp only[u8] at hk;subst hk;simp only[cg] at h;split at h
  case h_2=>cases h
  rename_i xs ys;obtain ⟨cs,rfl,hc1⟩:=jr hx;obtain ⟨ds,rfl,hd1⟩:=jr hy;obtain ⟨rfl,rfl,h3⟩:=Cx l xs ys cs ds hc.1 h hc1 hd1;refine ⟨rfl,rfl,?_⟩;simp only[Instr.sameBits,beq_self_eq_true,Bool.true_and];exact M9 cs _ h3
 ·cases hk
section
variable {P:Program} {w:World} {D:aL} {E:aT}
theorem BV{t:TypeId}{ty:cH}{em:Bool}{x y:I}{v:Value}{r:Bool}(hk:lA P t=some ty)(hx:aS w D E x v)(h:cg ty x y=some r)(n:Nat):(Instr.checkKey em (n+2) t v).run P w=.ok () w:=by
 unfold lA at hk;split at hk
 ·rename_i k hu;simp only[u8] at hk;subst hk;simp only[cg] at h;split at h
  case h_2=>cases h
  rename_i k1 a k2 b;split at h
  case isFalse=>cases h
  rename_i hq;rw[(ff hx).1,hq.1];exact MapKept.run_checkKey hu (by simp[MapKept.IsKey]) em (n+1)
 ·rename_i fs hu;split at hk
  case h_2=>cases hk
  rename_i l hl;split at hk
  case isFalse=>cases hk
  rename_i hc;simp only[u8] at hk;subst hk;simp only[cg] at h;split at h
  case h_2=>cases h
  rename_i xs ys;obtain ⟨cs,rfl,hc1⟩:=jr hx;obtain ⟨d,hd⟩:∃ d,d=11:=⟨_,rfl⟩
  rw[show (12:Nat)=d+1 from by omega] at hl;simp only[gi,hu] at hl;split at hl
  case isFalse=>cases hl
  rename_i hc2;simp only[zz0,cH.bB.injEq] at hl;obtain ⟨l',hl,rfl⟩:=hl;rw[show n+2=(n+1)+1 from rfl,Instr.checkKey];simp only[Sem.run_bind,run_underlying hu,Result.andThen_ok];rw[←Array.forIn_toList];have key:∀ (ay:List Field) (l:List cH) (xs ys:List I) (r:Bool) (c1 c2:List Value),
    (ay.mapM fun f=>match gi P d f.type with
     |some ty=>if ty.size=P.cellsOf f.type then some ty else none
     | none => none) = some l → (∀ f ∈ ay, f.name ≠ "_" ∧ qu (P.underlying f.type) = true) → pz P c1.length ay = true → aG w D E xs c2 → iB l xs ys = some r → c1 ++ c2 = cs →
    Sem.run P (forIn ay PUnit.unit (fun (f : Field) (_ : PUnit) => (if f.name ≠ "_" then (do
     let x ←part f.type cs.toArray f.offset
     Instr.checkKey em (n+1) f.type x
     pure (ForInStep.yield PUnit.unit)) else pure (ForInStep.yield PUnit.unit):Sem (ForInStep PUnit)))) w=.ok PUnit.unit w:=by
   intro ay
   induction ay with
   |nil=>intros;simp
   |cons f ay ih =>
    intro l xs ys r c1 c2 hm hn ho hx h htot;simp only[List.mapM_cons,Option.bind_eq_bind,Option.pure_def,Option.bind_eq_some_iff,u8] at hm;obtain ⟨ty,hty,tys,htys,rfl⟩:=hm;split at hty
    case h_2=>cases hty
    rename_i ty' hd';split at hty
    case isFalse=>cases hty
    rename_i hsz;simp only[u8] at hty;subst hty;simp only[iB] at h;split at h
    case h_2=>cases h
    rename_i x xs y ys;unfold gW at h;split at h
    case h_2=>cases h
    rename_i ra rb h1 h2;simp only[aG] at hx;obtain ⟨e1,e2,rfl,k1,k2⟩:=hx;obtain ⟨s,q1,q2,q3⟩:=uY hd' hsz h1;obtain ⟨ao,p1,p2⟩:=og (P:=P) (w:=w) (c1:=c1) (c3:=e2) q1 q2 k1;simp only[pz,zz2,beq_iff_eq] at ho;have hsx:=oT ty' x y ra h1;have hle:e1.length=P.cellsOf f.type:=by rw[af.length _ _ k1,hsx.1,hsz]
    have ih':=ih tys xs ys rb (c1++e1) e2 htys (fun g hg=>hn g (by simp[hg])) (by simp only[zz5,hle];exact ho.2) k2 h2 (by rw[←htot];simp);rw[zz3,htot,←ho.1] at p1;obtain ⟨hnm,hint⟩:=hn f (by simp);have hck:(Instr.checkKey em (n+1) f.type ao).run P w=.ok () w:=by
     cases hu:P.underlying f.type with
     |none=>simp[hu,qu] at hint
     |some dd =>
      cases dd <;>simp[hu,qu] at hint
      rename_i q;have hti:ty'=.i q:=by
       rw[show d=10+1 from by omega] at hd';unfold gi at hd';simp only[hu,u8] at hd';exact hd'.symm
      subst hti;simp only[cg] at h1;split at h1
      case h_2=>cases h1
      split at h1
      case isFalse=>cases h1
      rename_i hq;rw[(ff p2).1,hq.1];exact MapKept.run_checkKey hu (by simp[MapKept.IsKey]) em n
    simp only[List.forIn_cons,Sem.run_bind,hnm,ne_eq,not_false_eq_true,if_true,p1,Result.andThen_ok,hck,Sem.run_pure];exact ih'
  rw[key fs.toList l' xs ys r [] cs hl (fun f hf=>⟨by simpa using zy2.1 hc2.2.1 f hf,Array.all_eq_true_iff_forall_mem.1 hc.2 f (Array.mem_toList_iff.1 hf)⟩) hc2.2.2 hc1 h rfl];simp
 ·cases hk
theorem yg{x:I}{xs:List I}{vs:List Value}(h:aE w D E (x::xs) vs):∃ v rest,vs=v::rest∧aS w D E x v∧aE w D E xs rest:=by
 simp only[aE] at h;obtain ⟨v,rest,cs,rfl,h1,h2,h3⟩:=h;exact ⟨v,rest,rfl,mf h1 h2,h3⟩
def oC(r:Option Nat)(es:List MapEntry)(i:Nat)(q:Option (Nat×Value)):Prop :=
 (r=none∧q=none)∨∃ j e,r=some (i+j)∧es[j]?=some e∧q=some (i+j,e.val)
theorem oC.step{r:Option Nat}{es:List MapEntry}{e:MapEntry}{i:Nat}{q:Option (Nat×Value)}(h:oC r es (i+1) q):oC r (e::es) i q:=by
 rcases h with h | ⟨j,e',h1,h2,h3⟩
 ·exact .inl h
 ·exact .inr ⟨j+1,e',by rw[h1];congr 1;omega,by simpa using h2,by rw[h3];congr 2;omega⟩
theorem CV{q:IntKind}{k:I}{v:Value}(hv:aS w D E k v):∀ (ks:List I) (es:List MapEntry) (i:Nat) (r:Option Nat),aE w D E ks (es.map (·.key))→eM (.i q) k ks i=some r →
  ∃ x,Instr.findNow (.int q) v es i=some x∧oC r es i x
 | [],es,i,r,hk,h=>by
  simp only[eM,u8] at h;simp only[aE,List.map_eq_nil_iff] at hk;subst h hk;exact ⟨none,rfl,.inl ⟨rfl,rfl⟩⟩
 |x::ks,es,i,r,hk,h=>by
  obtain ⟨ao,rest,e1,hu,hr⟩:=yg hk;cases es with
  |nil=>cases e1
  |cons e es =>
   simp only[zz9,List.cons.injEq] at e1;obtain ⟨rfl,rfl⟩:=e1;simp only[eM] at h;have same:∀ b,cg (.i q) k x=some b→Instr.sameNow (.int q) v e.key=some b:=fun b hb=>by
    simp only[cg] at hb;split at hb
    case h_2=>cases hb
    split at hb
    case isFalse=>cases hb
    rename_i hq;simp only[u8] at hb;subst hb;rw[(ff hv).1,(ff hu).1];simp[Instr.sameNow,hq.1,hq.2]
   split at h
   ·rename_i hb;simp only[u8] at h;subst h;exact ⟨some (i,e.val),by simp[Instr.findNow,same _ hb],.inr ⟨0,e,rfl,rfl,rfl⟩⟩
   ·rename_i hb;obtain ⟨y,h1,h2⟩:=CV hv ks es (i+1) r hr h;exact ⟨y,by simp[Instr.findNow,same _ hb,h1],h2.step⟩
   ·cases h
theorem CS{t:TypeId}{ty:cH}(hty:gi P 12 t=some ty){k:I}{v:Value}(hv:aS w D E k v):∀ (ks:List I) (es:List MapEntry) (i:Nat) (r:Option Nat),aE w D E ks (es.map (·.key))→eM ty k ks i=some r →
  ∃ x,(Instr.findAsking t v es i).run P w=.ok x w∧oC r es i x
 | [],es,i,r,hk,h=>by
  simp only[eM,u8] at h;simp only[aE,List.map_eq_nil_iff] at hk;subst h hk;exact ⟨none,rfl,.inl ⟨rfl,rfl⟩⟩
 |x::ks,es,i,r,hk,h=>by
  obtain ⟨ao,rest,e1,hu,hr⟩:=yg hk;cases es with
  |nil=>cases e1
  |cons e es =>
   simp only[zz9,List.cons.injEq] at e1;obtain ⟨rfl,rfl⟩:=e1;simp only[eM] at h;have same:∀ b,cg ty k x=some b→(Op.equal t v e.key).run P w=.ok b w:=fun b hb=>r4 12 t ty hty k x v e.key b hv hu hb _ (by simp[Op.maxDepth]);split at h
   ·rename_i hb;simp only[u8] at h;subst h;exact ⟨some (i,e.val),by simp[Instr.findAsking,same _ hb],.inr ⟨0,e,rfl,rfl,rfl⟩⟩
   ·rename_i hb;obtain ⟨y,h1,h2⟩:=CS hty hv ks es (i+1) r hr h;exact ⟨y,by simp[Instr.findAsking,same _ hb,h1],h2.step⟩
   ·cases h
theorem r9{t:TypeId}{ty:cH}(hk:lA P t=some ty){k:I}{v:Value}(hv:aS w D E k v){ks:List I}{es:List MapEntry}{r:Option Nat}(hks:aE w D E ks (es.map (·.key)))(h:eM ty k ks 0=some r) :
  ∃ x,(Instr.findKey t v es).run P w=.ok x w∧oC r es 0 x:=by
 have hk0:=hk;unfold lA at hk;split at hk
 ·rename_i q hu;simp only[u8] at hk;subst hk;obtain ⟨x,h1,h2⟩:=CV hv ks es 0 r hks h;exact ⟨x,by simp[Instr.findKey,run_underlying hu,h1],h2⟩
 ·rename_i fs hu;split at hk
  case h_2=>cases hk
  rename_i l hl;split at hk
  case isFalse=>cases hk
  simp only[u8] at hk;subst hk;cases es with
  |nil =>
   cases ks with
   |nil =>
    simp only[eM,u8] at h;subst h;exact ⟨none,by simp[Instr.findKey,run_underlying hu,Instr.findNow],.inl ⟨rfl,rfl⟩⟩
   |cons x xs=>simp[aE] at hks
  |cons e es =>
   obtain ⟨x,h1,h2⟩:=CS hl hv ks (e::es) 0 r hks h;exact ⟨x,by simp[Instr.findKey,run_underlying hu,Instr.findNow,Instr.sameNow,h1],h2⟩
 ·cases hk
theorem mA:∀ {xs:List I} {vs:List Value} {j:Nat} {v:Value},aE w D E xs vs→vs[j]?=some v→∃ x,xs[j]?=some x∧aS w D E x v
 | [],vs,j,v,h,hj=>by simp only[aE] at h;subst h;simp at hj
 |x::xs,vs,j,v,h,hj=>by
  obtain ⟨ao,rest,rfl,h1,h2⟩:=yg h;cases j with
  |zero=>simp only[List.getElem?_cons_zero,u8] at hj;subst hj;exact ⟨x,rfl,h1⟩
  |succ j=>exact mA (xs:=xs) h2 (by simpa using hj)
end
section
variable {c:cI} {A:ae} {o:Oper} {x:I}
theorem afJ{a:Act}{w:World}{D:aL}{E:aT}(hs:aP c A a w D E){m:I}{v:Value}{ks vs:List I}(hv:aS w D E m v)(hm:fX A m=some (ks,vs)) :
  (v=.map none∧ks=[]∧vs=[])∨∃ b es clock,v=.map (some b)∧w.heap[b]?=some (.map es clock)∧aE w D E ks (es.toList.map (·.key))∧aE w D E vs (es.toList.map (·.val)):=by
 unfold fX at hm;split at hm
 ·simp only[u8,Prod.mk.injEq] at hm;obtain ⟨rfl,rfl⟩:=hm;obtain ⟨cs,q1,q2⟩:=hv;simp only[af] at q2;obtain ⟨b,es,ck,q3,q4,q5,q6⟩:=q2;exact .inr ⟨b,es,ck,by simpa[bG,I.isAgg,q3] using q1.symm,q4.1,q5,q6⟩
 ·rename_i n;split at hm
  case h_2=>cases hm
  rename_i ks' vs' hn;simp only[u8,Prod.mk.injEq] at hm;obtain ⟨rfl,rfl⟩:=hm;obtain ⟨cs,q1,q2⟩:=hv;simp only[af] at q2;obtain ⟨b,q3,q4⟩:=q2;obtain ⟨b',es,ck,k1,k2,k3,k4,k5,k6,k7⟩:=hs.map hn;rw[k1] at q3;cases q3;exact .inr ⟨_,es,ck,by simpa[bG,I.isAgg,q4] using q1.symm,k3,k5,k6⟩
 ·simp only[u8,Prod.mk.injEq] at hm;obtain ⟨rfl,rfl⟩:=hm;obtain ⟨cs,q1,q2⟩:=hv;simp only[af] at q2;exact .inl ⟨by simpa[bG,I.isAgg,q2.1] using q1.symm,rfl,rfl⟩
 ·cases hm
theorem oA{w:World}{D:aL}{E:aT}{y:I}{v:Value}(hv:y.cd=true)(h:aS w D E y v):∃ cs,bG y v cs∧af w D E y cs:=by
 cases y <;>simp[I.cd] at hv <;>exact h
theorem pK{w:World}{D:aL}{E:aT} : ∀ {xs:List I} {vs:List Value} {j:Nat} {x:I},aE w D E xs vs→xs[j]?=some x→x.cd=true
 | [],_,j,x,_,h=>by simp at h
 |y::ys,vs,j,x,hr,h=>by
  simp only[aE] at hr;obtain ⟨v,rest,cs,rfl,h1,h2,h3⟩:=hr;cases j with
  |zero =>
   simp only[List.getElem?_cons_zero,u8] at h;subst h;cases y <;>simp only[af] at h2 <;>rfl
  |succ j=>exact pK (xs:=ys) h3 (by simpa using h)
theorem aje{x:I}{cs r:List Value}(h:mI x cs=some r):x.cd=true:=by
 cases x <;>first | rfl | (cases cs <;>simp[mI] at h)
theorem ajf{P:Program}{t:TypeId}{z:I}(hz:fM P t=some z)(hp:tT P t z=true):∃ zv,(∀ w,(zeroValue t).run P w=.ok zv w)∧z.cd=true∧∀ w D E,aS w D E z zv:=by
 have hz0:=hz;obtain ⟨i,zv,hi,hzz,hzr⟩:=lO hz;have hv:z.cd=true:=by
  unfold fM at hz;split at hz
  ·split at hz
   ·rename_i hk;simp only[u8] at hz;subst hz;exact aje hk
   ·cases hz
  ·cases hz
 refine ⟨zv,fun w=>by simp[zeroValue,typeInfo,hi,hzz],hv,fun w D E =>?_⟩;have h1:=hzr w D E;simp only[tT,hi,Option.bind_some,hzz] at hp;refine mf (cs:=zv.cells.toList) ?_ h1;cases zv <;>simp only[bG] at hp ⊢ <;>first
  |(rw[if_pos hp];simp[Value.cells])
  |(have hp':z.isAgg=false:=by simpa using hp
    rw[hp'];simp[Value.cells])
theorem aeF{t kt et:TypeId}{m k:Operand}{m' k':aH}{ok:Bool}{ty:cH}{z v:I}{ks vs:List I}{there:Bool}(ho:o.op=.lookup t m k ok)(hu:c.P.underlying t=some (.map kt et))(hk:lA c.P kt=some ty)(hz:fM c.P et=some z)(hzp:tT c.P et z=true)
  (hm:bC c.P 0 m=some m') (hk':bC c.P 0 k=some k') (hmm:fX A (ab A m')=some (ks,vs)) (hl:fW ty z (ab A k') ks vs=some (v,there)):dF c A o (if ok then .tuple [v,.bool there] else v) :=
 .same fun a w D E hs=>by
  have h1:=ca hs hm;have h2:=ca hs hk';obtain ⟨zv,hzrun,hzv,hzrv⟩:=ajf hz hzp;unfold fW at hl;split at hl
  case isFalse=>cases hl
  rename_i hkk;obtain ⟨rk,hrk⟩:=zw0.1 hkk;have hchk:=fun em=>BV (P:=c.P) (w:=w) (em:=em) hk h2 hrk 9998;have bg:∀ ao there,v.cd=true→aS w D E v ao→aS w D E (if ok then .tuple [v,.bool there] else v) (if ok then Value.tuple #[ao,.bool there] else ao):=fun ao there hval hu'=>by
   cases ok
   ·exact hu'
   ·obtain ⟨cs,q1,q2⟩:=oA hval hu';simp only[if_true,aS,aE];exact ⟨[ao,.bool there],rfl,ao,[.bool there],cs,rfl,q1,q2,.bool there,[],[.bool there],rfl,by simp[bG,I.isAgg],by simp[af],rfl⟩
  have main:∀ (es:Array MapEntry),aE w D E ks (es.toList.map (·.key))→aE w D E vs (es.toList.map (·.val))→∃ ao,v.cd=true∧aS w D E v ao ∧
    ((∃ i,(Instr.findKey kt (a.eval k) es.toList).run c.P w=.ok (some (i,ao)) w∧there=true)∨((Instr.findKey kt (a.eval k) es.toList).run c.P w=.ok none w∧ao=zv∧there=false)):=fun es hks hvs=>by
   split at hl
   ·rename_i i hfi;simp only[zz0,Prod.mk.injEq] at hl;obtain ⟨v',hv',rfl,rfl⟩:=hl;obtain ⟨q,q1,q2⟩:=r9 hk h2 hks hfi;rcases q2 with ⟨e,_⟩ | ⟨j,e,e1,e2,rfl⟩
    ·cases e
    ·simp only[zz4,u8] at e1;subst e1;obtain ⟨x,k1,k2⟩:=mA (j:=i) (v:=e.val) hvs (by simp only[zx7,e2,zy3]);rw[hv',u8] at k1;subst k1;exact ⟨e.val,pK hvs hv',k2,.inl ⟨_,q1,rfl⟩⟩
   ·rename_i hfi;simp only[u8,Prod.mk.injEq] at hl;obtain ⟨rfl,rfl⟩:=hl;obtain ⟨q,q1,q2⟩:=r9 hk h2 hks hfi;rcases q2 with ⟨_,rfl⟩ | ⟨j,e,e1,_⟩
    ·exact ⟨zv,hzv,hzrv w D E,.inr ⟨q1,rfl,rfl⟩⟩
    ·cases e1
   ·cases hl
  rcases afJ hs h1 hmm with ⟨e1,rfl,rfl⟩ | ⟨b,es,ck,e1,e2,e3,e4⟩
  ·obtain ⟨ao,hval,hu',hrun⟩:=main #[] (by simp[aE]) (by simp[aE]);refine ⟨_,?_,bg ao there hval hu'⟩;rcases hrun with ⟨i,q1,rfl⟩ | ⟨q1,rfl,rfl⟩ <;>
    simp only[execOp,ho,Instr.lookup,e1,Sem.run_bind,run_underlying hu,Result.andThen_ok,Sem.run_pure,hchk,q1,hzrun]
  ·obtain ⟨ao,hval,hu',hrun⟩:=main es e3 e4;refine ⟨_,?_,bg ao there hval hu'⟩;rcases hrun with ⟨i,q1,rfl⟩ | ⟨q1,rfl,rfl⟩ <;>
    simp only[execOp,ho,Instr.lookup,e1,Sem.run_bind,run_underlying hu,Result.andThen_ok,MapKept.run_getObj_map e2,Sem.run_pure,hchk,q1,hzrun]
theorem Je{y:Operand}{y':aH}(ho:o.op=.nilCheck y)(hy:bC c.P 0 y=some y')(h:(∃ n p,ab A y'=.ptr n p)∨∃ z,ab A y'=.ref z):dF c A o (ab A y') :=
 .same fun a w D E hs=>by
  have h1:=ca hs hy;rcases h with ⟨n,p,h⟩ | ⟨z,h⟩
  ·rw[h] at h1 ⊢;obtain ⟨b,aJ,off,_,_,e⟩:=oh h1;exact ⟨a.eval y,by simp only[execOp,ho,e,Sem.run_pure],h1⟩
  ·rw[h] at h1 ⊢;obtain ⟨b,off,cs,e,_⟩:=pJ h1;exact ⟨a.eval y,by simp only[execOp,ho,e,Sem.run_pure],h1⟩
theorem Jy{w:World}{D:aL}{E:aT}{x:I}{v:Value}{b:Bool}(h:iK x=some b)(hv:aS w D E x v):∃ ad,v=.pointer ad∧ad.isNone=b:=by
 cases x <;>simp only[iK,u8] at h <;>try (cases h;done)
 case nilp =>
  subst h;obtain ⟨cs,q1,q2⟩:=hv;simp only[af] at q2;exact ⟨none,by simpa[bG,I.isAgg,q2] using q1.symm,rfl⟩
 case ptr n p =>
  subst h;obtain ⟨b,aJ,off,_,_,e⟩:=oh hv;exact ⟨_,e,rfl⟩
 case ref z =>
  subst h;obtain ⟨b,off,cs,e,_⟩:=pJ hv;exact ⟨_,e,rfl⟩
theorem aeK{neg:Bool}{t yt e:TypeId}{y z:Operand}{y' z':aH}{b1 b2:Bool}(ho:o.op=.binOp (if neg then .neq else .eql) t y z yt)(hu:c.P.underlying t=some (.pointer e))(hy:bC c.P 0 y=some y')(hz:bC c.P 0 z=some z')
  (h1:iK (ab A y')=some b1) (h2:iK (ab A z')=some b2) (h:b1=true∨b2=true):dF c A o (.bool (if neg then !(b1&&b2) else (b1&&b2))) :=
 .same fun a w D E hs=>by
  obtain ⟨p,e1,k1⟩:=Jy h1 (ca hs hy);obtain ⟨q,e2,k2⟩:=Jy h2 (ca hs hz);have he:∀ d,(Op.equalIn (d+1) t (.pointer p) (.pointer q)).run c.P w=.ok (b1&&b2) w:=fun d=>by
   subst k1 k2;cases p <;>cases q <;>simp at h <;>simp[Op.equalIn,run_underlying hu]
  refine ⟨.bool (if neg then !(b1&&b2) else (b1&&b2)),?_,nW _⟩;cases neg <;>simp only[execOp,ho,e1,e2,if_true,zz7,if_false,Sem.run_bind,eqGuard] <;>simp[binOp,Op.equal,Op.maxDepth,he]
end
section
variable {c:cI} {A:ae} {o:Oper} {x:I}
theorem Xv{t:TypeId}{d:Nat}(ho:o.op=.makeMap t none)(hd:o.dst=some d)(hn:d<c.n)(hf:A.o d=none):gT c A o ((A.aN d (.cq [] [])).put d (.mref d)):=by
 intro a w D E hs;have h1:=hs.af5 (.inl hn) hf;have h2:=h1.put (x:=.mref d) (v:=.map (some w.heap.size)) hn ⟨_,by simp[bG,I.isAgg];rfl,by
  simp only[af,if_true];exact ⟨w.heap.size,rfl,rfl⟩⟩
 exact ⟨w.alloc (.map #[] 0),.inl ⟨.map (some w.heap.size),by simp[execOp,ho,Instr.makeMap],D,_,by rw[hd];exact h2⟩⟩
theorem yf{w:World}{D:aL}{E:aT} : ∀ {xs ys:List I} {us vs:List Value},aE w D E xs us→aE w D E ys vs→aE w D E (xs++ys) (us++vs)
 | [],ys,us,vs,h,k=>by simp only[aE] at h;subst h;simpa using k
 |x::xs,ys,us,vs,h,k=>by
  simp only[aE,zy0] at *;obtain ⟨v,rest,cs,rfl,h1,h2,h3⟩:=h;exact ⟨v,rest++vs,cs,rfl,h1,h2,yf h3 k⟩
theorem M8{w:World}{D:aL}{E:aT} : ∀ {xs:List I} {us:List Value} {i:Nat} {y:I} {v:Value} {cs:List Value},aE w D E xs us→bG y v cs→af w D E y cs→aE w D E (xs.set i y) (us.set i v)
 | [],us,i,y,v,cs,h,_,_=>by simp only[aE] at h;subst h;simp[aE]
 |x::xs,us,i,y,v,cs,h,k1,k2=>by
  simp only[aE] at h;obtain ⟨ao,rest,ds,rfl,h1,h2,h3⟩:=h;cases i with
  |zero=>simp only[List.set_cons_zero,aE];exact ⟨v,rest,cs,rfl,k1,k2,h3⟩
  |succ i=>simp only[List.set_cons_succ,aE];exact ⟨ao,_,ds,rfl,h1,h2,M8 h3 k1 k2⟩
theorem M7{w:World}{D:aL}{E:aT}{y:I}{v:Value}{cs:List Value}(h1:bG y v cs)(h2:af w D E y cs):aE w D E [y] [v]:=by
 simp only[aE];exact ⟨v,[],cs,rfl,h1,h2,rfl⟩
theorem CU{ty:cH}{k:I} : ∀ {ks:List I} {i j:Nat},eM ty k ks i=some (some j)→∃ x,ks[j-i]?=some x∧i≤j∧cg ty k x=some true
 | [],i,j,h=>by simp[eM] at h
 |x::xs,i,j,h=>by
  simp only[eM] at h;split at h
  ·rename_i hb;simp only[u8] at h;subst h;exact ⟨x,by simp,zz6 _,hb⟩
  ·obtain ⟨y,h1,h2,h3⟩:=CU h;refine ⟨y,?_,by omega,h3⟩;rw[show j-i=(j-(i+1))+1 from by omega];simpa using h1
  ·cases h
theorem Ci{t kt et:TypeId}{m k v:Operand}{m' k' v':aH}{ty:cH}{n:Nat}{ks vs ks' vs':List I}(ho:o.op=.mapUpdate t m k v∨o.op=.insert t m k v)(hu:c.P.underlying t=some (.map kt et))(hk:lA c.P kt=some ty)
  (hm:bC c.P 0 m=some m') (hk':bC c.P 0 k=some k') (hv':bC c.P et v=some v') (hmm:ab A m'=.mref n) (hn:A.o n=some (.cq ks vs)) (hl:fP ty (ab A k') (ab A v') ks vs=some (ks',vs')) (hd:o.dst=none) :
  gT c A o (A.aN n (.cq ks' vs')):=by
 intro a w D E hs;have h1:=ca hs hm;have h2:=ca hs hk';have h3:=ca hs hv';rw[hmm] at h1;unfold fP at hl;split at hl
 case isFalse=>cases hl
 rename_i hc;obtain ⟨hkk,hkv,hvv⟩:=hc;obtain ⟨rk,hrk⟩:=zw0.1 hkk;have hchk:=fun em=>BV (P:=c.P) (w:=w) (em:=em) hk h2 hrk 9998;obtain ⟨kcs,kp1,kp2⟩:=oA hkv h2;obtain ⟨vcs,vp1,vp2⟩:=oA hvv h3;obtain ⟨b,es,ck,k1,k2,k3,k4,k5,k6,k7⟩:=hs.map hn;have hmv:a.eval m=.map (some b):=by
  obtain ⟨cs,q1,q2⟩:=h1;simp only[af] at q2;obtain ⟨b',q3,q4⟩:=q2;rw[k1] at q3;cases q3;simpa[bG,I.isAgg,q4] using q1.symm
 -- the new entries
 have step:∀ (es':Array MapEntry) (ck':Nat),(Instr.mapUpdate t (.map (some b)) (a.eval k) (a.eval v)).run c.P w=.ok () (w.putObj b (.map es' ck'))→pQ es' ck'→aE w D E ks' (es'.toList.map (·.key))→aE w D E vs' (es'.toList.map (·.val)) →
   ∃ w',((∃ ao,(execOp a.eval o).run c.P w=.ok (.value ao) w'∧cn c (A.aN n (.cq ks' vs')) (a.put o.dst ao) w')∨((execOp a.eval o).run c.P w=.ok .skip w'∧cn c (A.aN n (.cq ks' vs')) (a.put o.dst undef) w')):=fun es' ck' hrun hst hks hvs=>by
  refine ⟨w.putObj b (.map es' ck'),.inr ⟨?_,?_⟩⟩
  ·rcases ho with ho | ho <;>simp only[execOp,ho,hmv,Sem.run_bind,hrun,Result.andThen_ok,Sem.run_pure]
  ·rw[hd];have:=hs.Nf (o':=.map es' ck') (x:=.cq ks' vs') k1 rfl rfl k3 rfl (fun q=>by simp) k2 (fun hl' hh hno=>⟨b,es',ck',k1,k2,hh,hst,aE.bE hl' _ _ hks,aE.bE hl' _ _ hvs,hno⟩);exact ⟨D,E,this⟩
 split at hl
 ·rename_i i hfi;simp only[u8,Prod.mk.injEq] at hl;obtain ⟨rfl,rfl⟩:=hl;obtain ⟨q,q1,q2⟩:=r9 hk h2 k5 hfi;rcases q2 with ⟨e,_⟩ | ⟨j,e,e1,e2,rfl⟩
  ·cases e
  simp only[zz4,u8] at e1;subst e1;obtain ⟨y,y1,_,y2⟩:=CU hfi;simp only[Nat.sub_zero] at y1;obtain ⟨y',y3,y4⟩:=mA (j:=i) (v:=e.key) k5 (by simp only[zx7,e2,zy3]);rw[y1,u8] at y3;subst y3;obtain ⟨_,kk2,kk3⟩:=afb hk y2 h2 y4;have hes:es[i]?=some e:=by rw[←zv0];exact e2
  have hlen:i<es.size:=(zx8.1 hes).1;refine step (es.modify i fun e => { e with key:=a.eval k,val:=a.eval v }) ck ?_ ?_ ?_ ?_
  ·have hsb:Instr.sameBits 10000 (((es[i]?).map (·.key)).getD (a.eval k)) (a.eval k)=true:=by
    rw[hes];simp only[zy3,Option.getD_some];rw[←kk2];rw[←kk2] at kk3;exact kk3
   simp only[Instr.mapUpdate,Sem.run_bind,run_underlying hu,Result.andThen_ok,MapKept.run_getObj_map k3,hchk,q1,zz4,Instr.keyThatStays,hsb,if_true,Sem.run_pure,MapKept.run_setObj_map _ k3];rfl
  all_goals
   have em:(es.modify i fun e => { e with key:=a.eval k,val:=a.eval v }).toList=es.toList.set i { e with key:=a.eval k,val:=a.eval v } :=by
    rw[Array.toList_modify];apply List.ext_getElem?;intro j;rw[List.getElem?_modify,List.getElem?_set];by_cases hij:i=j
    ·subst hij;have hge:es[i]'hlen=e:=(zx8.1 hes).2;simp[hlen,hge]
    ·simp[hij]
  ·refine ⟨fun x hx =>?_,?_⟩
   ·rw[em] at hx;rcases List.mem_or_eq_of_mem_set hx with hx | rfl
    ·exact k4.1 x hx
    ·exact k4.1 e (List.mem_of_getElem? e2)
   ·rw[em];have:(es.toList.set i { e with key:=a.eval k,val:=a.eval v }).map (·.born)=es.toList.map (·.born):=by
     rw[List.map_set];apply List.ext_getElem?;intro j;rw[List.getElem?_set];split
     ·rename_i hij;subst hij;simp[e2];exact hlen
     ·rfl
    rw[this];exact k4.2
  ·rw[em,List.map_set];have:(es.toList.map (·.key)).set i (a.eval k)=es.toList.map (·.key):=by
    apply List.ext_getElem?;intro j;rw[List.getElem?_set];split
    ·rename_i hij;subst hij;simp[e2,kk2];exact hlen
    ·rfl
   simp only[this];exact k5
  ·rw[em,List.map_set];exact M8 k6 vp1 vp2
 ·rename_i hfi;simp only[u8,Prod.mk.injEq] at hl;obtain ⟨rfl,rfl⟩:=hl;obtain ⟨q,q1,q2⟩:=r9 hk h2 k5 hfi;rcases q2 with ⟨_,rfl⟩ | ⟨j,e,e1,_⟩
  case inr=>cases e1
  refine step (es.push { key:=a.eval k,val:=a.eval v,born:=ck }) (ck+1) ?_ ⟨fun x hx =>?_,?_⟩ ?_ ?_
  ·simp only[Instr.mapUpdate,Sem.run_bind,run_underlying hu,Result.andThen_ok,MapKept.run_getObj_map k3,hchk,q1,MapKept.run_setObj_map _ k3];rfl
  ·simp only[Array.toList_push,zy7,List.mem_singleton] at hx;rcases hx with hx | rfl
   ·have:=k4.1 x hx;omega
   ·simp
  ·simp only[Array.toList_push,zx6,zz9,zx2];refine List.nodup_append.2 ⟨k4.2,by simp,fun x hx y hy =>?_⟩;simp only[List.mem_singleton] at hy;subst hy;obtain ⟨e,he,rfl⟩:=zx5.1 hx;exact Nat.ne_of_lt (k4.1 e he)
  ·simp only[Array.toList_push,zx6,zz9,zx2];exact yf k5 (M7 kp1 kp2)
  ·simp only[Array.toList_push,zx6,zz9,zx2];exact yf k6 (M7 vp1 vp2)
 ·cases hl
theorem Xx{t kt et:TypeId}{y:Operand}{y':aH}{ks vs:List I}{d:Nat}(ho:o.op=.range t y)(hu:c.P.underlying t=some (.map kt et))(hy:bC c.P 0 y=some y')(h:ab A y'=.cL ks vs)(hd:o.dst=some d)(hn:d<c.n)(hf:A.o d=none) :
  gT c A o ((A.aN d (.it ks vs (List.range ks.length) none)).put d (.dj d)):=by
 intro a w D E hs;have h1:=ca hs hy;rw[h] at h1;obtain ⟨cs,q1,q2⟩:=h1;simp only[af] at q2;obtain ⟨b,es,ck,q3,q4,q5,q6⟩:=q2;have hv:a.eval y=.map (some b):=by simpa[bG,I.isAgg,q3] using q1.symm
 have h2:=hs.af4 (.inl hn) hf q4 q5 q6;have h3:=h2.put (x:=.dj d) (v:=.pointer (some ⟨w.heap.size,0,none⟩)) hn ⟨_,by simp[bG,I.isAgg];rfl,by
  simp only[af,if_true];exact ⟨w.heap.size,rfl,rfl⟩⟩
 refine ⟨w.alloc (.mapIter (some b) ck #[] ck),.inl ⟨.pointer (some ⟨w.heap.size,0,none⟩),?_,D,_,by rw[hd];exact h3⟩⟩;simp only[execOp,ho,hv,Sem.run_bind,run_range_map w t kt et b es ck hu q4.1,Result.andThen_ok,Sem.run_pure]
theorem JG{es:Array MapEntry}{bL:Array Nat}{i:Nat} : i∈nR es bL↔∃ e,es[i]?=some e∧bL.contains e.born=false:=by
 unfold nR;simp only[zw5,zx4];constructor
 ·rintro ⟨h1,h2⟩;rw[Array.getElem?_eq_getElem h1] at h2 ⊢;exact ⟨_,rfl,by simpa using h2⟩
 ·rintro ⟨e,h1,h2⟩;exact ⟨(zx8.1 h1).1,by rw[h1];simpa using h2⟩
theorem aiK{es:Array MapEntry}{ck:Nat}(hst:pQ es ck){i j:Nat}{e f:MapEntry}(hi:es[i]?=some e)(hj:es[j]?=some f)(h:e.born=f.born):i=j:=by
 have hn:=hst.2;rw[←zv0] at hi hj;have h1:(es.toList.map (·.born))[i]?=some e.born:=by rw[zx7,hi];rfl
 have h2:(es.toList.map (·.born))[j]?=some e.born:=by rw[zx7,hj,h];rfl
 have hil:i<(es.toList.map (·.born)).length:=(zy4.1 h1).1;have hjl:j<(es.toList.map (·.born)).length:=(zy4.1 h2).1;exact (List.getElem?_inj hil hn).1 (h1.trans h2.symm)
theorem afu{es:Array MapEntry}{bL:Array Nat}{ck i:Nat}{e:MapEntry}(hst:pQ es ck)(hi:es[i]?=some e):nR es (bL.push e.born)=(nR es bL).filter (· != i):=by
 unfold nR;rw[List.filter_filter];refine List.filter_congr fun j hj =>?_;have hjl:j<es.size:=by simpa using hj
 rw[Array.getElem?_eq_getElem hjl];simp only[Array.contains_push];by_cases hij:j=i
 ·subst hij;rw[Array.getElem?_eq_getElem hjl,u8] at hi;simp[hi]
 ·have:(es[j].born==e.born)=false:=by
   simp only[beq_eq_false_iff_ne,ne_eq];exact fun h=>hij (aiK hst (Array.getElem?_eq_getElem hjl) hi h)
  have h2:(j != i)=true:=by simpa using hij
  simp[this,h2]
theorem af6{y:Operand}{y':aH}{ks vs:List I}{left:List Nat}{cur:Option Nat}{n:Nat}(ho:o.op=.next y false)(hy:bC c.P 0 y=some y')(h:ab A y'=.dj n)(hn:A.o n=some (.it ks vs left cur))(hdn:∀ k,o.dst=some k→k<c.n){a:Act}{w:World}{D:aL}{E:aT}(hs:aP c A a w D E) :
  ∃ w' v,(execOp a.eval o).run c.P w=.ok (.value v) w'∧((left=[]∧cn c (A.aK o.dst (.tuple [.bool false])) (a.put o.dst v) w') ∨
   ∃ i k x,i∈left∧ks[i]?=some k∧vs[i]?=some x∧cn c ((A.aN n (.it ks vs (left.filter (· != i)) (some i))).aK o.dst (.tuple [.bool true,k,x])) (a.put o.dst v) w'):=by
 have h1:=ca hs hy;rw[h] at h1;obtain ⟨cs,q1,q2⟩:=h1;simp only[af] at q2;obtain ⟨r,q3,q4⟩:=q2;have hv:a.eval y=.pointer (some ⟨r,0,none⟩):=by simpa[bG,I.isAgg,q4] using q1.symm
 have hob:=hs.bU n;rw[hn] at hob;obtain ⟨r',b,es,ck,since,bL,last,k1,k2,k3,k4,k5,k6,k7,k8,k9,k9',k10⟩:=hob;rw[k1] at q3;cases q3;rcases run_next_at (P:=c.P) w o.type r b since last bL es ck k3 k4.1 k7 k8.1 with ⟨h0,hrun⟩ | ⟨e,he,w1,hal,hrun⟩
 ·refine ⟨w,.tuple #[.bool false],by simp only[execOp,ho,hv,Sem.run_bind,hrun,Result.andThen_ok,Sem.run_pure],.inl ⟨?_,D,E,hs.aK hdn ?_⟩⟩
  ·rw[k9];refine List.eq_nil_iff_forall_not_mem.2 fun i hi =>?_;obtain ⟨e,h1,h2⟩:=JG.1 hi;have hm:e∈leftOf es bL:=by
    unfold leftOf;simp only[Array.mem_filter];exact ⟨Array.mem_of_getElem? h1,by simpa using h2⟩
   rw[Array.eq_empty_of_size_eq_zero h0] at hm;simp at hm
  ·simp only[aS,aE];exact ⟨[.bool false],rfl,.bool false,[],[.bool false],rfl,by simp[bG,I.isAgg],by simp[af],rfl⟩
 ·have hmem:e∈es.toList∧bL.contains e.born=false:=by
   unfold leftOf at he;simp only[Array.toList_filter,zw5] at he;exact ⟨he.1,by simpa using he.2⟩
  obtain ⟨i,hi⟩:=List.getElem?_of_mem hmem.1;have hie:es[i]?=some e:=by rw[←zv0];exact hi
  obtain ⟨k,hk1,hk2⟩:=mA (j:=i) (v:=e.key) k5 (by simp only[zx7,hi,zy3]);obtain ⟨x,hx1,hx2⟩:=mA (j:=i) (v:=e.val) k6 (by simp only[zx7,hi,zy3]);have hsw:aP c A a w1 D E:=by
   rcases hal with rfl | rfl
   ·exact hs
   ·exact hs.grow (w':=w.drew) (D':=D) ⟨rfl,rfl,rfl,zz6 _,fun _ _=>rfl⟩ (fun _ _ h=>h) (fun _ _ h _=>h) (fun b o hd=>hs.c9 b o hd)
  have hw1:w1.heap=w.heap:=by rcases hal with rfl | rfl <;>rfl
  have k3':w1.heap[r]?=some (.mapIter (some b) since bL last):=by rw[hw1];exact k3
  have hset:=hsw.Nf (x:=.it ks vs (left.filter (· != i)) (some i)) (o':=.mapIter (some b) since (bL.push e.born) ck) k1 rfl rfl k3' rfl (fun q=>by simp) k2
   (fun hl hh hno=>by
    have hm:nX w1 D b es ck:=⟨by rw[hw1];exact k4.1,k4.2.1,k4.2.2⟩
    have hob:=hsw.bU n;rw[hn] at hob;refine ⟨r,b,es,ck,since,bL.push e.born,ck,k1,k2,hh,hm.bE hl,aE.bE hl _ _ ?_,aE.bE hl _ _ ?_,k7,?_,?_,fun j hj =>?_,hno⟩
    ·obtain ⟨dE,b2,es2,ck2,si2,se2,la2,g1,g2,g3,g4,g5,g6,_⟩:=hob;rw[k1] at g1;cases g1;rw[k3'] at g3;cases g3;have:=g4.1;rw[hw1,k4.1] at this;cases this;exact g5
    ·obtain ⟨dE,b2,es2,ck2,si2,se2,la2,g1,g2,g3,g4,g5,g6,_⟩:=hob;rw[k1] at g1;cases g1;rw[k3'] at g3;cases g3;have:=g4.1;rw[hw1,k4.1] at this;cases this;exact g6
    ·exact ⟨k8.2,k8.2⟩
    ·rw[k9,afu k4.2.2 hie]
    ·cases hj;exact ⟨e,hie,by simp,rfl⟩)
  have hset':aP c (A.aN n (.it ks vs (left.filter (· != i)) (some i))) a (ChangeMaps.setBlock w1 r (.mapIter (some b) since (bL.push e.born) ck)) D E:=hset;refine ⟨_,.tuple #[.bool true,e.key,e.val],by simp only[execOp,ho,hv,Sem.run_bind,hrun,Result.andThen_ok,Sem.run_pure],.inr ⟨i,k,x,?_,hk1,hx1,D,E,hset'.aK hdn ?_⟩⟩
  ·rw[k9];exact JG.2 ⟨e,hie,hmem.2⟩
  ·have hob2:=hset'.bU n;simp only[ae.aN,if_true] at hob2;obtain ⟨dE,b2,es2,ck2,si2,se2,la2,g1,g2,g3,g4,g5,g6,_⟩:=hob2;rw[k1] at g1;cases g1;have hr2:(ChangeMaps.setBlock w1 r (.mapIter (some b) since (bL.push e.born) ck)).heap[r]?=some (.mapIter (some b) since (bL.push e.born) ck):=World.putObj_heap_same (w:=w1) (fH k3');rw[hr2] at g3;cases g3;have hb2:(ChangeMaps.setBlock w1 r (.mapIter (some b) since (bL.push e.born) ck)).heap[b]?=some (.map es ck):=by
    have:b≠r:=fun e=>by rw[e] at k4;rw[k4.1] at k3;cases k3
    refine (World.putObj_heap_other (w:=w1) this).trans ?_;rw[hw1];exact k4.1
   have:=g4.1;rw[hb2] at this;cases this;obtain ⟨kk,a1,a2⟩:=mA (j:=i) (v:=e.key) g5 (by simp only[zx7,hi,zy3]);rw[hk1] at a1;cases a1;obtain ⟨xx,b1,b2⟩:=mA (j:=i) (v:=e.val) g6 (by simp only[zx7,hi,zy3]);rw[hx1] at b1;cases b1;obtain ⟨c1,c2,c3⟩:=oA (pK k5 hk1) a2;obtain ⟨d1,d2,d3⟩:=oA (pK k6 hx1) b2;simp only[aS,aE];exact ⟨[.bool true,e.key,e.val],rfl,.bool true,_,[.bool true],rfl,by simp[bG,I.isAgg],by simp[af],e.key,_,c1,rfl,c2,c3,e.val,[],d1,rfl,d2,d3,rfl⟩
theorem aes{y:Operand}{y':aH}{ks vs:List I}{left:List Nat}{i n:Nat}{k x:I}(ho:o.op=.entry y)(hy:bC c.P 0 y=some y')(h:ab A y'=.dj n)(hn:A.o n=some (.it ks vs left (some i)))(hk:ks[i]?=some k)(hx:vs[i]?=some x):dF c A o (.tuple [k,x]) :=
 .same fun a w D E hs=>by
  have h1:=ca hs hy;rw[h] at h1;obtain ⟨cs,q1,q2⟩:=h1;simp only[af] at q2;obtain ⟨r,q3,q4⟩:=q2;have hv:a.eval y=.pointer (some ⟨r,0,none⟩):=by simpa[bG,I.isAgg,q4] using q1.symm
  have hob:=hs.bU n;rw[hn] at hob;obtain ⟨r',b,es,ck,since,bL,last,k1,k2,k3,k4,k5,k6,k7,k8,k9,k9',k10⟩:=hob;rw[k1] at q3;cases q3;obtain ⟨e,e1,e2,rfl⟩:=k9' i rfl;have hi:es.toList[i]?=some e:=by rw[zv0];exact e1
  obtain ⟨kk,a1,a2⟩:=mA (j:=i) (v:=e.key) k5 (by simp only[zx7,hi,zy3]);rw[hk] at a1;cases a1;obtain ⟨xx,b1,b2⟩:=mA (j:=i) (v:=e.val) k6 (by simp only[zx7,hi,zy3]);rw[hx] at b1;cases b1;obtain ⟨c1,c2,c3⟩:=oA (pK k5 hk) a2;obtain ⟨d1,d2,d3⟩:=oA (pK k6 hx) b2;have hf:es.find? (·.born==e.born)=some e:=by rw[←Array.find?_toList];exact find_born e es.toList k4.2.2.2 (List.mem_of_getElem? hi)
  refine ⟨.tuple #[e.key,e.val],?_,?_⟩
  ·have hr:(Instr.entry (.pointer (some ⟨r,0,none⟩))).run c.P w=.ok (.tuple #[e.key,e.val]) w:=by
    simp only[Instr.entry,getObj,Sem.run_bind,Sem.run,k3,k4.1,Result.andThen,e2,bne_self_eq_false,zz7,if_false,hf];rfl
   simp only[execOp,ho,hv,Sem.run_bind,hr,Result.andThen_ok,Sem.run_pure]
  ·simp only[aS,aE];exact ⟨[e.key,e.val],rfl,e.key,_,c1,rfl,c2,c3,e.val,[],d1,rfl,d2,d3,rfl⟩
theorem MI{w:World}{D:aL}{E:aT}{z:I}{v:Value}(h:af w D E z [v]):∀ n:Nat,aG w D E (List.replicate n z) (List.replicate n v)
 |0=>by simp[aG]
 |n+1=>by simp only[List.replicate_succ,aG];exact ⟨[v],_,rfl,h,MI h n⟩
theorem Xw{t e:TypeId}{l l':Operand}{n':aH}{z:I}{n d:Nat}{k:IntKind}(ho:o.op=.makeSlice t l l')(hll:l'=l)(hu:c.P.underlying t=some (.slice e))(hl:bC c.P 0 l=some n')(h:ab A n'=.int k n)(hz:fM c.P e=some z)(hz1:z.size=1)
  (hc1:c.P.cellsOf e=1) (hby:n*c.P.bytesOf e≤281474976710656) (hmax:n≤maxLen) (hd:o.dst=some d) (hn:d<c.n) (hf:A.o d=none):gT c A o ((A.aN d (.box (.agg (List.replicate n z)))).put d (.view d [] 1 0 n)):=by
 subst hll;intro a w D E hs;have h1:=ca hs hl;rw[h] at h1;obtain ⟨e1,_⟩:=ff h1;obtain ⟨i,zv,hi,hzz,hzr⟩:=lO hz;have hzc:=af.length _ _ (hzr w D E);rw[hz1] at hzc;obtain ⟨ao,hu1⟩:∃ ao,zv.cells = #[ao]:=by
  have:zv.cells.size=1:=by simpa using hzc
  obtain ⟨ao,hu⟩:=Array.size_eq_one_iff.1 this;exact ⟨ao,hu⟩
 have hsz:i.size=1:=by have:=hc1;simp only[Program.cellsOf,hi,zy3,Option.getD_some] at this;exact this
 have hbytes:(i.bytes:Int)*(n:Int)≤281474976710656:=by
  have:c.P.bytesOf e=i.bytes:=by simp[Program.bytesOf,hi]
  rw[this] at hby;have h2:((i.bytes*n:Nat):Int)≤281474976710656:=by rw[Nat.mul_comm] at hby;omega
  rwa [Int.natCast_mul] at h2
 have hrun:=run_make (P:=c.P) w t e i zv hu hi hzz k k n n (by omega) (Int.le_refl _) hbytes (by have h9:=hmax;unfold maxLen at h9;omega);simp only[Int.toNat_natCast,hsz,Nat.mul_one] at hrun;have hmc:(madeCells zv.cells n).toList=List.replicate n ao:=by
  rw[hu1];simp only[madeCells];apply List.ext_getElem?;intro j;simp[List.getElem?_replicate];split <;>simp_all[Nat.mod_one]
 have hcells:af w D E (.agg (List.replicate n z)) (madeCells zv.cells n).toList:=by
  rw[hmc];simp only[af];refine MI ?_ n;have:=hzr w D E;rw[hu1] at this;simpa using this
 have h2:=hs.qD (T:=e) (.inl hn) hf hcells;have h3:=h2.put (x:=.view d [] 1 0 n) (v:=.slice (some ⟨w.heap.size,0,none⟩) n n) hn ⟨_,by simp[bG,I.isAgg];rfl,by
  simp only[af,if_true];refine ⟨w.heap.size,_,0,I.cN (List.replicate n z),rfl,by simp[cJ.off],by simp[I.aJ,cJ.part],by simp[I.de],by simpa[I.de] using hmax,by simp[I.de],fun s hs =>?_⟩;rw[I.de] at hs;obtain ⟨y,hy,rfl⟩:=zx5.1 hs;rw[I.lN,(List.mem_replicate.1 hy).2,hz1]⟩
 refine ⟨_,.inl ⟨_,?_,D,_,by rw[hd];exact h3⟩⟩;simp only[execOp,ho,e1,Sem.run_bind,hrun,Result.andThen_ok,Sem.run_pure]
end
end Go.Abs
namespace Go.Abs
open Go Go.RowKit
mutual
/-- Values that lead to no memory. -/
def I.flat:I→Bool
 | .agg fs | .tuple fs=>I.oY fs
 | .bool _ | .int _ _ | .cQ _ | .nilp | .da | .dN | .raw _ | .undef | .c8=>true
 |_=>false
def I.oY:List I→Bool
 | []=>true
 |x::xs=>x.flat&&I.oY xs
end
mutual
theorem af.flat{w w':World}{D D':aL}{E E':aT} : ∀ (x:I) (cs:List Value),x.flat=true→af w D E x cs→af w' D' E' x cs
 | .agg fs,cs,hf,hr=>by simp only[af,I.flat] at *;exact aG.flat fs cs hf hr
 | .bool b,cs,_,hr=>by simpa only[af] using hr
 | .int k n,cs,_,hr=>by simpa only[af] using hr
 | .cQ s,cs,_,hr=>by simpa only[af] using hr
 | .nilp,cs,_,hr=>by simpa only[af] using hr
 | .da,cs,_,hr=>by simpa only[af] using hr
 | .dN,cs,_,hr=>by simpa only[af] using hr
 | .raw _,cs,_,hr=>by simpa only[af] using hr
 | .undef,_,_,hr=>by simp only[af] at hr
 | .c8,_,_,hr=>by simp only[af] at hr
 | .tuple _,_,_,hr=>by simp only[af] at hr
 | .nils _,_,hf,_ | .c0 _,_,hf,_ | .slice _ _,_,hf,_ | .ref _,_,hf,_ | .func _ _,_,hf,_ | .iface _ _,_,hf,_ | .ptr _ _,_,hf,_ | .own _ _,_,hf,_ | .view _ _ _ _ _,_,hf,_ | .mref _,_,hf,_ | .dj _,_,hf,_ | .cL _ _,_,hf,_=>by simp[I.flat] at hf
theorem aG.flat{w w':World}{D D':aL}{E E':aT} : ∀ (xs:List I) (cs:List Value),I.oY xs=true→aG w D E xs cs→aG w' D' E' xs cs
 | [],cs,_,hr=>by simpa only[aG] using hr
 |x::xs,cs,hf,hr=>by
  simp only[aG,I.oY,zz2] at *;obtain ⟨c1,c2,h1,h2,h3⟩:=hr;exact ⟨c1,c2,h1,af.flat x c1 hf.1 h2,aG.flat xs c2 hf.2 h3⟩
end
theorem aE.flat{w w':World}{D D':aL}{E E':aT} : ∀ (xs:List I) (vs:List Value),I.oY xs=true→aE w D E xs vs→aE w' D' E' xs vs
 | [],vs,_,hr=>by simpa only[aE] using hr
 |x::xs,vs,hf,hr=>by
  simp only[aE,I.oY,zz2] at *;obtain ⟨v,rest,cs,h1,h2,h3,h4⟩:=hr;exact ⟨v,rest,cs,h1,h2,af.flat x cs hf.1 h3,aE.flat xs rest hf.2 h4⟩
theorem aS.flat{w w':World}{D D':aL}{E E':aT}{x:I}{v:Value}(hf:x.flat=true)(hr:aS w D E x v):aS w' D' E' x v:=by
 cases x <;>simp only[aS] at * <;>first
  |exact hr
  |(obtain ⟨vs,h1,h2⟩:=hr;exact ⟨vs,h1,aE.flat _ _ (by simpa[I.flat] using hf) h2⟩)
  |(obtain ⟨cs,h1,h2⟩:=hr;exact ⟨cs,h1,af.flat _ _ hf h2⟩)
def dL:aT:=fun _=>none
def aC(P:Program)(f:FuncId)(args:List I)(r:I):Prop :=
 gC P f=true∧∀ (w:World) (D:aL) (vs:List Value),(∀ b o,D b o→b<w.heap.size)→aE w D dL args vs →
  Calls P f vs.toArray w fun e w'=>∃ v D',e=.returned v∧aS w' D' dL r v∧Below w.heap.size w w'∧(∀ b o,D' b o→b<w'.heap.size)∧∀ b o,D' b o→b<w.heap.size→D b o
def cC(P:Program)(f:FuncId)(args:List I)(os:List (Nat×ah))(post:cR):Prop :=
 gC P f=true∧pX (Calls P f) (fun _ _ _=>True) args os post
def br(p:Nat→Bool):List (Nat×ah)→Prop
 | []=>True
 |(_,v)::r=>v.only p=true∧br p r
def cW(ns:List Nat)(os:List (Nat×ah)):List (Nat×ah):=os.filter fun q => !ns.contains q.1
def fV(ns:List Nat)(ts:List (Nat×I)):List (Nat×I):=ts.map fun q=>(q.1,if q.2.only (fun n => !ns.contains n) then q.2 else .c8)
def iL(ns:List Nat)(os:List (Nat×ah)):List (Nat×ah):=os.filter fun q=>ns.contains q.1
def jC(ρ:List (Nat×Nat))(os:List (Nat×ah)):List Nat:=os.map fun q=>bD ρ q.1
def jc(aB:Bool)(A0:ae)(ρ:List (Nat×Nat))(os:List (Nat×ah)):List I→List I→Prop
 | [],[]=>True
 |x::xs,c::cs=>((x=c.aO (bD ρ)∧c.only (aq os)=true∧c.cd=true)∨bg aB A0 x=some c)∧jc aB A0 ρ os xs cs
 |_,_=>False
structure az where
 dst:Option Nat
 op:b7
 guard:Option (Nat×Bool)
 deriving Inhabited
inductive cE where
 |done (A:ae)
 |fail
 |call (f:FuncId) (avs:List I) (a1 a2:Option (List I)) (dst:Option Nat) (rest:List az) (A:ae)
 |oQ (v:Value) (avs:List I) (dst:Option Nat) (rest:List az) (A:ae)
 |kd (f:FuncId) (avs:List I) (dst:Option Nat) (rest:List az) (A:ae)
 |any (p:Nat→Prop) (k:Nat→cE)
def cK(x:Option I)(k:I→cE):cE:=match x with
 |some v=>k v
 |none=>.fail
def xG(s:Option Nat)(v old:I):Prop:=v.cd=true∧bV s v=true∧v.aJ=old.aJ
def xu(e esz bytes l sz:Nat)(ys:List I)(T sz':Nat)(es:List I):Prop:=l=es.length∧sz=esz∧T=e∧sz'=esz∧ys≠[]∧es.length+ys.length≤maxLen∧(es.length+ys.length)*bytes≤140737488355328
def qq(ys:List I):List Int:=ys.filterMap fun y=>match y with | .int .i64 i=>some i | _=>none
def xv(e esz bytes l:Nat)(ys:List I)(T:Nat)(xs:List Int)(z:I):Prop:=l=xs.length∧esz=1∧T=e∧z=.int .i64 0∧ys=(qq ys).map (.int .i64)∧ys≠[]∧xs.length+ys.length≤maxLen∧(xs.length+ys.length)*bytes≤140737488355328
def jM:I→Bool
 | .slice _ es=>es.isEmpty
 | .c0 _=>true
 |_=>false
open Classical in
noncomputable def gz(A:ae)(dst:Option Nat)(esz bytes:Nat)(z:I)(es ys:List I)(k:ae→cE):cE :=
 match dst with
 |some d=>match A.o d with
  |none=>if (es.length+ys.length)*bytes≤140737488355328∧es.length+ys.length≤maxLen then
    .any (fun m=>es.length+ys.length+m≤maxLen) (fun m=>k ((A.aN d (.box (.agg (es++(ys++List.replicate m z))))).aK dst (.view d [] esz 0 (es.length+ys.length)))) else .fail
  |some _=>.fail
 |none=>.fail
open Classical in
noncomputable def fo(A:ae)(dst:Option Nat)(esz bytes:Nat)(z:I)(s:I):Option (List I)→Option (List I)→(ae→cE)→cE
 |some es,some ys,k=>if ys=[] then k (A.aK dst s) else match s with
  | .nils _=>gz A dst esz bytes z es ys k
  | .c0 _=>gz A dst esz bytes z es ys k
  | .view n p sz lo l=>match A.o n with
   |some (.box b)=>match b.at p with
    |some (.agg fs)=>if lo+l+ys.length≤fs.length then
      (if sz=esz∧I.cN ys=I.cN ((fs.drop (lo+l)).take ys.length) then k ((A.aN n (.box (iT b p (lo+l) fs ys))).aK dst (.view n p esz lo (l+ys.length))) else .fail)
      else gz A dst esz bytes z es ys k
    |_=>.fail
   |_=>.fail
  |_=>.fail
 |_,_,_=>.fail
open Classical in
noncomputable def uq(A:ae)(dst:Option Nat)(esz bytes:Nat)(z:I)(m:Nat)(s:I):Option (List I)→(ae→cE)→cE
 |some es,k=>match s with
  | .view n p _ lo l=>match A.o n with
   |some (.box b)=>match b.at p with
    |some (.agg fs)=>if 0<m∧fs.length<lo+l+m then gz A dst esz bytes z es (List.replicate m z) k else .fail
    |_=>.fail
   |_=>.fail
  |_=>.fail
 |_,_=>.fail
open Classical in
noncomputable def mQ(A:ae)(esz:Nat)(z:I)(k:ae→cE):I→cE
 | .view n p sz lo l=>match A.o n with
  |some (.box b)=>match b.at p with
   |some (.agg fs)=>if sz=esz∧I.cN (List.replicate l z)=I.cN ((fs.drop lo).take l) then k (A.aN n (.box (iT b p lo fs (List.replicate l z)))) else .fail
   |_=>.fail
  |_=>.fail
 | .nils _=>k A
 | .c0 _=>k A
 |_=>.fail
open Classical in
noncomputable def rT(A:ae)(dst:Option Nat)(esz:Nat)(k:ae→cE):I→Option (List I)→cE
 | .view n p sz lo l,some ys=>match A.o n with
  |some (.box b)=>match b.at p with
   |some (.agg fs)=>if sz=esz∧I.cN (ys.take (min ys.length l))=I.cN ((fs.drop lo).take (min ys.length l)) then k ((A.aN n (.box (iT b p lo fs (ys.take (min ys.length l))))).aK dst (.int .i64 (min ys.length l:Nat))) else .fail
   |_=>.fail
  |_=>.fail
 |_,_=>.fail
open Classical in
noncomputable def a7(A:ae)(dst:Option Nat)(op:b7)(rest:List az)(k:ae→cE):cE :=
 match op with
 | .alloc z=>match dst with
  |some d=>match A.o d with
   |none=>k ((A.aN d (.box z)).put d (.ptr d []))
   |some _=>.fail
  |none=>.fail
 | .box x=>match dst with
  |some d=>match A.o d with
   |none=>if (ab A x).cd then k ((A.aN d (.box (ab A x))).put d (.ptr d [])) else .fail
   |some _=>.fail
  |none=>.fail
 | .bB s x v=>match dst with
  |none=>match ab A x with
   | .ptr n p=>match A.o n with
    |some (.box b)=>match b.at p with
     |some old=>if xG s (ab A v) old then k (A.aN n (.box (b.dx p (ab A v)))) else .fail
     |none=>.fail
    |_=>.fail
   |_=>.fail
  |some _=>.fail
 | .dH e esz bytes z s x=>match ab A s with
  | .own n l=>match ab A x with
   | .slice sz ys=>match A.o n with
    |some (.bT T sz' es)=>if xu e esz bytes l sz ys T sz' es then k ((A.aN n (.bT e esz (es++ys))).aK dst (.own n (es.length+ys.length))) else .fail
    |some (.cO T xs)=>if xv e esz bytes l ys T xs z then k ((A.aN n (.cO e (xs++qq ys))).aK dst (.own n (xs.length+ys.length))) else .fail
    |_=>.fail
   |_=>.fail
  |s'=>fo A dst esz bytes z s' (ep A esz s') (ep A esz (ab A x)) k
 | .lT _ esz bytes z s n=>match ab A n with
  | .int _ m=>uq A dst esz bytes z m.toNat (ab A s) (ep A esz (ab A s)) k
  |_=>.fail
 | .nilS neg x=>if jM (ab A x) then .any (fun m=>m<2) (fun m=>k (A.aK dst (.bool (m==0)))) else cK (a8 A (.nilS neg x)) fun v=>k (A.aK dst v)
 | .je esz z x=>match dst with
  |none=>mQ A esz z k (ab A x)
  |some _=>.fail
 | .kZ esz x y=>rT A dst esz k (ab A x) (ep A esz (ab A y))
 | .call f args=>.call f (args.map (ab A)) (bX true A (args.map (ab A))) (bX false A (args.map (ab A))) dst rest A
 | .eh x args=>match ab A x with
  | .func f caps=>.call f (args.map (ab A)++caps) (bX true A (args.map (ab A)++caps)) (bX false A (args.map (ab A)++caps)) dst rest A
  | .raw v=>.oQ v (args.map (ab A)) dst rest A
  |_=>.fail
 | .kd f args=>.kd f (args.map (ab A)) dst rest A
 | .jB=>match dst with
  |some d=>match A.o d with
   |none=>k ((A.aN d (.cq [] [])).put d (.mref d))
   |some _=>.fail
  |none=>.fail
 | .j0 _ bytes z n=>match dst with
  |some d=>match A.o d with
   |none=>match ab A n with
    | .int _ n=>if 0≤n∧n.toNat*bytes≤281474976710656∧n.toNat≤maxLen then k ((A.aN d (.box (.agg (List.replicate n.toNat z)))).put d (.view d [] 1 0 n.toNat)) else .fail
    |_=>.fail
   |some _=>.fail
  |none=>.fail
 | .gn ty m key v=>match dst with
  |none=>match ab A m with
   | .mref n=>match A.o n with
    |some (.cq ks vs)=>match fP ty (ab A key) (ab A v) ks vs with
     |some (ks',vs')=>k (A.aN n (.cq ks' vs'))
     |none=>.fail
    |_=>.fail
   |_=>.fail
  |some _=>.fail
 | .ka x=>match dst with
  |some d=>match A.o d with
   |none=>match ab A x with
    | .cL ks vs=>k ((A.aN d (.it ks vs (List.range ks.length) none)).put d (.dj d))
    |_=>.fail
   |some _=>.fail
  |none=>.fail
 | .jk x=>match ab A x with
  | .dj n=>match A.o n with
   |some (.it ks vs left cur)=>if left=[] then k (A.aK dst (.tuple [.bool false])) else
     .any (fun i=>i∈left) fun i=>match ks[i]?,vs[i]? with
      |some kk,some x=>k ((A.aN n (.it ks vs (left.filter (· != i)) (some i))).aK dst (.tuple [.bool true,kk,x]))
      |_,_=>.fail
   |_=>.fail
  |_=>.fail
 |op=>cK (a8 A op) fun v=>k (A.aK dst v)
noncomputable def aA:List az→ae→cE
 | [],A=>.done A
 |g::rest,A=>match g.guard with
  |none=>a7 A g.dst g.op rest (aA rest)
  |some (t,b)=>match A.t t with
   | .bool b'=>if b'=b then a7 A g.dst g.op rest (aA rest) else aA rest (A.aK g.dst .undef)
   | .undef=>aA rest (A.aK g.dst .undef)
   |_=>.fail
def Pz(P:Program)(A:ae)(f:FuncId)(avs:List I)(r:I):Prop :=
 ∀ (c:cI) (a:Act) (w:World) (D:aL) (E:aT) (vs:List Value),c.P=P→aP c A a w D E→fE (aS w D E) avs vs→∃ v,(callFunc f vs.toArray).run P w=.ok (.value v) w∧aS w D E r v
inductive bh (P:Program) (Y:Value→List I→List (Nat×ah)→cR→Prop) (dr:Bool) (K:ae→Prop):cE→Prop where
 |done {A:ae} : K A→bh P Y dr K (.done A)
 |flat {f:FuncId} {avs cargs:List I} {a2:Option (List I)} {dst:Option Nat} {rest:List az} {A:ae} (r:I):aC P f cargs r→r.flat=true→bh P Y dr K (aA rest (A.aK dst r))→bh P Y dr K (.call f avs (some cargs) a2 dst rest A)
 |lead {f:FuncId} {avs cargs:List I} {a1:Option (List I)} {dst:Option Nat} {rest:List az} {A:ae} (r:I):aC P f cargs r→bh P Y dr K (aA rest (A.aK dst r))→bh P Y dr K (.call f avs a1 (some cargs) dst rest A)
 |hZ {f:FuncId} {avs cargs:List I} {a1 a2:Option (List I)} {dst:Option Nat} {rest:List az} {ts:List (Nat×I)} {os0:List (Nat×ah)} (ns:List Nat) (r:I):dr=false→aC P f cargs r→bX true (ar ts (iL ns os0)) avs=some cargs →
   br (fun n => !ns.contains n) (cW ns os0)→bh P Y dr K (aA rest ((ar (fV ns ts) (cW ns os0)).aK dst r))→bh P Y dr K (.call f avs a1 a2 dst rest (ar ts os0))
 |bU {f:FuncId} {avs:List I} {a1 a2:Option (List I)} {dst:Option Nat} {rest:List az} {ts:List (Nat×I)} {os0:List (Nat×ah)} (aB:Bool) (ρ:List (Nat×Nat)) (os:List (Nat×ah)) (cargs:List I) (post:cR):dr=false→cC P f cargs os post →
   fS ρ os os0→jc aB (ar ts (cW (jC ρ os) os0)) ρ os avs cargs→(∀ r os',post r os'→er aB ρ os os0 r os') →
   (∀ r os',post r os'→bh P Y dr K (aA rest ((ar ts (dJ ρ os'++os0)).aK dst (r.aO (bD ρ)))))→bh P Y dr K (.call f avs a1 a2 dst rest (ar ts os0))
 |yI {v:Value} {avs:List I} {dst:Option Nat} {rest:List az} {ts:List (Nat×I)} {os0:List (Nat×ah)} (os:List (Nat×ah)) (cargs:List I) (post:cR):dr=false→Y v cargs os post →
   fS [] os os0→jc false (ar ts (cW (jC [] os) os0)) [] os avs cargs→(∀ r os',post r os'→er false [] os os0 r os') →
   (∀ r os',post r os'→bh P Y dr K (aA rest ((ar ts (dJ [] os'++os0)).aK dst (r.aO (bD [])))))→bh P Y dr K (.oQ v avs dst rest (ar ts os0))
 |ext {f:FuncId} {avs:List I} {dst:Option Nat} {rest:List az} {A:ae} (r:I):dr=false→Pz P A f avs r→bh P Y dr K (aA rest (A.aK dst r))→bh P Y dr K (.kd f avs dst rest A)
 |any {p:Nat→Prop} {k:Nat→cE} : dr=false→(∀ m,p m→bh P Y dr K (k m))→bh P Y dr K (.any p k)
def Cj(n:Nat):Option Nat→Bool
 |some d=>decide (d<n)
 |none=>true
def nE(P:Program)(n:Nat)(bK:Array Oper)(o:Oper):Option az :=
 match df P o with
 |none=>none
 |some g=>if Cj n o.dst=true then
   match o.guard with
   |none=>some ⟨o.dst,g,none⟩
   |some (j,b)=>match (bK[j]?).bind (·.dst) with
    |some t=>some ⟨o.dst,g,some (t,b)⟩
    |none=>none
  else none
def gB(P:Program)(n:Nat)(bK:Array Oper):List Oper→Option (List az)
 | []=>some []
 |o::l=>match nE P n bK o,gB P n bK l with
  |some g,some gs=>some (g::gs)
  |_,_=>none
end Go.Abs
namespace Go.Abs
open Go Go.RowKit
section
variable {c:cI} {A:ae} {o:Oper} {x:I}
theorem xV{g:b7}(hg:df c.P o=some g)(h:a8 A g=some x):dF c A o x:=by
 unfold df at hg;split at hg
 -- move
 ·rename_i y ho;simp only[zz0] at hg;obtain ⟨z,hz,rfl⟩:=hg;simp only[a8,u8] at h;subst h;exact Jd (.inl ho) hz
 ·rename_i y ho;simp only[zz0] at hg;obtain ⟨z,hz,rfl⟩:=hg;simp only[a8,u8] at h;subst h;exact Jd (.inr ho) hz
 -- pick
 ·rename_i q y z ho;split at hg
  ·rename_i q' y' z' h1 h2 h3;simp only[u8] at hg;subst hg;simp only[a8] at h;split at h
   ·rename_i t ht;simp only[u8] at h;subst h;exact aeJ ho h1 h2 h3 ht
   ·cases h
  ·cases hg
 -- binOp
 ·rename_i op t y z yt ho;split at hg
  ·rename_i k y' z' hu h1 h2;simp only[u8] at hg;subst hg;exact Jb ho h1 h2 h
  ·rename_i y' z' hu h1 h2;simp only[u8] at hg;subst hg;exact Jb ho h1 h2 h
  ·rename_i e y' z' hu h1 h2;split at hg
   ·rename_i s;split at hg
    ·rename_i hop;simp only[u8] at hg;subst hg;have ho':o.op=.binOp (if (op==.neq)=true then .neq else .eql) t y z yt:=by
      rcases hop with rfl | rfl <;>simpa using ho
     simp only[a8] at h;split at h
     ·rename_i s' hs';simp only[u8] at h;subst h;have:=wv (r:=true) ho' hu h1 h2 (.inl ⟨s',hs',rfl⟩);rw[show (if (op==BinOp.neq)=true then !true else true) = !(op==BinOp.neq) from by cases (op==BinOp.neq) <;>rfl] at this;exact this
     ·rename_i s' es hs';split at h
      ·cases h
      ·rename_i hne;simp only[u8] at h;subst h;have:=wv (r:=false) ho' hu h1 h2 (.inr (.inl ⟨s',es,hs',by simpa using hne,rfl⟩));rw[show (if (op==BinOp.neq)=true then !false else false)=(op==BinOp.neq) from by cases (op==BinOp.neq) <;>rfl] at this;exact this
     ·rename_i n p s' lo k hs';simp only[u8] at h;subst h;have:=wv (r:=false) ho' hu h1 h2 (.inr (.inr ⟨n,p,s',lo,k,hs',rfl⟩));rw[show (if (op==BinOp.neq)=true then !false else false)=(op==BinOp.neq) from by cases (op==BinOp.neq) <;>rfl] at this;exact this
     ·cases h
    ·cases hg
   ·cases hg
  ·rename_i e y' z' hu h1 h2;split at hg
   ·rename_i hop;simp only[u8] at hg;subst hg;have ho':o.op=.binOp (if (op==.neq)=true then .neq else .eql) t y z yt:=by
     rcases hop with rfl | rfl <;>simpa using ho
    simp only[a8] at h;cases hb1:iK (ab A y') with
    |none=>rw[hb1] at h;cases h
    |some b1=>cases hb2:iK (ab A z') with
     |none=>rw[hb1,hb2] at h;cases h
     |some b2 =>
      rw[hb1,hb2] at h;simp only[mn] at h;split at h
      ·rename_i hor;simp only[u8] at h;subst h;exact aeK ho' hu h1 h2 hb1 hb2 (by simpa using hor)
      ·cases h
   ·cases hg
  ·rename_i d y' z' _ _ _ _ hu h1 h2;split at hg
   ·rename_i hop;simp only[zz0] at hg;obtain ⟨ty,hty,rfl⟩:=hg;have ho':o.op=.binOp (if (op==.neq)=true then .neq else .eql) t y z yt:=by
     rcases hop.1 with rfl | rfl <;>simpa using ho
    simp only[a8,zz0] at h;obtain ⟨r,hr,rfl⟩:=h;exact aet ho' h1 h2 hop.2 hty hr
   ·cases hg
  ·cases hg
 -- unOp
 ·rename_i op t y ho;simp only[zz0] at hg;obtain ⟨z,hz,rfl⟩:=hg;simp only[a8] at h;split at h
  ·rename_i b hb;simp only[u8] at h;subst h;exact aeI ho hz hb
  ·rename_i k n hb;simp only[u8] at h;subst h;exact aeH ho hz hb
  ·rename_i k n hb;simp only[u8] at h;subst h;exact aer ho hz hb
  ·cases h
 -- nilCheck
 ·rename_i y ho;simp only[zz0] at hg;obtain ⟨z,hz,rfl⟩:=hg;simp only[a8] at h;cases hy:ab A z <;>rw[hy] at h <;>simp only[mg,u8] at h <;>try (cases h;done)
  ·subst h;rw[←hy];exact Je ho hz (.inr ⟨_,hy⟩)
  ·subst h;rw[←hy];exact Je ho hz (.inl ⟨_,_,hy⟩)
 -- makeMap
 ·simp only[u8] at hg;subst hg;simp[a8] at h
 -- lookup
 ·rename_i t m k ok ho;split at hg
  ·rename_i kt et m' k' hu h1 h2;split at hg
   ·rename_i ty z hk hz;split at hg
    ·rename_i hp;simp only[u8] at hg;subst hg;simp only[a8] at h;cases hm:fX A (ab A m') with
     |none=>rw[hm] at h;cases h
     |some q =>
      obtain ⟨ks,vs⟩:=q;rw[hm] at h;simp only[qy] at h;cases hl:fW ty z (ab A k') ks vs with
      |none=>rw[hl] at h;cases h
      |some q =>
       obtain ⟨v,b⟩:=q;rw[hl] at h;simp only[qz,u8] at h;subst h;exact aeF ho hu hk hz hp h1 h2 hm hl
    ·cases hg
   ·cases hg
  ·cases hg
 -- mapUpdate,insert
 iterate 2
  ·split at hg
   ·split at hg
    ·simp only[u8] at hg;subst hg;simp[a8] at h
    ·cases hg
   ·cases hg
 -- makeSlice
 ·split at hg
  ·split at hg
   ·split at hg
    ·simp only[u8] at hg;subst hg;simp[a8] at h
    ·cases hg
   ·cases hg
  ·cases hg
 -- range
 ·split at hg
  ·simp only[zz0] at hg;obtain ⟨z,_,rfl⟩:=hg;simp[a8] at h
  ·cases hg
 -- next
 ·simp only[zz0] at hg;obtain ⟨z,_,rfl⟩:=hg;simp[a8] at h
 -- entry
 ·rename_i y ho;simp only[zz0] at hg;obtain ⟨z,hz,rfl⟩:=hg;simp only[a8] at h;split at h
  ·rename_i n hn;split at h
   ·rename_i ks vs left cur hob;cases cur with
    |none=>cases h
    |some i =>
     simp only[oS] at h;split at h
     ·rename_i kk xx hk hx;simp only[u8] at h;subst h;exact aes ho hz hn hob hk hx
     ·cases h
   ·cases h
  ·cases h
 -- convert
 ·rename_i nw dst y ho;split at hg
  ·rename_i k0 k y' h1 h2 h3;simp only[u8] at hg;subst hg;simp only[a8] at h;split at h
   ·rename_i k1 n hn;simp only[u8] at h;subst h;exact aeq ho h1 h2 h3 hn
   ·cases h
  ·cases hg
 -- load
 ·rename_i t y ho;split at hg
  ·rename_i s y' h1 h2;simp only[u8] at hg;subst hg;simp only[a8] at h;split at h
   ·rename_i v hv;split at h
    ·rename_i hok;simp only[u8] at h;subst h;exact aeE ho h1 h2 hv hok
    ·cases h
   ·cases h
  ·cases hg
 -- fieldAddr
 ·rename_i t y f ho;split at hg
  ·rename_i fs y' hu h1;split at hg
   ·rename_i fd hf;split at hg
    ·cases hg
    ·rename_i hz;simp only[u8] at hg;subst hg;simp only[a8] at h;split at h
     ·rename_i gs hgs;split at h
      ·rename_i v hv;split at h
       ·rename_i hoff;simp only[u8] at h;subst h;exact aew ho hu hf hz h1 hgs hv hoff
       ·cases h
      ·cases h
     ·rename_i n p hp;split at h
      ·rename_i gs hgs;split at h
       ·rename_i hoff;simp only[u8] at h;subst h;exact aev ho hu hf hz h1 hp hgs hoff.1 hoff.2
       ·cases h
      ·cases h
     ·cases h
   ·cases hg
  ·cases hg
 -- field
 ·rename_i t y f ho;split at hg
  ·rename_i fs y' hu h1;split at hg
   ·rename_i fd hf;simp only[zz0] at hg;obtain ⟨s,hs,rfl⟩:=hg;simp only[a8] at h;split at h
    ·rename_i gs hgs;split at h
     ·rename_i v hv;split at h
      ·rename_i hoff;simp only[u8] at h;subst h;exact aex ho hu hf hs h1 hgs hv hoff.1 hoff.2
      ·cases h
     ·cases h
    ·cases h
   ·cases hg
  ·cases hg
 -- indexAddr
 ·rename_i t y i ho;split at hg
  ·rename_i n e y' i' hu h1 h2;split at hg
   ·rename_i hinfo;obtain ⟨ti,hti⟩:=zw0.1 hinfo;simp only[u8] at hg;subst hg;simp only[a8] at h;split at h
    ·rename_i kk k hk;split at h
     ·rename_i hb;split at h
      ·rename_i gs hgs;split at h
       ·rename_i hev;simp only[zz0] at h;obtain ⟨v,hv,rfl⟩:=h;exact aez ho hu hti h1 h2 hgs hk hb hev hv
       ·cases h
      ·rename_i m p hp;split at h
       ·rename_i gs hgs;split at h
        ·rename_i hev;simp only[u8] at h;subst h;exact aey ho hu hti h1 h2 hp hk hb hgs hev
        ·cases h
       ·cases h
      ·cases h
     ·cases h
    ·cases h
   ·cases hg
  ·rename_i e y' i' hu h1 h2;split at hg
   ·rename_i hinfo;obtain ⟨ti,hti⟩:=zw0.1 hinfo;simp only[u8] at hg;subst hg;simp only[a8] at h;split at h
    ·rename_i kk k hk;split at h
     ·rename_i sz es hes;split at h
      ·rename_i hb;obtain ⟨rfl,hb⟩:=hb;simp only[zz0] at h;obtain ⟨v,hv,rfl⟩:=h;exact aeA ho hu hti h1 h2 hes hk hb hv
      ·cases h
     ·rename_i m l hm;split at h
      ·rename_i T sz es hes;split at h
       ·rename_i hb;obtain ⟨rfl,rfl,hb⟩:=hb;simp only[zz0] at h;obtain ⟨v,hv,rfl⟩:=h;exact aeB ho hu hti h1 h2 hm hes hk hb hv
       ·cases h
      ·cases h
     ·rename_i m p sz lo l hm;split at h
      ·rename_i fs hfs;split at h
       ·rename_i hb;simp only[u8] at h;subst h;exact aeC ho hu hti h1 h2 hb.1 hm hfs hk hb.2
       ·cases h
      ·cases h
     ·cases h
    ·cases h
   ·cases hg
  ·cases hg
 -- index
 ·rename_i t y i ho;split at hg
  ·rename_i n e y' i' hu h1 h2;simp only[zz0] at hg;obtain ⟨s,hs,rfl⟩:=hg;simp only[a8] at h;split at h
   ·rename_i kk k hk;split at h
    ·rename_i hb;split at h
     ·rename_i gs hgs;split at h
      ·rename_i hev;split at h
       ·rename_i v hv;split at h
        ·rename_i hok;simp only[u8] at h;subst h;exact aeD ho hu hs h1 h2 hgs hk hb hev hv hok
        ·cases h
       ·cases h
      ·cases h
     ·cases h
    ·cases h
   ·cases h
  ·cases hg
 -- slice
 ·rename_i t y lo hi mx ho;split at hg
  ·rename_i n e y' hu h1;split at hg
   ·split at hg
    ·rename_i hinfo;obtain ⟨ti,hti⟩:=zw0.1 hinfo;simp only[u8] at hg;subst hg;simp only[a8] at h;split at h
     ·rename_i m p hp;split at h
      ·rename_i gs hgs;split at h
       ·rename_i hev;simp only[u8] at h;subst h;exact aeM ho hu hti h1 hp hgs hev.1 hev.2.1 hev.2.2
       ·cases h
      ·cases h
     ·rename_i gs hgs;split at h
      ·rename_i hev;simp only[u8] at h;subst h;exact aeN ho hu hti h1 hgs hev.1 hev.2.1
      ·cases h
     ·cases h
    ·cases hg
   ·cases hg
  ·rename_i e y' hu h1;split at hg
   ·rename_i lo' hi' mx' q1 q2 q3;split at hg
    ·rename_i hc;obtain ⟨ti,hti⟩:=zw0.1 hc.2;simp only[u8] at hg;subst hg;simp only[a8] at h;split at h
     ·rename_i sz es hes;split at h
      ·rename_i hsz;subst hsz;exact wy ho hu hti h1 q1 q2 q3 hc.1 (.inl hes) h
      ·cases h
     ·rename_i sz hes;split at h
      ·rename_i hsz;subst hsz;exact wy ho hu hti h1 q1 q2 q3 hc.1 (.inr (.inl ⟨hes,rfl⟩)) h
      ·cases h
     ·rename_i sz hes;split at h
      ·rename_i hsz;subst hsz;exact wy ho hu hti h1 q1 q2 q3 hc.1 (.inr (.inr ⟨hes,rfl⟩)) h
      ·cases h
     ·rename_i n p sz l0 k hv;split at h
      ·rename_i fs hfs;split at h
       ·rename_i hsz;exact aeL ho hu hti h1 q1 q2 q3 hc.1 hsz hv hfs h
       ·cases h
      ·cases h
     ·cases h
    ·cases hg
   ·cases hg
  ·cases hg
 -- build
 ·rename_i t parts ho;split at hg
  ·rename_i zs ps hz hp;split at hg
   ·rename_i fs hu;split at hg
    ·rename_i hc;simp only[u8] at hg;subst hg;simp only[a8,zz0] at h;obtain ⟨zs',h,rfl⟩:=h;exact Jc ho hz hp (.inl ⟨fs,hu,hc.1,hc.2⟩) h
    ·cases hg
   ·rename_i n e hu;split at hg
    ·rename_i hc;simp only[u8] at hg;subst hg;simp only[a8,zz0] at h;obtain ⟨zs',h,rfl⟩:=h;exact Jc ho hz hp (.inr ⟨n,e,hu,hc.1,hc.2.1,hc.2.2⟩) h
    ·cases hg
   ·cases hg
  ·cases hg
 -- buildSlice
 ·rename_i t len parts ho;split at hg
  ·rename_i e hu;split at hg
   ·rename_i ps hp;split at hg
    ·rename_i h0;obtain ⟨rfl,rfl,h0⟩:=h0;obtain ⟨ti,hti⟩:=zw0.1 h0;simp only[u8] at hg;subst hg;simp only[a8,u8] at h;subst h;exact aep ho hu hti
    split at hg
    ·rename_i hc;obtain ⟨c1,c2,c3,jd,kU⟩:=hc;simp only[u8] at hg;subst hg;simp only[a8] at h;split at h
     ·rename_i es hes;split at h
      ·rename_i hev;simp only[u8] at h;subst h;refine aeo ho hu hp c1 c2 c3 jd kU hes (fun y hy =>?_) hev.2;have:=zy2.1 hev.1 y hy;simpa using this
      ·cases h
     ·cases h
    ·cases hg
   ·cases hg
  ·cases hg
 -- extract
 ·rename_i y i ho;simp only[zz0] at hg;obtain ⟨z,hz,rfl⟩:=hg;simp only[a8] at h;split at h
  ·rename_i fs hfs;exact aeu ho hz hfs h
  ·cases h
 -- makeFunc
 ·rename_i f first caps ho
  split at hg
  ·rename_i hfirst;simp only[zz0] at hg;obtain ⟨ys,hys,rfl⟩:=hg;simp only[a8] at h;split at h
   ·rename_i hv;simp only[u8] at h;subst h;have hf:first = #[]:=by simpa using hfirst
    rw[hf] at ho;refine aeG ho hys (fun y hy =>?_);have:=zy2.1 hv (ab A y) (zx5.2 ⟨y,hy,rfl⟩);exact this
   ·cases h
  ·cases hg
 -- alloc
 ·simp only[zz0] at hg;obtain ⟨z,_,rfl⟩:=hg;simp[a8] at h
 -- box
 ·simp only[zz0] at hg;obtain ⟨z,_,rfl⟩:=hg;simp[a8] at h
 -- store
 ·split at hg
  ·split at hg
   ·simp only[u8] at hg;subst hg;simp[a8] at h
   ·cases hg
  ·cases hg
 -- call
 ·split at hg
  ·simp only[zz0] at hg;obtain ⟨z,_,rfl⟩:=hg;simp[a8] at h
  ·simp only[zz0] at hg;obtain ⟨z,_,rfl⟩:=hg;simp[a8] at h
 ·split at hg
  ·simp only[u8] at hg;subst hg;simp[a8] at h
  ·cases hg
 -- len
 ·rename_i args tys ho;split at hg
  ·rename_i y ty hargs htys;have ho':o.op=.call { callee:=.builtin .len,args := #[y],argTypes := #[ty] } :=by
    rw[ho];have e1:args = #[y]:=by apply Array.ext';simpa using hargs
    have e2:tys = #[ty]:=by apply Array.ext';simpa using htys
    rw[e1,e2]
   split at hg
   ·rename_i e hu;simp only[zz0] at hg;obtain ⟨y',hy,rfl⟩:=hg;simp only[a8] at h;split at h
    ·rename_i sz es hes;simp only[u8] at h;subst h;refine o5 ho' hu (.inl ⟨e,rfl⟩) hy (fun a w D E hs v hv =>?_);rw[hes] at hv;obtain ⟨ad,cap,e1,e2,e3,_⟩:=nt hv;exact ⟨zv7 e2 e3,fun _=>⟨ad,cap,e1⟩,fun e=>by cases e⟩
    ·rename_i sz hes;simp only[u8] at h;subst h;refine o5 (n:=0) ho' hu (.inl ⟨e,rfl⟩) hy (fun a w D E hs v hv =>?_);rw[hes] at hv;obtain ⟨cs,q1,q2⟩:=hv;simp only[af] at q2;exact ⟨by simp[maxLen],fun _=>⟨none,0,by simpa[bG,I.isAgg,q2] using q1.symm⟩,fun e=>by cases e⟩
    ·rename_i sz hes;simp only[u8] at h;subst h;refine o5 (n:=0) ho' hu (.inl ⟨e,rfl⟩) hy (fun a w D E hs v hv =>?_);rw[hes] at hv;obtain ⟨cs,q1,q2⟩:=hv;simp only[af] at q2;obtain ⟨ad,q2⟩:=q2;exact ⟨by simp[maxLen],fun _=>⟨ad,0,by simpa[bG,I.isAgg,q2] using q1.symm⟩,fun e=>by cases e⟩
    ·rename_i m l hm;split at h
     ·rename_i T sz es hes;split at h
      ·rename_i hl;subst hl;simp only[u8] at h;subst h;refine o5 ho' hu (.inl ⟨e,rfl⟩) hy (fun a w D E hs v hv =>?_);rw[hm] at hv;rcases hs.own hes hv with ⟨rfl,_,rfl⟩ | ⟨b,cap,cs,pre,rest,_,rfl,_,_,_,_,_,k8,k9,_⟩
       ·exact ⟨by simp[maxLen],fun _=>⟨none,0,rfl⟩,fun e=>by cases e⟩
       ·exact ⟨zv7 k8 k9,fun _=>⟨_,_,rfl⟩,fun e=>by cases e⟩
      ·cases h
     ·cases h
    ·rename_i n p sz lo k hm;simp only[u8] at h;subst h;refine o5 ho' hu (.inl ⟨e,rfl⟩) hy (fun a w D E hs v hv =>?_);rw[hm] at hv;obtain ⟨cs,q1,q2⟩:=hv;simp only[af] at q2;obtain ⟨b,aJ,off,l,_,_,_,q2,q3,q4,_⟩:=q2;exact ⟨by omega,fun _=>⟨_,_,by simpa[bG,I.isAgg,q2] using q1.symm⟩,fun e=>by cases e⟩
    ·cases h
   ·rename_i hu;simp only[zz0] at hg;obtain ⟨y',hy,rfl⟩:=hg;simp only[a8] at h;split at h
    ·rename_i s hs';simp only[u8] at h;subst h;refine o5 ho' hu (.inr rfl) hy (fun a w D E hs v hv =>?_);rw[hs'] at hv;obtain ⟨e1,e2⟩:=nu hv;exact ⟨e2,(fun e=>by obtain ⟨_,e⟩:=e;cases e),fun _=>⟨s,e1,rfl⟩⟩
    ·cases h
   ·cases hg
  ·cases hg
 -- append
 ·split at hg
  ·split at hg
   ·split at hg
    ·simp only[zz0] at hg;obtain ⟨z,_,rfl⟩:=hg;simp[a8] at h
    ·split at hg
     ·simp only[zz0] at hg;obtain ⟨z,_,rfl⟩:=hg;simp[a8] at h
     ·cases hg
   ·cases hg
  ·cases hg
 -- cap
 ·rename_i args tys ho;split at hg
  ·rename_i y ty hargs htys;have ho':o.op=.call { callee:=.builtin .cap,args := #[y],argTypes := #[ty] } :=by
    rw[ho];have e1:args = #[y]:=by apply Array.ext';simpa using hargs
    have e2:tys = #[ty]:=by apply Array.ext';simpa using htys
    rw[e1,e2]
   split at hg
   ·rename_i e hu;simp only[zz0] at hg;obtain ⟨y',hy,rfl⟩:=hg;simp only[a8] at h;split at h
    ·rename_i sz hes;simp only[u8] at h;subst h;refine wu ho' hu hy (fun a w D E hs v hv =>?_);rw[hes] at hv;obtain ⟨cs,q1,q2⟩:=hv;simp only[af] at q2;exact ⟨by simp[maxLen],_,_,by simpa[bG,I.isAgg,q2] using q1.symm⟩
    ·rename_i sz hes;simp only[u8] at h;subst h;refine wu ho' hu hy (fun a w D E hs v hv =>?_);rw[hes] at hv;obtain ⟨cs,q1,q2⟩:=hv;simp only[af] at q2;obtain ⟨ad,q2⟩:=q2;exact ⟨by simp[maxLen],_,_,by simpa[bG,I.isAgg,q2] using q1.symm⟩
    ·rename_i n p sz lo k hm;split at h
     ·rename_i fs hfs;simp only[u8] at h;subst h;refine wu ho' hu hy (fun a w D E hs v hv =>?_);rw[hm] at hv;obtain ⟨_,b,cs,T,off,c1,c2,c3,_,_,_,_,_,_,_,_,_,_,_,q1,q2⟩:=hs.view hv hfs;exact ⟨by omega,_,_,q2⟩
     ·cases h
    ·cases h
   ·cases hg
  ·cases hg
 -- clear
 ·split at hg
  ·split at hg
   ·simp only[zz0] at hg;obtain ⟨z,_,rfl⟩:=hg;simp[a8] at h
   ·cases hg
  ·cases hg
 -- copy
 ·split at hg
  ·split at hg
   ·split at hg
    ·simp only[u8] at hg;subst hg;simp[a8] at h
    ·cases hg
   ·cases hg
  ·cases hg
 ·cases hg
theorem fE.append{α β:Type}{R:α→β→Prop} : ∀ {xs:List α} {ys:List β} {xs':List α} {ys':List β},fE R xs ys→fE R xs' ys'→fE R (xs++xs') (ys++ys')
 |_,_,_,_,.nil,h=>h
 |_,_,_,_,.cons h1 h2,h=>.cons h1 (h2.append h)
theorem ye{w:World}{D:aL}{E:aT} : ∀ {xs:List I} {vs:List Value},aE w D E xs vs→fE (aS w D E) xs vs
 | [],vs,h=>by simp only[aE] at h;subst h;exact .nil
 |x::xs,vs,h=>by
  simp only[aE] at h;obtain ⟨v,rest,cs,rfl,h1,h2,h3⟩:=h;exact .cons (mf h1 h2) (ye h3)
theorem Sy {P : Program} {f : FuncId} (h : gC P f = true) : ∃ fn, P.funcs[f]? = some fn ∧ ¬ fn.name = "runtime.NumGoroutine" ∧ ¬ fn.body = none := by
 unfold gC at h;cases hf:P.funcs[f]? with
 |none=>simp[hf] at h
 |some fn =>
  simp only[hf,Option.any_some,zz2,bne_iff_ne,ne_eq] at h;refine ⟨fn,rfl,by simpa using h.1,?_⟩;cases hb:fn.body <;>simp_all
theorem ya{P:Program}{w:World}{f:FuncId}{args:Array Value}(h:gC P f=true):(callFunc f args).run P w=.ok (.enter f args) w:=by
 obtain ⟨fn,h1,h2,h3⟩:=Sy h;simp[callFunc,h1,h2,h3]
theorem aC.ai0{f:FuncId}{avs cargs:List I}{r:I}{vs:List Value}{a:Act}{w:World}{D:aL}{E:aT}(hs:aP c A a w D E)(h:aC c.P f cargs r)(hf:r.flat=true)(hc:bX true A avs=some cargs)(hv:fE (aS w D E) avs vs) :
  Calls c.P f vs.toArray w fun e w'=>∃ v D',e=.returned v∧aP c A a w' D' E∧aS w' D' E r v:=by
 have hw:gV true A D E (fun b _=>b<w.heap.size):=by
  refine ⟨fun b o hd=>hs.c9 b o hd,fun n T sz es b cap hn av o _=>hs.fG av rfl,fun _ n x b aJ hn av o _=>hs.fG av rfl,fun _ n ks vs b hn av=>hs.fG av rfl⟩
 have hrv:=lq (E':=dL) hs (fun _ _ h=>h) hw avs cargs vs (lL _ _ hv (oX hc)) hc;refine (h.2 w _ vs (fun _ _ hd=>hd) hrv).mono fun e w' ⟨v,D',he,h1,h2,h3,h4⟩=>⟨v,D,he,?_,aS.flat hf h1⟩
 exact hs.grow h2 (fun _ _ hd=>hd) (fun _ _ hd _=>hd) (fun b o hd=>Nat.lt_of_lt_of_le (hs.c9 b o hd) h2.size)
theorem aC.ai2{f:FuncId}{avs cargs:List I}{r:I}{vs:List Value}{a:Act}{w:World}{D:aL}{E:aT}(hs:aP c A a w D E)(h:aC c.P f cargs r)(hc:bX false A avs=some cargs)(hv:fE (aS w D E) avs vs) :
  Calls c.P f vs.toArray w fun e w'=>∃ v D',e=.returned v∧aP c A a w' D' E∧aS w' D' E r v:=by
 obtain ⟨hs1,hw⟩:=hs.nv;have hrv:=lq (E':=dL) hs (fun _ _ h=>h) hw avs cargs vs (lL _ _ hv (oX hc)) hc;refine (h.2 w _ vs hs1.c9 hrv).mono fun e w' ⟨v,D',he,h1,h2,h3,h4⟩=>⟨v,fun b o=>oe A D E b o∨(w.heap.size≤b∧D' b o),he,?_,?_⟩
 ·refine hs1.grow h2 (fun _ _ hd=>.inl hd) ?_ ?_
  ·rintro b o (hd | ⟨hle,_⟩) hlt
   ·exact hd
   ·omega
  ·rintro b o (hd | ⟨_,hd⟩)
   ·exact Nat.lt_of_lt_of_le (hs1.c9 b o hd) h2.size
   ·exact h3 b o hd
 ·refine aS.bE (E:=dL) ⟨fun b o hd =>?_,fun _ _ _ _ h=>h,fun n b aJ hn=>by simp[dL] at hn,fun n aD l hn=>by simp[dL] at hn,fun n b hn=>by simp[dL] at hn,fun n b hn=>by simp[dL] at hn,fun _ _ _ _ h=>h⟩ h1;rcases Nat.lt_or_ge b w.heap.size with hlt | hge
  ·exact .inl (h4 b o hd hlt)
  ·exact .inr ⟨hge,hd⟩
theorem JM(p:Nat→Bool)(os:List (Nat×ah))(n:Nat):aj (os.filter fun q=>p q.1) n=if p n then aj os n else none:=by
 induction os with
 |nil=>simp[aj]
 |cons q os ih =>
  obtain ⟨k,v⟩:=q;simp only[zw2];by_cases hk:p k=true
  ·simp only[hk,if_true,aj,ih];by_cases hn:n=k
   ·subst hn;simp only[hk,if_true]
   ·simp only[if_neg hn]
  ·simp only[hk,zz7,if_false,ih,aj];by_cases hn:n=k
   ·subst hn;simp[hk]
   ·simp only[if_neg hn]
theorem m9(ns:List Nat)(os:List (Nat×ah))(n:Nat):aj (cW ns os) n=if ns.contains n then none else aj os n:=by
 rw[cW,JM (fun n => !ns.contains n)];cases ns.contains n <;>rfl
theorem nS(ns:List Nat)(os:List (Nat×ah))(n:Nat):aj (iL ns os) n=if ns.contains n then aj os n else none:=JM _ _ _
theorem xI{p:Nat→Bool} : ∀ {os:List (Nat×ah)},br p os→∀ k x,aj os k=some x→x.only p=true
 | [],_,k,x,hx=>by simp[aj] at hx
 |(j,v)::r,h,k,x,hx=>by
  simp only[br] at h;simp only[aj] at hx;split at hx
  ·simp only[u8] at hx;subst hx;exact h.1
  ·exact xI h.2 k x hx
theorem JN(ns:List Nat):∀ (ts:List (Nat×I)) (t:Nat),b9 (fV ns ts) t=if (b9 ts t).only (fun n => !ns.contains n) then b9 ts t else .c8
 | [],t=>by simp[fV,b9,I.only]
 |(k,v)::r,t=>by
  simp only[fV,zz9,b9];by_cases h:t=k
  ·simp only[if_pos h]
  ·simp only[if_neg h];exact JN ns r t
theorem aP.CZ{a:Act}{w:World}{D:aL}{E:aT}{ts:List (Nat×I)}{os0:List (Nat×ah)}(h:aP c (ar ts os0) a w D E)(ns:List Nat)(ho:br (fun n => !ns.contains n) (cW ns os0)) :
  ∃ D' E',aP c (ar (fV ns ts) (cW ns os0)) a w D' E'∧gV true (ar ts (iL ns os0)) D E D':=by
 have h1:=h.nv.1;have hw1:=h.nv.2;obtain ⟨D1,hD1⟩:∃ D1,D1=oe (ar ts os0) D E:=⟨_,rfl⟩
 rw[←hD1] at h1 hw1;obtain ⟨D2,hD2⟩:∃ D2:aL,D2=fun b o=>D1 b o∨(∃ n x aJ,ns.contains n=true∧aj os0 n=some (.box x)∧E n=some (.aB b aJ)∧o<x.size)∨∃ n ks vs,ns.contains n=true∧aj os0 n=some (.cq ks vs)∧E n=some (.cq b)∧o=0:=⟨_,rfl⟩
 obtain ⟨E2,hE2⟩:∃ E2:aT,E2=fun n=>if ns.contains n then none else E n:=⟨_,rfl⟩
 have e2:∀ n,(!ns.contains n)=true→E2 n=E n:=fun n hn=>by rw[hE2];simp at hn;simp[hn]
 have hl:dG w D1 E2 w D2 E2:=⟨fun b o hd=>by rw[hD2];exact .inl hd,fun _ _ _ _ h=>h,fun _ _ _ h=>h,fun _ aD l h=>⟨aD,l,h,zz6 _,fun _=>rfl⟩,fun _ _ h=>h,fun _ _ h=>h,fun _ _ _ _ h=>h⟩
 have pq:∀ b o,D2 b o→D1 b o∨∃ n e q,ns.contains n=true∧E n=some e∧e.aD=some b∧c.eU b∧w.heap[b]?=some q:=fun b o hd=>by
  rw[hD2] at hd;rcases hd with hd | ⟨n,x,aJ,k1,k2,k3,k4⟩ | ⟨n,ks,vs,k1,k2,k3,_⟩
  ·exact .inl hd
  ·obtain ⟨b',cs,T,q1,q2,q3,_⟩:=h.box (n:=n) (x:=x) (by simpa[ar] using k2);rw[k3] at q1;simp only[u8,bS.aB.injEq] at q1;obtain ⟨rfl,rfl⟩:=q1;exact .inr ⟨n,_,_,k1,k3,rfl,q2,q3⟩
  ·obtain ⟨b',es,ck,q1,q2,q3,_⟩:=h.map (n:=n) (ks:=ks) (vs:=vs) (by simpa[ar] using k2);rw[k3] at q1;cases q1;exact .inr ⟨n,_,_,k1,k3,rfl,q2,q3⟩
 refine ⟨D2,E2,⟨h1.sz,h1.eF,fun t =>?_,h1.dK,fun b o hd hm =>?_,fun b o hd =>?_,fun n =>?_,fun n m e e' b g1 g2 g3 g4 =>?_,fun n e hn =>?_,h1.eO,fun b o hd=>hl.cV b o (h1.cG b o hd),h1.eS,h1.fq⟩,?_⟩
 ·simp only[ar,JN];have ht:=h1.ea t;simp only[ar] at ht;split
  ·rename_i hp;exact aS.bE hl (aS.dq e2 hp ht)
  ·simp[aS]
 ·rcases pq b o hd with hd | ⟨n,e,q,_,_,_,k,_⟩
  ·exact h1.cV b o hd hm
  ·exact absurd k hm
 ·rcases pq b o hd with hd | ⟨n,e,q,_,_,_,_,k⟩
  ·exact h1.c9 b o hd
  ·exact fH k
 ·simp only[ar,m9];by_cases hn:ns.contains n=true
  ·simp only[hn,if_true,cY];rw[hE2];simp only[hn,if_true]
  ·have hnb:(!ns.contains n)=true:=by simpa using hn
   simp only[hn,zz7,if_false];have hob:=h1.bU n;simp only[ar] at hob;cases hx:aj os0 n with
   |none=>rw[hx] at hob;simp only[cY] at hob ⊢;rw[e2 n hnb];exact hob
   |some x =>
    have hon:=xI ho n x (by rw[m9,if_neg hn];exact hx);have nD:∀ e b,E n=some e→e.aD=some b→∀ o,D2 b o→D1 b o:=fun e b he hb o hd=>by
     rcases pq b o hd with hd | ⟨m,e',q,k1,k3,k2,_⟩
     ·exact hd
     ·have:=h.cM n m e _ b he k3 hb k2;subst this;exact absurd k1 hn
    rw[hx] at hob;cases x with
    |box x =>
     obtain ⟨b,cs,T,k1,k2,k3,k4,k5⟩:=hob;exact ⟨b,cs,T,(e2 n hnb).trans k1,k2,k3,af.bE hl _ _ (af.dq e2 _ _ (by simpa[ah.only] using hon) k4),fun o hd=>k5 o (nD _ b k1 rfl o hd)⟩
    |bT T sz es =>
     obtain ⟨aD,k1,k2,k3⟩:=hob;refine ⟨aD,(e2 n hnb).trans k1,k2,?_⟩;cases aD with
     |none=>exact k3
     |some bc =>
      obtain ⟨b,cap⟩:=bc;obtain ⟨cs,pre,rest,q1,q2,q3,q4,q5,q6,q7,q8⟩:=k3;exact ⟨cs,pre,rest,q1,q2,q3,aG.bE hl _ _ (aG.dq e2 _ _ (by simpa[ah.only] using hon) q4),q5,q6,q7,fun o hd=>q8 o (nD _ b k1 rfl o hd)⟩
    |cO T xs =>
     obtain ⟨aD,k1,k2,k3⟩:=hob;refine ⟨aD,(e2 n hnb).trans k1,k2,?_⟩;cases aD with
     |none=>exact k3
     |some bc =>
      obtain ⟨b,cap⟩:=bc;obtain ⟨cs,r,q1,q2,q3,q4,q5,q6,q7⟩:=k3;exact ⟨cs,r,q1,q2,q3,q4,q5,q6,fun o hd=>q7 o (nD _ b k1 rfl o hd)⟩
    |dD x =>
     obtain ⟨b,k1,k2,k3,k4,k5⟩:=hob;exact ⟨b,(e2 n hnb).trans k1,k2,k3,k4,fun o hd=>k5 o (nD _ b k1 rfl o hd)⟩
    |cq ks vs =>
     obtain ⟨b,es,ck,k1,k2,k3,k4,k5,k6,k7⟩:=hob;simp only[ah.only,zz2] at hon;exact ⟨b,es,ck,(e2 n hnb).trans k1,k2,k3,k4,aE.bE hl _ _ (aE.dq e2 _ _ hon.1 k5),aE.bE hl _ _ (aE.dq e2 _ _ hon.2 k6),fun o hd=>k7 o (nD _ b k1 rfl o hd)⟩
    |it ks vs left cur =>
     obtain ⟨r,b,es,ck,si,se,la,k1,k2,k3,k4,k5,k6,k7,k8,k9,k9',k10⟩:=hob;simp only[ah.only,zz2] at hon;exact ⟨r,b,es,ck,si,se,la,(e2 n hnb).trans k1,k2,k3,k4.bE hl,aE.bE hl _ _ (aE.dq e2 _ _ hon.1 k5),aE.bE hl _ _ (aE.dq e2 _ _ hon.2 k6),k7,k8,k9,k9',fun o hd=>k10 o (nD _ r k1 rfl o hd)⟩
 ·have cut:∀ n e,E2 n=some e→E n=some e:=fun n e he=>by
   rw[hE2] at he;simp only at he;split at he
   ·cases he
   ·exact he
  exact h.cM n m e e' b (cut n e g1) (cut m e' g2) g3 g4
 ·by_cases hm:ns.contains n=true
  ·left;rw[hE2];simp only[hm,if_true]
  ·rw[e2 n (by simpa using hm)];exact h.dQ n e hn
 ·refine ⟨fun b o hd=>by rw[hD2];exact .inl (hw1.cV b o hd),fun n T sz es b cap hn av o hlt =>?_,fun _ n x b aJ hn av o hlt =>?_,fun _ n ks vs b hn av =>?_⟩
  ·simp only[ar,nS] at hn;split at hn
   ·rw[hD2];exact .inl (hw1.bT n T sz es b cap hn av o hlt)
   ·cases hn
  ·simp only[ar,nS] at hn;split at hn
   ·rename_i hk;rw[hD2];exact .inr (.inl ⟨n,x,aJ,hk,hn,av,hlt⟩)
   ·cases hn
  ·simp only[ar,nS] at hn;split at hn
   ·rename_i hk;rw[hD2];exact .inr (.inr ⟨n,ks,vs,hk,hn,av,rfl⟩)
   ·cases hn
theorem aC.ai1{f:FuncId}{avs cargs:List I}{r:I}{vs:List Value}{a:Act}{w:World}{D:aL}{E:aT}{ts:List (Nat×I)}{os0:List (Nat×ah)}(hs:aP c (ar ts os0) a w D E)(ns:List Nat)(ho:br (fun n => !ns.contains n) (cW ns os0))
  (h:aC c.P f cargs r) (hc:bX true (ar ts (iL ns os0)) avs=some cargs) (hv:fE (aS w D E) avs vs) :
  Calls c.P f vs.toArray w fun e w'=>∃ v D' E',e=.returned v∧aP c (ar (fV ns ts) (cW ns os0)) a w' D' E'∧aS w' D' E' r v:=by
 obtain ⟨D1,E1,hs1,hw⟩:=hs.CZ ns ho;have hu:eb (ar ts (iL ns os0)) (ar ts os0):=fun n x hx=>by
  simp only[ar,nS] at hx ⊢;split at hx
  ·exact hx
  ·cases hx
 have hrv:=lq (E':=dL) hs hu hw avs cargs vs (lL _ _ hv (oX hc)) hc;refine (h.2 w _ vs hs1.c9 hrv).mono fun e w' ⟨v,D',he,h1,h2,h3,h4⟩=>⟨v,fun b o=>D1 b o∨(w.heap.size≤b∧D' b o),E1,he,?_,?_⟩
 ·refine hs1.grow h2 (fun _ _ hd=>.inl hd) ?_ ?_
  ·rintro b o (hd | ⟨hle,_⟩) hlt
   ·exact hd
   ·omega
  ·rintro b o (hd | ⟨_,hd⟩)
   ·exact Nat.lt_of_lt_of_le (hs1.c9 b o hd) h2.size
   ·exact h3 b o hd
 ·refine aS.bE (E:=dL) ⟨fun b o hd =>?_,fun _ _ _ _ h=>h,fun n b aJ hn=>by simp[dL] at hn,fun n aD l hn=>by simp[dL] at hn,fun n b hn=>by simp[dL] at hn,fun n b hn=>by simp[dL] at hn,fun _ _ _ _ h=>h⟩ h1;rcases Nat.lt_or_ge b w.heap.size with hlt | hge
  ·exact .inl (h4 b o hd hlt)
  ·exact .inr ⟨hge,hd⟩
theorem uu{a:Act}{w:World}{D D1:aL}{E:aT}{ts:List (Nat×I)}{os0 os:List (Nat×ah)}{ρ:List (Nat×Nat)}{aB:Bool}{A0:ae}(hs:aP c (ar ts os0) a w D E)(hu:eb A0 (ar ts os0))(hD:∀ b o,D b o→D1 b o)(hw:gV aB A0 D E D1) :
  ∀ (avs cargs:List I) (vs:List Value),jc aB A0 ρ os avs cargs→fE (aS w D E) avs vs→aE w D1 (av ρ os E) cargs vs
 | [],[],vs,_,hv=>by cases hv;simp[aE]
 | [],_::_,_,h,_=>by simp[jc] at h
 |_::_,[],_,h,_=>by simp[jc] at h
 |x::xs,y::ys,vs,h,hv=>by
  cases hv with
  |cons hv hvs =>
  rename_i v vs;simp only[jc] at h;have ih:=uu hs hu hD hw xs ys vs h.2 hvs;have hl:dG w D (av ρ os E) w D1 (av ρ os E):=⟨hD,fun _ _ _ _ h=>h,fun _ _ _ h=>h,fun _ aD l h=>⟨aD,l,h,zz6 _,fun _=>rfl⟩,fun _ _ h=>h,fun _ _ h=>h,fun _ _ _ _ h=>h⟩
  have h1:∃ cs,bG y v cs∧af w D1 (av ρ os E) y cs:=by
   rcases h.1 with ⟨k1,k2,k3⟩ | k
   ·rw[k1] at hv;have h2:=aS.bE hl ((aS.aO (w:=w) (D:=D) (p:=aq os) (ρ:=bD ρ) (E:=av ρ os E) (E':=E) (fun n hn=>by simp only[av,hn,if_true]) k2).1 hv);cases y <;>simp only[aS] at h2 <;>first | (simp[I.cd] at k3;done) | exact h2
   ·have h2:aE w D E [x] [v]:=lL [x] [v] (.cons hv .nil) (by
     intro z hz;simp only[List.mem_singleton] at hz;subst hz;cases z <;>simp_all[bg,I.cd])
    have h3:=lq (E':=av ρ os E) hs hu hw [x] [y] [v] h2 (by simp[bX,k]);simp only[aE] at h3;obtain ⟨v',rest,cs,e,k1,k2,_⟩:=h3;simp only[List.cons.injEq] at e;obtain ⟨rfl,_⟩:=e;exact ⟨cs,k1,k2⟩
  obtain ⟨cs,k1,k2⟩:=h1;simp only[aE];exact ⟨v,vs,cs,rfl,k1,k2,ih⟩
theorem eb.drop(ts:List (Nat×I))(ns:List Nat)(os0:List (Nat×ah)):eb (ar ts (cW ns os0)) (ar ts os0):=fun n x hx=>by
 simp only[ar,m9] at hx ⊢;split at hx
 ·cases hx
 ·exact hx
theorem pX.use{run:Array Value→World→(Ending→World→Prop)→Prop}{since:World→aL→aT→Prop}{avs cargs:List I}{post:cR}{vs:List Value}{a:Act}{w:World}{D:aL}{E:aT}{ts:List (Nat×I)}{os0 os:List (Nat×ah)}{ρ:List (Nat×Nat)}
  (hs:aP c (ar ts os0) a w D E) (h:pX run since cargs os post) (aB:Bool) (hmono:∀ {vs w R R'},run vs w R→(∀ e w,R e w→R' e w)→run vs w R') (hsince:(aB=true→∀ D E,since w D E)∧(aB=false→since w (oe (ar ts os0) D E) (av ρ os E)))
  (hg:fS ρ os os0) (ha:jc aB (ar ts (cW (jC ρ os) os0)) ρ os avs cargs) (hb:∀ r os',post r os'→er aB ρ os os0 r os') (hv:fE (aS w D E) avs vs) :
  run vs.toArray w fun e w'=>∃ v r os' D2 E2,e=.returned v∧post r os'∧aP c (ar ts (dJ ρ os'++os0)) a w' D2 E2∧aS w' D2 E2 (r.aO (bD ρ)) v∧∀ m e,av ρ os E m=some e→aq os' m=true→∃ e',E2 (bD ρ m)=some e'∧e.le e':=by
 have notName:∀ n,(jC ρ os).contains n=false→∀ m,aq os m=true→bD ρ m≠n:=fun n hn m hm he=>by
  obtain ⟨q,hq,rfl⟩:=wN.1 hm;have:(jC ρ os).contains n=true:=by simp only[jC,List.contains_iff_mem,zx5];exact ⟨q,hq,he⟩
  rw[this] at hn;cases hn
 have other:∀ {D:aL},aP c (ar ts os0) a w D E→∀ n e b x,aj (cW (jC ρ os) os0) n=some x→E n=some e→e.aD=some b→¬ dm (av ρ os E) b:=fun hs n e b x hx he hb ho=>by
  obtain ⟨m,e',h1,h2,hb',_⟩:=hs.su hg ho;rw[m9] at hx;split at hx
  ·cases hx
  ·rename_i hc;have:=hs.cM n (bD ρ m) e _ b he h2 hb hb';exact notName n (by simpa using hc) m h1 this.symm
 cases aB with
 |true =>
  obtain ⟨D1,hD1⟩:∃ D1:aL,D1=fun b o=>D b o∨(b<w.heap.size∧¬ dm (av ρ os E) b):=⟨_,rfl⟩
  have hD:∀ b o,D b o→D1 b o:=fun b o hd=>by rw[hD1];exact .inl hd
  have hw:gV true (ar ts (cW (jC ρ os) os0)) D E D1:=by
   refine ⟨hD,fun n T sz es b cap hn av o _ =>?_,fun _ n x b aJ hn av o _ =>?_,fun _ n ks vs b hn av =>?_⟩
   ·rw[hD1];exact .inr ⟨hs.fG av rfl,other hs n _ b _ hn av rfl⟩
   ·rw[hD1];exact .inr ⟨hs.fG av rfl,other hs n _ b _ hn av rfl⟩
   ·rw[hD1];exact .inr ⟨hs.fG av rfl,other hs n _ b _ hn av rfl⟩
  have hrv:=uu hs (eb.drop ts _ os0) hD hw avs cargs vs ha hv;refine hmono (h w D1 (av ρ os E) vs (hsince.1 rfl _ _) (fun b o hd=>by
   rw[hD1] at hd;rcases hd with hd | hd
   ·exact hs.c9 b o hd
   ·exact hd.1) (hs.Jl hg hD fun b o hd ho=>by
    rw[hD1] at hd;rcases hd with hd | hd
    ·exact hd
    ·exact absurd ho hd.2) hrv) ?_
  rintro e w' ⟨v,D',E',r,os',he,hp,h1,h2,h3,h4,h5,h6,h7,h8⟩;obtain ⟨D2,E2,k1,k2⟩:=hs.oM hg hD (fun h=>by cases h) (hb r os' hp) h1 h2 h3 h5 h4 h8 h6 h7;exact ⟨v,r,os',D2,E2,he,hp,k1,k2⟩
 |false =>
  obtain ⟨hs1,hw⟩:=hs.nv;have hw':gV false (ar ts (cW (jC ρ os) os0)) D E (oe (ar ts os0) D E):=⟨hw.cV,fun n T sz es b cap hn av o hlt=>hw.bT n T sz es b cap (eb.drop ts _ os0 n _ hn) av o hlt,(fun hb=>by cases hb),fun hb=>by cases hb⟩
  have hrv:=uu hs (eb.drop ts _ os0) hw.cV hw' avs cargs vs ha hv;refine hmono (h w _ (av ρ os E) vs (hsince.2 rfl) hs1.c9 (hs1.Jl hg (fun _ _ h=>h) fun b o hd _=>hd) hrv) ?_;rintro e w' ⟨v,D',E',r,os',he,hp,h1,h2,h3,h4,h5,h6,h7,h8⟩;obtain ⟨D2,E2,k1,k2⟩:=hs1.oM hg (fun _ _ h=>h) (fun _ _ _ h=>h) (hb r os' hp) h1 h2 h3 h5 h4 h8 h6 h7;exact ⟨v,r,os',D2,E2,he,hp,k1,k2⟩
theorem aP.since{A:ae}{a:Act}{w:World}{D:aL}{E E':aT}(h:aP c A a w D E)(av:∀ n,E' n=E n∨E' n=none):zi c w D E' :=
 ⟨h.dK,h.cG,h.cV,fun n e hn=>by
  rcases av n with k | k
  ·rw[k];exact h.dQ n e hn
  ·exact .inl k,h.fq⟩
theorem nJ(c:cI)(f:FuncId):c.bn.fn f:=by unfold cI.bn;split <;>trivial
theorem Cg(c:cI):c.bn.depth.isSome=true→1≤9:=fun _=>by omega
theorem lS{a:Act}{w:World} : ∀ f,o.about c.P w a.eval=some f→c.bn.fn f:=fun f _=>nJ c f
theorem mC{g:b7}(hg:df c.P o=some g)(r:Option Nat)(ρ:Operand→Value):o.semAt r ρ=execOp ρ o:=by
 cases r with
 |none=>rfl
 |some l =>
  refine Oper.semAt_some l ρ o fun cl h =>?_;unfold df at hg;rw[h] at hg;simp at hg
theorem SA{f:FuncId}{args:Array Value}{w:World}{R:Ending→World→Prop}(h:Calls c.P f args w R):CallsIn c.bn (9-1) c.P f args w R:=by
 have h1:CallsIn Fence.wide (9-1) c.P f args w R:=callsIn_wide.2 h;unfold cI.bn;split
 ·exact h1
 ·exact h1
theorem rE.mono{P:Program}{v:Value}{vs:Array Value}{w:World}{R R':Ending→World→Prop}(h:rE P v vs w R)(hr:∀ e w,R e w→R' e w):rE P v vs w R':=by
 obtain ⟨l,h1,fn,tmps,assign,body,h2,h3⟩:=h;exact ⟨l,h1,fn,tmps,assign,body,h2,h3.mono hr⟩
theorem ah6{l:Nat}{f:FuncId}{tmps:Array Value}{assign body:Code}{w:World}{R:Ending→World→Prop}(h:RoundIn Fence.wide 9 c.P l f tmps assign body w R):RoundIn c.bn (9-1) c.P l f tmps assign body w R:=by
 have h1:RoundIn Fence.wide (9-1) c.P l f tmps assign body w R:=⟨h.1,fun cc cs _=>h.2 cc cs (room_wide _)⟩
 unfold cI.bn;split
 ·exact h1
 ·exact h1
theorem gT.wp{B:ae}{g:b7}(hg:df c.P o=some g)(h:gT c A o B){a:Act}{w:World}{K:Act→World→Prop}{Q:Exit→Act→World→Prop}(hs:cn c A a w)(hK:∀ a w,cn c B a w→K a w):o.wpIn c.bn 9 c.P a w K Q:=by
 obtain ⟨D,E,hs⟩:=hs;obtain ⟨w',h⟩:=h a w D E hs;refine ⟨lS,?_⟩;rw[mC hg];rcases h with ⟨v,h1,h2⟩ | ⟨h1,h2⟩
 ·rw[h1];exact hK _ _ h2
 ·rw[h1];exact hK _ _ h2
theorem BP{dr:Bool}{K:ae→Prop}{f:FuncId}{avs:List I}{a1 a2:Option (List I)}{vs:List Value}{dst:Option Nat}{rest:List az}{a:Act}{w:World}{Kw:Act→World→Prop}{Q:Exit→Act→World→Prop}{g:b7}(hg:df c.P o=some g)(h1:bX true A avs=a1)(h2:bX false A avs=a2)
  (hs:∀ D E,aP c A a w D E→fE (aS w D E) avs vs) (hsim:cn c A a w) (hwp:bh c.P c.Y dr K (.call f avs a1 a2 dst rest A)) (hd:o.dst=dst) (hdn:∀ k,dst=some k→k<c.n)
  (hrun:gC c.P f=true→(execOp a.eval o).run c.P w=.ok (.enter f vs.toArray) w)
  (hK:∀ B a' w',bh c.P c.Y dr K (aA rest B)→cn c B a' w'→Kw a' w'):o.wpIn c.bn 9 c.P a w Kw Q:=by
 obtain ⟨D,E,hsw⟩:=hsim;have ov:∀ {R:Ending→World→Prop},gC c.P f=true→Calls c.P f vs.toArray w R→(∀ e w',R e w'→∃ v,e=.returned v∧Kw (a.put o.dst v) w')→o.wpIn c.bn 9 c.P a w Kw Q:=fun {R} hc hcl hR=>by
  refine ⟨lS,?_⟩;rw[mC hg,hrun hc,Oper.uponIn_enter];refine ⟨Cg c,SA (hcl.mono fun e w' he =>?_)⟩;obtain ⟨v,rfl,hv⟩:=hR e w' he;exact hv
 cases hwp with
 |flat r hspec hflat hrest =>
  refine ov hspec.1 (hspec.ai0 hsw hflat h1 (hs D E hsw)) ?_;rintro e w' ⟨v,D',he,hs',hv⟩;refine ⟨v,he,?_⟩;rw[hd];exact hK _ _ _ hrest ⟨D',E,hs'.aK hdn hv⟩
 |lead r hspec hrest =>
  refine ov hspec.1 (hspec.ai2 hsw h2 (hs D E hsw)) ?_;rintro e w' ⟨v,D',he,hs',hv⟩;refine ⟨v,he,?_⟩;rw[hd];exact hK _ _ _ hrest ⟨D',E,hs'.aK hdn hv⟩
 |hZ ns r hdr hspec hf ho hrest =>
  refine ov hspec.1 (hspec.ai1 hsw ns ho hf (hs D E hsw)) ?_;rintro e w' ⟨v,D',E',he,hs',hv⟩;refine ⟨v,he,?_⟩;rw[hd];exact hK _ _ _ hrest ⟨D',E',hs'.aK hdn hv⟩
 |bU aB ρ os cargs post hdr hspec hgv ha hb hrest =>
  refine ov hspec.1 (hspec.2.use hsw aB (fun h=>h.mono) ⟨fun _ _ _=>trivial,fun _=>trivial⟩ hgv ha hb (hs D E hsw)) ?_;rintro e w' ⟨v,r,os',D2,E2,he,hp,hs',hv,_⟩;refine ⟨v,he,?_⟩;rw[hd];exact hK _ _ _ (hrest r os' hp) ⟨D2,E2,hs'.aK hdn hv⟩
theorem Sz{dr:Bool}{K:ae→Prop}{v:Value}{avs:List I}{vs:List Value}{dst:Option Nat}{rest:List az}{a:Act}{w:World}{Kw:Act→World→Prop}{Q:Exit→Act→World→Prop}{g:b7}(hg:df c.P o=some g)
  (hs:∀ D E,aP c A a w D E→fE (aS w D E) avs vs) (hsim:cn c A a w) (hwp:bh c.P c.Y dr K (.oQ v avs dst rest A)) (hd:o.dst=dst) (hdn:∀ k,dst=some k→k<c.n)
  (hrun:∀ l,v=.func (.yield l) #[] #[]→(execOp a.eval o).run c.P w=(Instr.yield l vs.toArray).run c.P w)
  (hK:∀ B a' w',bh c.P c.Y dr K (aA rest B)→cn c B a' w'→Kw a' w'):o.wpIn c.bn 9 c.P a w Kw Q:=by
 obtain ⟨D,E,hsw⟩:=hsim;cases hwp with
 |yI os cargs post hdr hY hgv ha hb hrest =>
  have hyr:=(hsw.eS _ _ _ _ hY).use (ρ:=[]) hsw false (fun h=>h.mono) ⟨(fun h=>by cases h),fun _=>hsw.nv.1.since (fun n=>by simp only[av,bD];split <;>simp)⟩ hgv ha hb (hs D E hsw);obtain ⟨l,rfl,fn,tmps,assign,body,h2,h3⟩:=hyr;refine ⟨lS,?_⟩;rw[mC hg,hrun l rfl,h2,Oper.uponIn_round];refine ⟨Cg c,ah6 (h3.mono fun e w' he =>?_)⟩;obtain ⟨v,r,os',D2,E2,rfl,hp,hs',hv,_⟩:=he;rw[hd];exact hK _ _ _ (hrest r os' hp) ⟨D2,E2,hs'.aK hdn hv⟩
end
section
variable {c:cI} {A:ae} {o:Oper}
theorem oP{P:Program}{n:Nat}{bK:Array Oper}{g:az}(h:nE P n bK o=some g):df P o=some g.op∧g.dst=o.dst∧(∀ k,o.dst=some k→k<n) ∧
  ((o.guard=none∧g.guard=none)∨∃ j b t,o.guard=some (j,b)∧(bK[j]?).bind (·.dst)=some t∧g.guard=some (t,b)):=by
 unfold nE at h;split at h
 ·cases h
 rename_i g' hg';split at h
 case isFalse=>cases h
 rename_i hd;have hdst:∀ k,o.dst=some k→k<n:=by
  intro k hk;rw[hk] at hd;simpa[Cj] using hd
 split at h
 ·rename_i hgd;simp only[u8] at h;subst h;exact ⟨hg',rfl,hdst,.inl ⟨hgd,rfl⟩⟩
 ·rename_i j b hgd;split at h
  ·rename_i t ht;simp only[u8] at h;subst h;exact ⟨hg',rfl,hdst,.inr ⟨j,b,t,hgd,ht,rfl⟩⟩
  ·cases h
theorem I9{dr:Bool}{K:ae→Prop}{op:b7}{dst:Option Nat}{rest:List az}{a:Act}{w:World}{Kw:Act→World→Prop}{Q:Exit→Act→World→Prop}(hop:df c.P o=some op)(hd:o.dst=dst)(hdn:∀ k,dst=some k→k<c.n)
  (hsim:cn c A a w) (hK:∀ B a' w',bh c.P c.Y dr K (aA rest B)→cn c B a' w'→Kw a' w') (h:bh c.P c.Y dr K (cK (a8 A op) fun v=>aA rest (A.aK dst v))):o.wpIn c.bn 9 c.P a w Kw Q:=by
 cases hv:a8 A op with
 |some v =>
  rw[hv] at h;exact ((xV hop hv).does (by rw[hd];exact hdn)).wp hop hsim (fun a' w' hs=>by rw[hd] at hs;exact hK _ a' w' h hs)
 |none=>rw[hv] at h;cases h
theorem adY{dr:Bool}{K:ae→Prop}{dst:Option Nat}{rest:List az}{a:Act}{w:World}{Kw:Act→World→Prop}{Q:Exit→Act→World→Prop}{z:I}(hop:df c.P o=some (.alloc z))(hd:o.dst=dst)(hdn:∀ k,dst=some k→k<c.n)
  (hwp:bh c.P c.Y dr K (a7 A dst (.alloc z) rest (aA rest))) (hsim:cn c A a w) (hK:∀ B a' w',bh c.P c.Y dr K (aA rest B)→cn c B a' w'→Kw a' w'):o.wpIn c.bn 9 c.P a w Kw Q:=by
 have hop0:=hop;simp only[a7] at hwp;split at hwp
 case h_2=>cases hwp
 rename_i d;split at hwp
 case h_2=>cases hwp
 rename_i hf;unfold df at hop;split at hop <;>try (first | (simp at hop;done) | ((repeat' split at hop) <;>simp at hop;done))
 rename_i t ho;simp only[zz0,b7.alloc.injEq] at hop;obtain ⟨z',hz,rfl⟩:=hop;exact (Xm ho hz hd (hdn d rfl) hf).wp hop0 hsim (fun a' w' hs=>hK _ a' w' hwp hs)
theorem ad3{dr:Bool}{K:ae→Prop}{dst:Option Nat}{rest:List az}{a:Act}{w:World}{Kw:Act→World→Prop}{Q:Exit→Act→World→Prop}{x:aH}(hop:df c.P o=some (.box x))(hd:o.dst=dst)(hdn:∀ k,dst=some k→k<c.n)
  (hwp:bh c.P c.Y dr K (a7 A dst (.box x) rest (aA rest))) (hsim:cn c A a w) (hK:∀ B a' w',bh c.P c.Y dr K (aA rest B)→cn c B a' w'→Kw a' w'):o.wpIn c.bn 9 c.P a w Kw Q:=by
 have hop0:=hop;simp only[a7] at hwp;split at hwp
 case h_2=>cases hwp
 rename_i d;split at hwp
 case h_2=>cases hwp
 rename_i hf;split at hwp
 case isFalse=>cases hwp
 rename_i hv;unfold df at hop;split at hop <;>try (first | (simp at hop;done) | ((repeat' split at hop) <;>simp at hop;done))
 rename_i t y ho;simp only[zz0,b7.box.injEq] at hop;obtain ⟨z',hz,rfl⟩:=hop;exact (Xr ho hz hv hd (hdn d rfl) hf).wp hop0 hsim (fun a' w' hs=>hK _ a' w' hwp hs)
theorem aee{dr:Bool}{K:ae→Prop}{dst:Option Nat}{rest:List az}{a:Act}{w:World}{Kw:Act→World→Prop}{Q:Exit→Act→World→Prop}{s:Option Nat}{x v:aH}(hop:df c.P o=some (.bB s x v))(hd:o.dst=dst)(hdn:∀ k,dst=some k→k<c.n)
  (hwp:bh c.P c.Y dr K (a7 A dst (.bB s x v) rest (aA rest))) (hsim:cn c A a w) (hK:∀ B a' w',bh c.P c.Y dr K (aA rest B)→cn c B a' w'→Kw a' w'):o.wpIn c.bn 9 c.P a w Kw Q:=by
 have hop0:=hop;simp only[a7] at hwp;split at hwp
 case h_2=>cases hwp
 split at hwp
 case h_2=>cases hwp
 rename_i n p hp;split at hwp
 case h_2=>cases hwp
 rename_i b hb;split at hwp
 case h_2=>cases hwp
 rename_i old hat;split at hwp
 case isFalse=>cases hwp
 rename_i hok;unfold df at hop;split at hop <;>try (first | (simp at hop;done) | ((repeat' split at hop) <;>simp at hop;done))
 rename_i t y z ho;split at hop
 case h_2=>cases hop
 rename_i s' x' v' h1 h2 h3;split at hop
 case isFalse=>cases hop
 rename_i hk;simp only[u8,b7.bB.injEq] at hop;obtain ⟨rfl,rfl,rfl⟩:=hop;exact (Xy ho h1 hk h2 h3 hp hb hat hok.1 hok.2.1 hok.2.2 hd).wp hop0 hsim (fun a' w' hs=>hK _ a' w' hwp hs)
theorem ad4{dr:Bool}{K:ae→Prop}{dst:Option Nat}{rest:List az}{a:Act}{w:World}{Kw:Act→World→Prop}{Q:Exit→Act→World→Prop}{f:FuncId}{args:List aH}(hop:df c.P o=some (.call f args))(hd:o.dst=dst)(hdn:∀ k,dst=some k→k<c.n)
  (hwp:bh c.P c.Y dr K (a7 A dst (.call f args) rest (aA rest))) (hsim:cn c A a w) (hK:∀ B a' w',bh c.P c.Y dr K (aA rest B)→cn c B a' w'→Kw a' w'):o.wpIn c.bn 9 c.P a w Kw Q:=by
 have hop0:=hop;simp only[a7] at hwp;unfold df at hop;split at hop <;>try (first | (simp at hop;done) | ((repeat' split at hop) <;>simp at hop;done))
 rename_i f' xs ts ho;split at hop
 case isFalse=>simp at hop
 simp only[zz0,b7.call.injEq] at hop;obtain ⟨ys,hys,rfl,rfl⟩:=hop;refine BP (vs:=xs.toList.map a.eval) hop0 rfl rfl (fun D E hs=>oJ hs xs.toList ts.toList ys hys) hsim hwp hd hdn (fun hc =>?_) hK;have e:xs.map a.eval=(xs.toList.map a.eval).toArray:=by apply Array.ext';simp
 simp only[execOp,ho,resolve,Act.eval,Deferred.ofValue,Sem.run_bind,Sem.run_pure,Result.andThen_ok,invoke,Array.append_empty,Array.empty_append,ya hc];rw[←e]
theorem aef{dr:Bool}{K:ae→Prop}{dst:Option Nat}{rest:List az}{a:Act}{w:World}{Kw:Act→World→Prop}{Q:Exit→Act→World→Prop}{f:FuncId}{args:List aH}(hop:df c.P o=some (.kd f args))(hd:o.dst=dst)(hdn:∀ k,dst=some k→k<c.n)
  (hwp:bh c.P c.Y dr K (a7 A dst (.kd f args) rest (aA rest))) (hsim:cn c A a w) (hK:∀ B a' w',bh c.P c.Y dr K (aA rest B)→cn c B a' w'→Kw a' w'):o.wpIn c.bn 9 c.P a w Kw Q:=by
 have hop0:=hop;simp only[a7] at hwp;unfold df at hop;split at hop <;>try (first | (simp at hop;done) | ((repeat' split at hop) <;>simp at hop;done))
 rename_i f' xs ts ho;split at hop
 case isTrue=>simp at hop
 simp only[zz0,b7.kd.injEq] at hop;obtain ⟨ys,hys,rfl,rfl⟩:=hop;obtain ⟨D,E,hs⟩:=hsim;cases hwp with
 |ext r hdr hx hw =>
  obtain ⟨v,g1,g2⟩:=hx c a w D E (xs.toList.map a.eval) rfl hs (oJ hs xs.toList ts.toList ys hys);have e:xs.map a.eval=(xs.toList.map a.eval).toArray:=by apply Array.ext';simp
  have hrun:(execOp a.eval o).run c.P w=.ok (.value v) w:=by
   simp only[execOp,ho,resolve,Act.eval,Deferred.ofValue,Sem.run_bind,Sem.run_pure,Result.andThen_ok,invoke,Array.append_empty,Array.empty_append];rw[←e] at g1;exact g1
  refine ⟨lS,?_⟩;rw[mC hop0,hrun,Oper.uponIn_value];exact hK _ _ _ hw ⟨D,E,by rw[hd];exact hs.aK hdn g2⟩
theorem ad8{dr:Bool}{K:ae→Prop}{dst:Option Nat}{rest:List az}{a:Act}{w:World}{Kw:Act→World→Prop}{Q:Exit→Act→World→Prop} (hop:df c.P o=some (.jB))(hd:o.dst=dst)(hdn:∀ k,dst=some k→k<c.n)
  (hwp:bh c.P c.Y dr K (a7 A dst (.jB) rest (aA rest))) (hsim:cn c A a w) (hK:∀ B a' w',bh c.P c.Y dr K (aA rest B)→cn c B a' w'→Kw a' w'):o.wpIn c.bn 9 c.P a w Kw Q:=by
 have hop0:=hop;simp only[a7] at hwp;split at hwp
 case h_2=>cases hwp
 rename_i d;split at hwp
 case h_2=>cases hwp
 rename_i hf;unfold df at hop;split at hop <;>try (first | (simp at hop;done) | ((repeat' split at hop) <;>simp at hop;done))
 rename_i t ho;exact (Xv ho hd (hdn d rfl) hf).wp hop0 hsim (fun a' w' hs=>hK _ a' w' hwp hs)
theorem ad9{dr:Bool}{K:ae→Prop}{dst:Option Nat}{rest:List az}{a:Act}{w:World}{Kw:Act→World→Prop}{Q:Exit→Act→World→Prop}{e:TypeId}{bytes:Nat}{z:I}{n:aH}(hop:df c.P o=some (.j0 e bytes z n))(hd:o.dst=dst)(hdn:∀ k,dst=some k→k<c.n)
  (hwp:bh c.P c.Y dr K (a7 A dst (.j0 e bytes z n) rest (aA rest))) (hsim:cn c A a w) (hK:∀ B a' w',bh c.P c.Y dr K (aA rest B)→cn c B a' w'→Kw a' w'):o.wpIn c.bn 9 c.P a w Kw Q:=by
 have hop0:=hop;simp only[a7] at hwp;split at hwp
 case h_2=>cases hwp
 rename_i d;split at hwp
 case h_2=>cases hwp
 rename_i hf;split at hwp
 case h_2=>cases hwp
 rename_i k m hn;split at hwp
 case isFalse=>cases hwp
 rename_i hc;unfold df at hop;split at hop <;>try (first | (simp at hop;done) | ((repeat' split at hop) <;>simp at hop;done))
 rename_i t l l' ho;split at hop
 case h_2=>cases hop
 rename_i e' n' hu hl;split at hop
 case h_2=>cases hop
 rename_i z' hz;split at hop
 case isFalse=>cases hop
 rename_i hc2;simp only[u8,b7.j0.injEq] at hop;obtain ⟨rfl,rfl,rfl,rfl⟩:=hop;obtain ⟨j,rfl⟩:=Int.eq_ofNat_of_zero_le hc.1;simp only[Int.toNat_natCast] at hc hwp;exact (Xw ho (aib hc2.1) hu hl hn hz hc2.2.1 hc2.2.2 hc.2.1 hc.2.2 hd (hdn d rfl) hf).wp hop0 hsim (fun a' w' hs=>hK _ a' w' hwp hs)
theorem aea{dr:Bool}{K:ae→Prop}{dst:Option Nat}{rest:List az}{a:Act}{w:World}{Kw:Act→World→Prop}{Q:Exit→Act→World→Prop}{ty:cH}{m k v:aH}(hop:df c.P o=some (.gn ty m k v))(hd:o.dst=dst)(hdn:∀ k,dst=some k→k<c.n)
  (hwp:bh c.P c.Y dr K (a7 A dst (.gn ty m k v) rest (aA rest))) (hsim:cn c A a w) (hK:∀ B a' w',bh c.P c.Y dr K (aA rest B)→cn c B a' w'→Kw a' w'):o.wpIn c.bn 9 c.P a w Kw Q:=by
 have hop0:=hop;simp only[a7] at hwp;split at hwp
 case h_2=>cases hwp
 split at hwp
 case h_2=>cases hwp
 rename_i n hm;split at hwp
 case h_2=>cases hwp
 rename_i ks vs hn;split at hwp
 case h_2=>cases hwp
 rename_i ks' vs' hl;unfold df at hop;split at hop <;>try (first | (simp at hop;done) | ((repeat' split at hop) <;>simp at hop;done))
 all_goals
  rename_i t mo ko vo ho;split at hop
  case h_2=>cases hop
  rename_i kt et m' k' hu h1 h2;split at hop
  case h_2=>cases hop
  rename_i ty' v' hk h3;simp only[u8,b7.gn.injEq] at hop;obtain ⟨rfl,rfl,rfl,rfl⟩:=hop
 ·exact (Ci (.inl ho) hu hk h1 h2 h3 hm hn hl hd).wp hop0 hsim (fun a' w' hs=>hK _ a' w' hwp hs)
 ·exact (Ci (.inr ho) hu hk h1 h2 h3 hm hn hl hd).wp hop0 hsim (fun a' w' hs=>hK _ a' w' hwp hs)
theorem aed{dr:Bool}{K:ae→Prop}{dst:Option Nat}{rest:List az}{a:Act}{w:World}{Kw:Act→World→Prop}{Q:Exit→Act→World→Prop}{x:aH}(hop:df c.P o=some (.ka x))(hd:o.dst=dst)(hdn:∀ k,dst=some k→k<c.n)
  (hwp:bh c.P c.Y dr K (a7 A dst (.ka x) rest (aA rest))) (hsim:cn c A a w) (hK:∀ B a' w',bh c.P c.Y dr K (aA rest B)→cn c B a' w'→Kw a' w'):o.wpIn c.bn 9 c.P a w Kw Q:=by
 have hop0:=hop;simp only[a7] at hwp;split at hwp
 case h_2=>cases hwp
 rename_i d;split at hwp
 case h_2=>cases hwp
 rename_i hf;split at hwp
 case h_2=>cases hwp
 rename_i ks vs hx;unfold df at hop;split at hop <;>try (first | (simp at hop;done) | ((repeat' split at hop) <;>simp at hop;done))
 rename_i t y ho;split at hop
 case h_2=>cases hop
 rename_i kt et hu;simp only[zz0,b7.ka.injEq] at hop;obtain ⟨z,hz,rfl⟩:=hop;exact (Xx ho hu hz hx hd (hdn d rfl) hf).wp hop0 hsim (fun a' w' hs=>hK _ a' w' hwp hs)
theorem aec{dr:Bool}{K:ae→Prop}{dst:Option Nat}{rest:List az}{a:Act}{w:World}{Kw:Act→World→Prop}{Q:Exit→Act→World→Prop}{x:aH}(hop:df c.P o=some (.jk x))(hd:o.dst=dst)(hdn:∀ k,dst=some k→k<c.n)
  (hwp:bh c.P c.Y dr K (a7 A dst (.jk x) rest (aA rest))) (hsim:cn c A a w) (hK:∀ B a' w',bh c.P c.Y dr K (aA rest B)→cn c B a' w'→Kw a' w'):o.wpIn c.bn 9 c.P a w Kw Q:=by
 have hop0:=hop;simp only[a7] at hwp;split at hwp
 case h_2=>cases hwp
 rename_i n hx;split at hwp
 case h_2=>cases hwp
 rename_i ks vs left cur hn;unfold df at hop;split at hop <;>try (first | (simp at hop;done) | ((repeat' split at hop) <;>simp at hop;done))
 rename_i y ho;simp only[zz0,b7.jk.injEq] at hop;obtain ⟨z,hz,rfl⟩:=hop;obtain ⟨D,E,hs⟩:=hsim;obtain ⟨w',v,hrun,hor⟩:=af6 ho hz hx hn (by rw[hd];exact hdn) hs;refine ⟨lS,?_⟩;rw[mC hop0,hrun,Oper.uponIn_value];rw[hd] at hor;split at hwp
 ·rename_i hl;rcases hor with ⟨_,hor⟩ | ⟨i,k,x,hi,_⟩
  ·exact hK _ _ _ hwp (by rw[hd];exact hor)
  ·rw[hl] at hi;cases hi
 ·rename_i hl;rcases hor with ⟨h,_⟩ | ⟨i,k,x,hi,hk,hx,hor⟩
  ·exact absurd h hl
  ·cases hwp with
   |any hdr hall =>
    have:=hall i hi;simp only[hk,hx] at this;exact hK _ _ _ this (by rw[hd];exact hor)
theorem ad5{dr:Bool}{K:ae→Prop}{dst:Option Nat}{rest:List az}{a:Act}{w:World}{Kw:Act→World→Prop}{Q:Exit→Act→World→Prop}{x:aH}{args:List aH}(hop:df c.P o=some (.eh x args))(hd:o.dst=dst)(hdn:∀ k,dst=some k→k<c.n)
  (hwp:bh c.P c.Y dr K (a7 A dst (.eh x args) rest (aA rest))) (hsim:cn c A a w) (hK:∀ B a' w',bh c.P c.Y dr K (aA rest B)→cn c B a' w'→Kw a' w'):o.wpIn c.bn 9 c.P a w Kw Q:=by
 have hop0:=hop;simp only[a7] at hwp;unfold df at hop;split at hop <;>try (first | (simp at hop;done) | ((repeat' split at hop) <;>simp at hop;done))
 rename_i y xs ts _ ho;split at hop
 case h_2=>cases hop
 rename_i y' ys h1 h2;simp only[u8,b7.eh.injEq] at hop;obtain ⟨rfl,rfl⟩:=hop;obtain ⟨D,E,hs⟩:=hsim;have hv:=ca hs h1;split at hwp
 ·rename_i f caps hx;rw[hx] at hv;obtain ⟨cs,q1,q2⟩:=hv;simp only[af] at q2;obtain ⟨vs,q3,q4⟩:=q2;have hval:a.eval y=.func (.func f) #[] vs.toArray:=by simpa[bG,I.isAgg,q3] using q1.symm
  refine BP (vs:=xs.toList.map a.eval++vs) hop0 rfl rfl (fun D' E' hs'=>(oJ hs' xs.toList ts.toList ys h2).append ?_) ⟨D,E,hs⟩ hwp hd hdn (fun hc =>?_) hK
  ·have hv':=ca hs' h1;rw[hx] at hv';obtain ⟨cs',q1',q2'⟩:=hv';simp only[af] at q2';obtain ⟨vs',q3',q4'⟩:=q2';have hval':a.eval y=.func (.func f) #[] vs'.toArray:=by simpa[bG,I.isAgg,q3'] using q1'.symm
   rw[hval] at hval';simp only[Value.func.injEq,true_and,Array.mk.injEq] at hval';subst hval';exact ye q4'
  ·have e:xs.map a.eval=(xs.toList.map a.eval).toArray:=by apply Array.ext';simp
   simp only[execOp,ho,resolve,hval,Deferred.ofValue,Sem.run_bind,Sem.run_pure,Result.andThen_ok,invoke,Array.empty_append,ya hc];rw[e];simp
 ·rename_i ao hx;rw[hx] at hv;obtain ⟨cs,q1,q2⟩:=hv;simp only[af] at q2;have hval:a.eval y=ao:=by simpa[bG,I.isAgg,q2.1] using q1.symm
  refine Sz (vs:=xs.toList.map a.eval) hop0 (fun D' E' hs'=>oJ hs' xs.toList ts.toList ys h2) ⟨D,E,hs⟩ hwp hd hdn (fun l hl =>?_) hK;subst hl;have e:xs.map a.eval=(xs.toList.map a.eval).toArray:=by apply Array.ext';simp
  simp only[execOp,ho,resolve,hval,Deferred.ofValue,Sem.run_bind,Sem.run_pure,Result.andThen_ok,invoke,Array.empty_append];rw[e]
 ·cases hwp
theorem aeb{dr:Bool}{K:ae→Prop}{dst:Option Nat}{rest:List az}{a:Act}{w:World}{Kw:Act→World→Prop}{Q:Exit→Act→World→Prop}{neg:Bool}{x:aH}(hop:df c.P o=some (.nilS neg x))(hd:o.dst=dst)(hdn:∀ k,dst=some k→k<c.n)
  (hwp:bh c.P c.Y dr K (a7 A dst (.nilS neg x) rest (aA rest))) (hsim:cn c A a w) (hK:∀ B a' w',bh c.P c.Y dr K (aA rest B)→cn c B a' w'→Kw a' w'):o.wpIn c.bn 9 c.P a w Kw Q:=by
 have hop0:=hop;simp only[a7] at hwp;split at hwp
 case isFalse=>exact I9 hop hd hdn hsim hK hwp
 rename_i hu;cases hwp with
 |any hdr hall =>
 unfold df at hop;split at hop <;>try (first | (simp at hop;done) | ((repeat' split at hop) <;>simp at hop;done))
 rename_i bop t y z yt ho;split at hop
 ·simp at hop
 ·simp at hop
 ·rename_i e y' z' hut h1 h2;split at hop
  ·rename_i s;split at hop
   ·rename_i hopp;simp only[u8,b7.nilS.injEq] at hop;obtain ⟨rfl,rfl⟩:=hop;have ho':o.op=.binOp (if (bop==.neq)=true then .neq else .eql) t y z yt:=by
     rcases hopp with rfl | rfl <;>simpa using ho
    obtain ⟨D,E,hs⟩:=hsim;have hund:∃ sz,ab A y'=.slice sz []∨ab A y'=.c0 sz:=by
     generalize ab A y'=q at hu;cases q <;>simp only[jM,zz7,List.isEmpty_iff] at hu
     ·rename_i sz;exact ⟨sz,.inr rfl⟩
     ·rename_i sz es;subst hu;exact ⟨sz,.inl rfl⟩
    obtain ⟨b,hrun⟩:=af7 ho' hut h1 h2 hund hs;refine ⟨lS,?_⟩;rw[mC hop0,hrun,Oper.uponIn_value];have hb:=hall (if b then 0 else 1) (by cases b <;>simp);refine hK _ _ _ hb ⟨D,E,?_⟩;rw[hd];have e:((if b=true then (0:Nat) else 1)==0)=b:=by cases b <;>rfl
    rw[e];exact hs.aK hdn (nW b)
   ·cases hop
  ·cases hop
 ·split at hop <;>simp at hop
 ·split at hop <;>simp at hop
 ·cases hop
theorem adZ{dr:Bool}{K:ae→Prop}{dst:Option Nat}{rest:List az}{a:Act}{w:World}{Kw:Act→World→Prop}{Q:Exit→Act→World→Prop}{e:TypeId}{esz bytes:Nat}{z:I}{s x:aH}(hop:df c.P o=some (.dH e esz bytes z s x))(hd:o.dst=dst)(hdn:∀ k,dst=some k→k<c.n)
  (hwp:bh c.P c.Y dr K (a7 A dst (.dH e esz bytes z s x) rest (aA rest))) (hsim:cn c A a w) (hK:∀ B a' w',bh c.P c.Y dr K (aA rest B)→cn c B a' w'→Kw a' w'):o.wpIn c.bn 9 c.P a w Kw Q:=by
 have hop0:=hop;simp only[a7] at hwp;unfold df at hop;split at hop <;>try (first | (simp at hop;done) | ((repeat' split at hop) <;>simp at hop;done))
 rename_i args tys ho;split at hop
 case h_2=>cases hop
 rename_i y q t t' ha ht;split at hop
 case h_2=>cases hop
 rename_i e' s' x' k1 k2 k3;split at hop
 case isFalse=>split at hop <;>simp at hop
 rename_i hk;simp only[zz0,b7.dH.injEq] at hop;obtain ⟨zz,hz1,rfl,rfl,rfl,rfl,rfl,rfl⟩:=hop;obtain ⟨rfl,hk2,hk3⟩:=hk;have ha':args = #[y,q]:=by apply Array.ext';simpa using ha
 have ht':tys = #[t,t]:=by apply Array.ext';simpa using ht
 subst ha' ht';rw[hz1] at hk3;simp only[zy3,u8] at hk3;have hinfo:(c.P.info? e').isSome=true:=by
  obtain ⟨ti,_,hti,_⟩:=lO hz1;rw[hti];rfl
 have grow:∀ es ys,ep A (c.P.cellsOf e') (ab A s')=some es→ep A (c.P.cellsOf e') (ab A x')=some ys→ys≠[]→(∀ a w D E,aP c A a w D E→∀ ad l cp,a.eval y=.slice ad l cp→cp<l+ys.length) →
   bh c.P c.Y dr K (gz A dst (c.P.cellsOf e') (c.P.bytesOf e') zz es ys (aA rest))→o.wpIn c.bn 9 c.P a w Kw Q:=fun es ys hse hsx hne hfull h=>by
  simp only[gz] at h;split at h
  case h_2=>cases h
  rename_i d;split at h
  case h_2=>cases h
  rename_i hf;split at h
  case isFalse=>cases h
  rename_i hb;cases h with
  |any hdr hall =>
   obtain ⟨D,E,hs⟩:=hsim;obtain ⟨v,w',m,g1,g2,g3⟩:=PW ho k1 k2 k3 hz1 hk3 hse hsx hb.1 hd (hdn d rfl) hf hne hs (hfull a w D E hs) hb.2;refine ⟨lS,?_⟩;rw[mC hop0,g1,Oper.uponIn_value,hd];rw[hd] at g3;exact hK _ _ _ (hall m g2) g3
 split at hwp
 ·rename_i n l hs';split at hwp
  case h_2=>cases hwp
  rename_i sz ys hx';split at hwp
  case h_3=>cases hwp
  case h_2 =>
   rename_i T xs hn;split at hwp
   case isFalse=>cases hwp
   rename_i hok;obtain ⟨h1,h2,h3,h4,h5,h6,h7,h8⟩:=hok;subst h3 h4;have hl5:ys.length=(qq ys).length:=(congrArg List.length h5).trans (by simp);rw[hl5] at h7 h8 hwp;rw[h5] at hx';have hd':=Xo (o:=o) ho k1 k2 k3 hz1 h2 hs' hn h1 hx' (fun e=>h6 (by rw[h5,e];rfl)) h7 h8 (by rw[hd];exact hdn);exact hd'.wp hop0 hsim (fun a' w' hs=>by rw[hd] at hs;exact hK _ a' w' hwp hs)
  rename_i T sz' es hn;split at hwp
  case isFalse=>cases hwp
  rename_i hok;obtain ⟨h1,h2,h3,h4,h5,h6,h7⟩:=hok;subst h2 h3 h4;have hd':=Xn (o:=o) ho k1 k2 k3 hz1 hk3 hk2 hs' hn h1 hx' rfl h5 h6 h7 (by rw[hd];exact hdn);exact hd'.wp hop0 hsim (fun a' w' hs=>by rw[hd] at hs;exact hK _ a' w' hwp hs)
 ·simp only[fo] at hwp;split at hwp
  case h_2=>cases hwp
  rename_i es ys hse hsx;split at hwp
  ·rename_i hne;subst hne;exact ((Xq ho k1 hinfo k2 k3 hse hsx).does (by rw[hd];exact hdn)).wp hop0 hsim (fun a' w' hs=>by rw[hd] at hs;exact hK _ a' w' hwp hs)
  ·rename_i hne;have hpos:0<ys.length:=List.length_pos_iff.2 hne;split at hwp
   ·rename_i z0 hsv;refine grow es ys hse hsx hne (fun a w D E hs ad l cp hv =>?_) hwp;have h0:=ca hs k2;rw[hsv] at h0;obtain ⟨cs,q1,q2⟩:=h0;simp only[af] at q2;have:a.eval y=.slice none 0 0:=by simpa[bG,I.isAgg,q2] using q1.symm
    rw[this] at hv;simp only[Value.slice.injEq] at hv;omega
   ·rename_i z0 hsv;refine grow es ys hse hsx hne (fun a w D E hs ad l cp hv =>?_) hwp;have h0:=ca hs k2;rw[hsv] at h0;obtain ⟨cs,q1,q2⟩:=h0;simp only[af] at q2;obtain ⟨ad',q2⟩:=q2;have:a.eval y=.slice ad' 0 0:=by simpa[bG,I.isAgg,q2] using q1.symm
    rw[this] at hv;simp only[Value.slice.injEq] at hv;omega
   ·rename_i n p sz lo l hsv;split at hwp
    case h_2=>cases hwp
    rename_i b hn;split at hwp
    case h_2=>cases hwp
    rename_i fs hat;split at hwp
    ·rename_i hroom;split at hwp
     case isFalse=>cases hwp
     rename_i hok;obtain ⟨rfl,hsh⟩:=hok;exact (Xp ho k1 hinfo k2 k3 hsv hn hat hsx hroom hsh (by rw[hd];exact hdn)).wp hop0 hsim (fun a' w' hs=>by rw[hd] at hs;exact hK _ a' w' hwp hs)
    ·rename_i hroom;refine grow es ys hse hsx hne (fun a w D E hs ad l' cp hv =>?_) hwp;have h0:=ca hs k2;rw[hsv] at h0;obtain ⟨_,bb,cs,T,off,c1,c2,c3,_,_,_,_,_,_,_,_,_,_,r1,dE,pG⟩:=hs.view (fs:=fs) h0 (by simp only[cz,hn,hat]);rw[pG] at hv;simp only[Value.slice.injEq] at hv;omega
   ·cases hwp
theorem ad0{dr:Bool}{K:ae→Prop}{dst:Option Nat}{rest:List az}{a:Act}{w:World}{Kw:Act→World→Prop}{Q:Exit→Act→World→Prop}{e:TypeId}{esz bytes:Nat}{z:I}{s n:aH}(hop:df c.P o=some (.lT e esz bytes z s n))(hd:o.dst=dst)(hdn:∀ k,dst=some k→k<c.n)
  (hwp:bh c.P c.Y dr K (a7 A dst (.lT e esz bytes z s n) rest (aA rest))) (hsim:cn c A a w) (hK:∀ B a' w',bh c.P c.Y dr K (aA rest B)→cn c B a' w'→Kw a' w'):o.wpIn c.bn 9 c.P a w Kw Q:=by
 have hop0:=hop;simp only[a7] at hwp;unfold df at hop;split at hop <;>try (first | (simp at hop;done) | ((repeat' split at hop) <;>simp at hop;done))
 rename_i args tys ho;split at hop
 case h_2=>cases hop
 rename_i y q t t' ha ht;split at hop
 case h_2=>cases hop
 rename_i e' s' x' k1 k2 k3;split at hop
 case isTrue=>simp at hop
 split at hop
 case isFalse=>cases hop
 rename_i hk;simp only[zz0,b7.lT.injEq] at hop;obtain ⟨zz,hz1,rfl,rfl,rfl,rfl,rfl,rfl⟩:=hop;obtain ⟨hint,hk2,hk3⟩:=hk;have ha':args = #[y,q]:=by apply Array.ext';simpa using ha
 have ht':tys = #[t,t']:=by apply Array.ext';simpa using ht
 subst ha' ht';rw[hz1] at hk3;simp only[zy3,u8] at hk3;obtain ⟨kt,hkt⟩:∃ kt,c.P.underlying t'=some (.int kt):=by
  cases hu:c.P.underlying t' with
  |none=>rw[hu] at hint;cases hint
  |some dsc=>cases dsc <;>rw[hu] at hint <;>first | exact ⟨_,rfl⟩ | cases hint
 split at hwp
 case h_2=>cases hwp
 rename_i kx aY hx';simp only[uq] at hwp;split at hwp
 case h_2=>cases hwp
 rename_i es hse;split at hwp
 case h_2=>cases hwp
 rename_i nn p sz lo l hsv;split at hwp
 case h_2=>cases hwp
 rename_i bb hn;split at hwp
 case h_2=>cases hwp
 rename_i fs hat;split at hwp
 case isFalse=>cases hwp
 rename_i hroom;simp only[gz] at hwp;split at hwp
 case h_2=>cases hwp
 rename_i d;split at hwp
 case h_2=>cases hwp
 rename_i hf;split at hwp
 case isFalse=>cases hwp
 rename_i hb;rw[List.length_replicate] at hb;cases hwp with
 |any hdr hall =>
  obtain ⟨D,E,hs⟩:=hsim;obtain ⟨v,w',m,g1,g2,g3⟩:=P0 ho k1 k2 k3 hkt hx' rfl hroom.1 hk2 hz1 hk3 hse hb.1 hd (hdn d rfl) hf hs (fun ad l' cp hv=>by
   have h0:=ca hs k2;rw[hsv] at h0;have hsv':=hse;obtain ⟨_,b1,cs,T,off,c1,c2,c3,_,_,_,_,_,_,_,_,_,_,r1,dE,pG⟩:=hs.view (fs:=fs) h0 (by simp only[cz,hn,hat]);rw[pG] at hv;simp only[Value.slice.injEq] at hv;have hel:es.length=l:=by
    rw[hsv] at hse;simp only[ep,cz,hn,hat] at hse;split at hse
    ·simp only[u8] at hse;rw[←hse,zx3,zx0];omega
    ·cases hse
   omega) hb.2
  refine ⟨lS,?_⟩;rw[mC hop0,g1,Oper.uponIn_value,hd];rw[hd] at g3;have:=hall m (by rw[List.length_replicate];exact g2);rw[List.length_replicate] at this;exact hK _ _ _ this g3
theorem ad6{dr:Bool}{K:ae→Prop}{dst:Option Nat}{rest:List az}{a:Act}{w:World}{Kw:Act→World→Prop}{Q:Exit→Act→World→Prop}{esz:Nat}{z:I}{x:aH}(hop:df c.P o=some (.je esz z x))(hd:o.dst=dst)(hdn:∀ k,dst=some k→k<c.n)
  (hwp:bh c.P c.Y dr K (a7 A dst (.je esz z x) rest (aA rest))) (hsim:cn c A a w) (hK:∀ B a' w',bh c.P c.Y dr K (aA rest B)→cn c B a' w'→Kw a' w'):o.wpIn c.bn 9 c.P a w Kw Q:=by
 have hop0:=hop;simp only[a7] at hwp;split at hwp
 case h_2=>cases hwp
 unfold df at hop;split at hop <;>try (first | (simp at hop;done) | ((repeat' split at hop) <;>simp at hop;done))
 rename_i args tys ho;split at hop
 case h_2=>cases hop
 rename_i y t ha ht;split at hop
 case h_2=>cases hop
 rename_i e' x' k1 k2;simp only[zz0,b7.je.injEq] at hop;obtain ⟨zz,hz1,rfl,rfl,rfl⟩:=hop;have ha':args = #[y]:=by apply Array.ext';simpa using ha
 have ht':tys = #[t]:=by apply Array.ext';simpa using ht
 subst ha' ht';have nothing:bh c.P c.Y dr K (aA rest A)→(∀ a w D E,aP c A a w D E→∃ ad cp,a.eval y=.slice ad 0 cp)→o.wpIn c.bn 9 c.P a w Kw Q:=fun h hv=>by
  obtain ⟨D,E,hs⟩:=hsim;obtain ⟨ad,cp,hv⟩:=hv a w D E hs;refine ⟨lS,?_⟩;have hrun:(execOp a.eval o).run c.P w=.ok (.value (.tuple #[])) w:=by
   cases ad <;>simp[execOp,ho,resolve,invoke,builtin,Builtin.clear_,run_underlying k1,hv]
  rw[mC hop0,hrun,Oper.uponIn_value,hd];exact hK _ _ _ h ⟨D,E,hs⟩
 unfold mQ at hwp;split at hwp
 ·rename_i n p sz lo l hv;split at hwp
  case h_2=>cases hwp
  rename_i b hn;split at hwp
  case h_2=>cases hwp
  rename_i fs hat;split at hwp
  case isFalse=>cases hwp
  rename_i hok;obtain ⟨rfl,hsh⟩:=hok;exact (Xt ho k1 k2 hz1 hv hn hat hsh hd).wp hop0 hsim (fun a' w' hs=>hK _ a' w' hwp hs)
 ·rename_i z0 hv;refine nothing hwp fun a w D E hs =>?_;have h0:=ca hs k2;rw[hv] at h0;obtain ⟨cs,q1,q2⟩:=h0;simp only[af] at q2;exact ⟨none,0,by simpa[bG,I.isAgg,q2] using q1.symm⟩
 ·rename_i z0 hv;refine nothing hwp fun a w D E hs =>?_;have h0:=ca hs k2;rw[hv] at h0;obtain ⟨cs,q1,q2⟩:=h0;simp only[af] at q2;obtain ⟨ad,q2⟩:=q2;exact ⟨ad,0,by simpa[bG,I.isAgg,q2] using q1.symm⟩
 ·cases hwp
theorem ad7{dr:Bool}{K:ae→Prop}{dst:Option Nat}{rest:List az}{a:Act}{w:World}{Kw:Act→World→Prop}{Q:Exit→Act→World→Prop}{esz:Nat}{x y:aH}(hop:df c.P o=some (.kZ esz x y))(hd:o.dst=dst)(hdn:∀ k,dst=some k→k<c.n)
  (hwp:bh c.P c.Y dr K (a7 A dst (.kZ esz x y) rest (aA rest))) (hsim:cn c A a w) (hK:∀ B a' w',bh c.P c.Y dr K (aA rest B)→cn c B a' w'→Kw a' w'):o.wpIn c.bn 9 c.P a w Kw Q:=by
 have hop0:=hop;simp only[a7] at hwp;unfold df at hop;split at hop <;>try (first | (simp at hop;done) | ((repeat' split at hop) <;>simp at hop;done))
 rename_i args tys ho;split at hop
 case h_2=>cases hop
 rename_i ao v t t' ha ht;split at hop
 case h_2=>cases hop
 rename_i e' x' y' k1 k2 k3;split at hop
 case isFalse=>cases hop
 rename_i hk;simp only[u8,b7.kZ.injEq] at hop;obtain ⟨rfl,rfl,rfl⟩:=hop;obtain ⟨rfl,hinfo⟩:=hk;have ha':args = #[ao,v]:=by apply Array.ext';simpa using ha
 have ht':tys = #[t,t]:=by apply Array.ext';simpa using ht
 subst ha' ht';unfold rT at hwp;split at hwp
 ·rename_i n p sz lo l ys hv hsx;split at hwp
  case h_2=>cases hwp
  rename_i b hn;split at hwp
  case h_2=>cases hwp
  rename_i fs hat;split at hwp
  case isFalse=>cases hwp
  rename_i hok;obtain ⟨rfl,hsh⟩:=hok;exact (Xu ho k1 hinfo k2 k3 hv hn hat hsx rfl hsh (by rw[hd];exact hdn)).wp hop0 hsim (fun a' w' hs=>by rw[hd] at hs;exact hK _ a' w' hwp hs)
 ·cases hwp
theorem wi{dr:Bool}{K:ae→Prop}{op:b7}{dst:Option Nat}{rest:List az}{a:Act}{w:World}{Kw:Act→World→Prop}{Q:Exit→Act→World→Prop}(hop:df c.P o=some op)(hd:o.dst=dst)(hdn:∀ k,dst=some k→k<c.n)
  (hwp:bh c.P c.Y dr K (a7 A dst op rest (aA rest))) (hsim:cn c A a w) (hK:∀ B a' w',bh c.P c.Y dr K (aA rest B)→cn c B a' w'→Kw a' w'):o.wpIn c.bn 9 c.P a w Kw Q:=by
 cases op with
 |alloc z=>exact adY hop hd hdn hwp hsim hK
 |box x=>exact ad3 hop hd hdn hwp hsim hK
 |bB s x v=>exact aee hop hd hdn hwp hsim hK
 |call f args=>exact ad4 hop hd hdn hwp hsim hK
 |kd f args=>exact aef hop hd hdn hwp hsim hK
 |jB=>exact ad8 hop hd hdn hwp hsim hK
 |j0 e bytes z n=>exact ad9 hop hd hdn hwp hsim hK
 |gn ty m k v=>exact aea hop hd hdn hwp hsim hK
 |ka x=>exact aed hop hd hdn hwp hsim hK
 |jk x=>exact aec hop hd hdn hwp hsim hK
 |eh x args=>exact ad5 hop hd hdn hwp hsim hK
 |nilS neg x=>exact aeb hop hd hdn hwp hsim hK
 |dH e esz bytes z s x=>exact adZ hop hd hdn hwp hsim hK
 |lT e esz bytes z s n=>exact ad0 hop hd hdn hwp hsim hK
 |je esz z x=>exact ad6 hop hd hdn hwp hsim hK
 |kZ esz x y=>exact ad7 hop hd hdn hwp hsim hK
 |_=>exact I9 hop hd hdn hsim hK (by simpa only[a7] using hwp)
theorem wz{j t:Nat}{bK:Array Oper}{a:Act}{w:World}{b b':Bool}(hs:cn c A a w)(hg:o.guard=some (j,b))(ht:(bK[j]?).bind (·.dst)=some t)(hv:A.t t=.bool b'):Region.wanted o (yielded bK a.tmps)=(b'==b):=by
 obtain ⟨D,E,hs⟩:=hs;have h:=hs.ea t;rw[hv] at h;have h:=lK h;have hy:yielded bK a.tmps j=some b':=by
  unfold yielded;rw[ht];simp only[Option.bind_some];simp only[Array.getD_eq_getD_getElem?] at h;cases hh:a.tmps[t]? with
  |none=>simp[hh,undef] at h
  |some v=>simp only[hh,Option.getD_some] at h;subst h;rfl
 unfold Region.wanted;rw[hg];simp only[hy];cases b <;>cases b' <;>rfl
theorem wA{j t:Nat}{bK:Array Oper}{a:Act}{w:World}{b:Bool}(hs:cn c A a w)(hg:o.guard=some (j,b))(ht:(bK[j]?).bind (·.dst)=some t)(hv:A.t t=.undef):Region.wanted o (yielded bK a.tmps)=false:=by
 obtain ⟨D,E,hs⟩:=hs;have h:=hs.ea t;rw[hv] at h;simp only[aS] at h;have hy:yielded bK a.tmps j=none:=by
  unfold yielded;rw[ht];simp only[Option.bind_some];simp only[Array.getD_eq_getD_getElem?] at h;cases hh:a.tmps[t]? with
  |none=>rfl
  |some v=>simp only[hh,Option.getD_some] at h;subst h;rfl
 unfold Region.wanted;rw[hg];simp only[hy];rfl
theorem cn.pE{a:Act}{w:World}(h:cn c A a w){d:Option Nat}(hd:∀ k,d=some k→k<c.n):cn c (A.aK d .undef) (a.put d undef) w:=by
 obtain ⟨D,E,h⟩:=h;exact ⟨D,E,h.aK hd (by simp[aS])⟩
theorem sv{dr:Bool}{K:ae→Prop}{bK:Array Oper}{Q:Exit→Act→World→Prop}(hQ:∀ B a w,K B→cn c B a w→Q .normal a w):∀ (l:List Oper) (gs:List az) (A:ae) (a:Act) (w:World),gB c.P c.n bK l=some gs→bh c.P c.Y dr K (aA gs A) →
  cn c A a w→wpListIn c.bn 9 c.P bK Q l a w
 | [],gs,A,a,w,hc,hwp,hs=>by
  simp only[gB,u8] at hc;subst hc;simp only[aA] at hwp;cases hwp with
  |done hk=>exact hQ A a w hk hs
 |o::l,gs,A,a,w,hc,hwp,hs=>by
  simp only[gB] at hc;split at hc
  case h_2=>cases hc
  rename_i g gs' hg hgs;simp only[u8] at hc;subst hc;obtain ⟨h1,h2,h3,h4⟩:=oP hg;have step:bh c.P c.Y dr K (a7 A g.dst g.op gs' (aA gs'))→o.wpIn c.bn 9 c.P a w (wpListIn c.bn 9 c.P bK Q l) Q:=fun h =>
   wi h1 h2.symm (by rw[h2];exact h3) h hs (fun B a' w' hw hs'=>sv hQ l gs' B a' w' hgs hw hs')
  simp only[wpListIn];simp only[aA] at hwp;rcases h4 with ⟨h5,h6⟩ | ⟨j,b,t,h5,h6,h7⟩
  ·rw[h6] at hwp;have hw:Region.wanted o (yielded bK a.tmps)=true:=by simp[Region.wanted,h5]
   rw[hw,if_pos rfl];exact step hwp
  ·rw[h7] at hwp;simp only at hwp;split at hwp
   ·rename_i b' hb';rw[wz hs h5 h6 hb'];split at hwp
    ·rename_i hbb;subst hbb;simp only[BEq.rfl,if_true];exact step hwp
    ·rename_i hbb;have:(b'==b)=false:=by simpa using hbb
     rw[this];simp only[zz7,if_false];exact ⟨fun f _=>nJ c f,sv hQ l gs' _ _ w hgs hwp (by rw[h2];exact hs.pE h3)⟩
   ·rename_i hb';rw[wA hs h5 h6 hb'];simp only[zz7,if_false];exact ⟨fun f _=>nJ c f,sv hQ l gs' _ _ w hgs hwp (by rw[h2];exact hs.pE h3)⟩
   ·cases hwp
end
def aH.sl:aH→List Nat
 | .t n=>[n]
 | .c _=>[]
def s8:Option aH→List Nat
 |some x=>x.sl
 |none=>[]
def jI(l:List aH):List Nat:=l.flatMap aH.sl
def b7.cU:b7→List Nat
 | .mv x=>x.sl
 | .pick c a b=>c.sl++(a.sl++b.sl)
 | .bin _ x y=>x.sl++y.sl
 | .eqv _ _ x y=>x.sl++y.sl
 | .nilS _ x=>x.sl
 | .conv _ x=>x.sl
 | .un _ x=>x.sl
 | .ld _ x=>x.sl
 | .fa _ _ x=>x.sl
 | .fl _ _ _ x=>x.sl
 | .ia _ _ x i=>x.sl++i.sl
 | .is _ x i=>x.sl++i.sl
 | .ix _ _ _ x i=>x.sl++i.sl
 | .len x=>x.sl
 | .lenT x=>x.sl
 | .va _ _ x=>x.sl
 | .sl _ x lo hi mx=>x.sl++(s8 lo++(s8 hi++s8 mx))
 | .bld _ ps=>jI (ps.map (·.2))
 | .bs _ _ ps=>jI ps
 | .ext x _=>x.sl
 | .mk _ caps=>jI caps
 | .alloc _=>[]
 | .box x=>x.sl
 | .bB _ x v=>x.sl++v.sl
 | .dH _ _ _ _ s x=>s.sl++x.sl
 | .lT _ _ _ _ s x=>s.sl++x.sl
 | .cap x=>x.sl
 | .bs0 _=>[]
 | .je _ _ x=>x.sl
 | .kZ _ x y=>x.sl++y.sl
 | .call _ args=>jI args
 | .eh x args=>x.sl++jI args
 | .kd _ args=>jI args
 | .nilC x=>x.sl
 | .ptrE _ x y=>x.sl++y.sl
 | .j0 _ _ _ n=>n.sl
 | .jB=>[]
 | .lk _ _ _ m k=>m.sl++k.sl
 | .gn _ m k v=>m.sl++(k.sl++v.sl)
 | .ka x=>x.sl
 | .jk x=>x.sl
 | .ent x=>x.sl
def az.cU(g:az):List Nat:=g.op.cU++(match g.guard with | some (t,_)=>[t] | none=>[])
def b7.gh:b7→Nat
 | .mv _ | .pick .. | .bin .. | .eqv .. | .nilS .. | .conv .. | .un .. | .fl .. | .ix .. | .lenT _ | .bld .. | .ext .. | .mk .. | .nilC _ | .ptrE .. =>0
 | .ld .. | .fa .. | .ia .. | .is .. | .len _ | .va .. | .bs .. | .sl .. | .cap _ | .bs0 _ | .lk .. | .ent _=>1
 | .call .. | .eh .. =>2
 | .alloc _ | .box _=>3
 | .bB .. =>4
 | .dH .. | .lT .. | .je .. | .kZ .. | .kd .. | .j0 .. | .jB | .gn .. | .ka _ | .jk _=>5
def uM(a b:Nat):Bool:=(decide (a≤2)&&decide (b≤3))||(a==0&&b==4)
def m8(g h:az):Bool:=uM g.op.gh h.op.gh&&(match g.dst with
  |some d => !h.cU.contains d&&h.dst != some d
  |none=>true)&&(match h.dst with
  |some d => !g.cU.contains d
  |none=>true)
def dV(A A':ae)(l:List Nat):Prop:=∀ k∈l,A'.t k=A.t k
section
variable {A A':ae}
theorem c6{x:aH}(h:dV A A' x.sl):ab A' x=ab A x:=by
 cases x with
 |t n=>exact h n (by simp[aH.sl])
 |c x=>rfl
theorem dV.l{l m:List Nat}(h:dV A A' (l++m)):dV A A' l:=fun k hk=>h k (List.mem_append_left _ hk)
theorem dV.r{l m:List Nat}(h:dV A A' (l++m)):dV A A' m:=fun k hk=>h k (List.mem_append_right _ hk)
theorem lZ:∀ {l:List aH},dV A A' (jI l)→l.map (ab A')=l.map (ab A)
 | [],_=>rfl
 |x::l,h=>by
  simp only[jI,List.flatMap_cons] at h;simp only[zz9,c6 h.l,lZ (l:=l) h.r]
theorem oU{x:Option aH}(h:dV A A' (s8 x)):x.map (ab A')=x.map (ab A):=by
 cases x with
 |none=>rfl
 |some x=>simp only[zy3,c6 (x:=x) h]
theorem CA:∀ {l:List (Nat×aH)},dV A A' (jI (l.map (·.2)))→(l.map fun p=>(p.1,ab A' p.2))=l.map fun p=>(p.1,ab A p.2)
 | [],_=>rfl
 |x::l,h=>by
  simp only[jI,zz9,List.flatMap_cons] at h;simp only[zz9,c6 h.l,CA (l:=l) h.r]
theorem qC{f g:I→Option I}(h:∀ x v,f x=some v→g x=some v):∀ {xs vs:List I},fC f xs=some vs→fC g xs=some vs
 | [],vs,hx=>by simpa only[fC] using hx
 |x::xs,vs,hx=>by
  simp only[fC] at hx ⊢;cases h1:f x with
  |none=>rw[h1] at hx;cases hx
  |some y=>cases h2:fC f xs with
   |none=>rw[h1,h2] at hx;cases hx
   |some ys=>rw[h1,h2] at hx;rw[h x y h1,qC h h2];exact hx
theorem vj(hu:eb A A'):∀ (k:Nat) (x v:I),dS A k x=some v→dS A' k x=some v
 |0,_,_,h=>by simp[dS] at h
 |k+1,x,v,h=>by
  have ih:=vj hu k;simp only[dS] at h ⊢;split at h
  ·rename_i hc;rw[if_pos hc];exact h
  ·rename_i hc;rw[if_neg hc];cases x <;>simp only[] at h ⊢ <;>try (cases h;done)
   case agg fs =>
    simp only[zz0] at h ⊢;obtain ⟨a,h1,h2⟩:=h;exact ⟨a,qC ih h1,h2⟩
   case func f fs =>
    simp only[zz0] at h ⊢;obtain ⟨a,h1,h2⟩:=h;exact ⟨a,qC ih h1,h2⟩
   case ptr n p =>
    cases hd:cz A (.ptr n p) with
    |none=>rw[hd] at h;cases h
    |some y =>
     rw[hd] at h;rw[jw hu hd];simp only[zz0] at h ⊢;obtain ⟨a,h1,h2⟩:=h;exact ⟨a,ih _ _ h1,h2⟩
   case view n p sz lo l =>
    cases hd:cz A (.ptr n p) with
    |none=>rw[hd] at h;cases h
    |some y=>rw[hd] at h;rw[jw hu hd];exact h
   case mref n =>
    cases ho:A.o n with
    |none=>rw[ho] at h;cases h
    |some y =>
     rw[ho] at h;rw[hu n y ho];cases y <;>try (cases h;done)
     simp only at h ⊢;split at h
     ·rename_i hk;rw[if_pos hk];simp only[zz0] at h ⊢;obtain ⟨a,h1,h2⟩:=h;exact ⟨a,qC ih h1,h2⟩
     ·cases h
   case own n l =>
    cases ho:A.o n with
    |none=>rw[ho] at h;cases h
    |some y=>rw[ho] at h;rw[hu n y ho];exact h
mutual
theorem CR(hu:eb A A'){aB:Bool} : ∀ {x v:I},bg aB A x=some v→bg aB A' x=some v
 | .ptr n p,v,h=>by
  simp only[bg] at h ⊢;cases aB <;>simp only[zz7,if_false,if_true] at h ⊢
  ·exact h
  ·cases hd:cz A (.ptr n p) with
   |none=>rw[hd] at h;cases h
   |some y =>
    rw[hd] at h;rw[jw hu hd];simp only at h ⊢;split at h
    ·rename_i hc;rw[if_pos hc];exact h
    ·rename_i hc;rw[if_neg hc];simp only[zz0] at h ⊢;obtain ⟨a,h1,h2⟩:=h;exact ⟨a,vj hu 9 _ _ h1,h2⟩
 | .mref n,v,h=>by
  simp only[bg] at h ⊢;cases aB <;>simp only[zz7,if_false,if_true] at h ⊢
  ·exact h
  ·cases ho:A.o n with
   |none=>rw[ho] at h;cases h
   |some y =>
    rw[ho] at h;rw[hu n y ho];cases y <;>try (cases h;done)
    simp only at h ⊢;split at h
    ·rename_i hk;rw[if_pos hk];simp only[zz0] at h ⊢;obtain ⟨a,h1,h2⟩:=h;exact ⟨a,qC (vj hu 9) h1,h2⟩
    ·cases h
 | .dj _,_,h=>by simp[bg] at h
 | .cL _ _,_,h=>by simpa only[bg] using h
 | .own n k,v,h=>by
  simp only[bg] at h ⊢;cases ho:A.o n with
  |none=>rw[ho] at h;cases h
  |some y=>rw[ho] at h;rw[hu n y ho];exact h
 | .view n p sz lo k,v,h=>by
  simp only[bg] at h ⊢;cases aB <;>simp only[zz7,if_false,if_true] at h ⊢
  ·exact h
  ·cases hd:cz A (.ptr n p) with
   |none=>rw[hd] at h;cases h
   |some y=>rw[hd] at h;rw[jw hu hd];exact h
 | .func f caps,v,h=>by
  simp only[bg,zz0] at h ⊢;obtain ⟨a,h1,h2⟩:=h;exact ⟨a,lu hu h1,h2⟩
 | .agg fs,v,h=>by
  simp only[bg,zz0] at h ⊢;obtain ⟨a,h1,h2⟩:=h;exact ⟨a,lu hu h1,h2⟩
 | .nils _,_,h | .c0 _,_,h | .tuple _,_,h | .undef,_,h | .c8,_,h | .bool _,_,h | .int _ _,_,h | .cQ _,_,h | .nilp,_,h | .da,_,h | .dN,_,h | .raw _,_,h | .slice _ _,_,h | .ref _,_,h | .iface _ _,_,h=>by simpa only[bg] using h
theorem lu(hu:eb A A'){aB:Bool} : ∀ {xs vs:List I},bX aB A xs=some vs→bX aB A' xs=some vs
 | [],vs,h=>by simpa only[bX] using h
 |x::xs,vs,h=>by
  simp only[bX] at h ⊢;cases h1:bg aB A x with
  |none=>rw[h1] at h;cases h
  |some y=>cases h2:bX aB A xs with
   |none=>rw[h1,h2] at h;cases h
   |some ys=>rw[h1,h2] at h;rw[CR hu h1,lu hu h2];exact h
end
theorem xU{op:b7}(hc:op.gh=0)(h:dV A A' op.cU):a8 A' op=a8 A op:=by
 cases op <;>simp only[b7.gh] at hc <;>try (cases hc;done)
 all_goals simp only[b7.cU] at h
 case mv x=>simp only[a8,c6 h]
 case pick c a b=>simp only[a8,c6 h.l,c6 h.r.l,c6 h.r.r]
 case bin _ x y=>simp only[a8,c6 h.l,c6 h.r]
 case eqv _ _ x y=>simp only[a8,c6 h.l,c6 h.r]
 case nilS x=>simp only[a8,c6 h]
 case conv x=>simp only[a8,c6 h]
 case un x=>simp only[a8,c6 h]
 case fl x=>simp only[a8,c6 h]
 case ix x i=>simp only[a8,c6 h.l,c6 h.r]
 case lenT x=>simp only[a8,c6 h]
 case bld zs ps=>simp only[a8,CA h]
 case ext x i=>simp only[a8,c6 h]
 case mk f caps=>simp only[a8,lZ h]
 case nilC x=>simp only[a8,c6 h]
 case ptrE neg x y=>simp only[a8,c6 h.l,c6 h.r]
theorem afL(hu:eb A A'){m:I}{q:List I×List I}(h:fX A m=some q):fX A' m=some q:=by
 cases m with
 |mref n =>
  simp only[fX] at h ⊢;cases hd:A.o n with
  |none=>simp only[hd] at h;cases h
  |some y=>simp only[hd] at h;simp only[hu n y hd];exact h
 |raw v=>cases v <;>first | (cases h;done) | (rename_i m;cases m <;>first | exact h | cases h)
 |cL ks vs=>exact h
 |_=>simp only[fX] at h;cases h
theorem KS{op:b7}(hu:eb A A')(h:dV A A' op.cU){v:I}(hv:a8 A op=some v):a8 A' op=some v:=by
 by_cases hc:op.gh=0
 ·rw[xU hc h];exact hv
 cases op <;>try (exact absurd rfl hc)
 all_goals simp only[b7.cU] at h
 case ld s x =>
  simp only[a8,c6 h] at hv ⊢;cases hd:cz A (ab A x) with
  |none=>rw[hd] at hv;cases hv
  |some y=>rw[hd] at hv;rw[jw hu hd];exact hv
 case fa f off x =>
  simp only[a8,c6 h] at hv ⊢;generalize ab A x=z at *;cases z <;>try (first | exact hv | (rename_i y;cases y <;>exact hv))
  rename_i n p;cases hd:cz A (.ptr n p) with
  |none=>simp only[hd] at hv;cases hv
  |some y=>simp only[hd] at hv;simp only[jw hu hd];exact hv
 case ia n esz x i =>
  simp only[a8,c6 h.l,c6 h.r] at hv ⊢;generalize ab A x=z at *;cases z <;>try (first | exact hv | (rename_i y;cases y <;>exact hv))
  rename_i n p;cases hd:cz A (.ptr n p) with
  |none=>simp only[hd] at hv;(repeat' split at hv) <;>cases hv
  |some y=>simp only[hd] at hv;simp only[jw hu hd];exact hv
 case is esz x i =>
  simp only[a8,c6 h.l,c6 h.r] at hv ⊢;generalize ab A i=q at *;cases q <;>try (exact hv)
  simp only at hv ⊢;generalize ab A x=z at *;cases z <;>try (first | exact hv | (rename_i y;cases y <;>exact hv))
  ·rename_i n p;cases hd:A.o n with
   |none=>simp only[hd] at hv;cases hv
   |some y=>simp only[hd] at hv;simp only[hu n y hd];exact hv
  ·rename_i n p sz lo k;simp only at hv ⊢;cases hd:cz A (.ptr n p) with
   |none=>simp only[hd] at hv;cases hv
   |some y=>simp only[hd] at hv;simp only[jw hu hd];exact hv
 case len x =>
  simp only[a8,c6 h] at hv ⊢;generalize ab A x=z at *;cases z <;>try (first | exact hv | (rename_i y;cases y <;>exact hv))
  rename_i n p;cases hd:A.o n with
  |none=>simp only[hd] at hv;cases hv
  |some y=>simp only[hd] at hv;simp only[hu n y hd];exact hv
 case cap x =>
  simp only[a8,c6 h] at hv ⊢;generalize ab A x=z at *;cases z <;>try (first | exact hv | (rename_i y;cases y <;>exact hv))
  rename_i n p sz lo k;simp only at hv ⊢;cases hd:cz A (.ptr n p) with
  |none=>simp only[hd] at hv;cases hv
  |some y=>simp only[hd] at hv;simp only[jw hu hd];exact hv
 case bs0 esz=>exact hv
 case sl esz x lo hi mx =>
  simp only[a8,c6 h.l,oU h.r.l,oU h.r.r.l,oU h.r.r.r] at hv ⊢;generalize ab A x=z at *;cases z <;>try (first | exact hv | (rename_i y;cases y <;>exact hv))
  rename_i n p sz l0 k;simp only at hv ⊢;cases hd:cz A (.ptr n p) with
  |none=>simp only[hd] at hv;cases hv
  |some y=>simp only[hd] at hv;simp only[jw hu hd];exact hv
 case va n esz x =>
  simp only[a8,c6 h] at hv ⊢;generalize ab A x=z at *;cases z <;>try (first | exact hv | (rename_i y;cases y <;>exact hv))
  rename_i n p;cases hd:cz A (.ptr n p) with
  |none=>simp only[hd] at hv;cases hv
  |some y=>simp only[hd] at hv;simp only[jw hu hd];exact hv
 case lk ty z ok m k =>
  simp only[a8,c6 h.l,c6 h.r] at hv ⊢;cases hd:fX A (ab A m) with
  |none=>rw[hd] at hv;cases hv
  |some y=>rw[hd] at hv;rw[afL hu hd];exact hv
 case ent x =>
  simp only[a8,c6 h] at hv ⊢;generalize ab A x=z at *;cases z <;>try (exact hv)
  rename_i n;simp only at hv ⊢;cases hd:A.o n with
  |none=>simp only[hd] at hv;cases hv
  |some y=>simp only[hd] at hv;simp only[hu n y hd];exact hv
 case bs esz ps =>
  simp only[a8,lZ h] at hv ⊢;cases hd:bX false A (ps.map (ab A)) with
  |none=>rw[hd] at hv;cases hv
  |some y=>rw[hd] at hv;rw[lu hu hd];exact hv
 all_goals (simp only[a8] at hv;cases hv)
end
def pass(A:ae)(g:az):Prop:=match g.guard with | none=>True | some (t,b)=>A.t t=.bool b
def fY(A:ae)(g:az):Prop:=match g.guard with | none=>False | some (t,b)=>A.t t=.bool (!b)∨A.t t=.undef
inductive js (P:Program) (A:ae):b7→I→Prop where
 |pure {op:b7} {v:I} : a8 A op=some v→js P A op v
 |flat {f:FuncId} {args:List aH} {cargs:List I} {r:I} : bX true A (args.map (ab A))=some cargs→aC P f cargs r→r.flat=true→js P A (.call f args) r
 |lead {f:FuncId} {args:List aH} {cargs:List I} {r:I} : bX false A (args.map (ab A))=some cargs→aC P f cargs r→js P A (.call f args) r
 |tP {x:aH} {f:FuncId} {caps:List I} {args:List aH} {cargs:List I} {r:I} : ab A x=.func f caps→bX true A (args.map (ab A)++caps)=some cargs→aC P f cargs r→r.flat=true→js P A (.eh x args) r
 |tQ {x:aH} {f:FuncId} {caps:List I} {args:List aH} {cargs:List I} {r:I} : ab A x=.func f caps→bX false A (args.map (ab A)++caps)=some cargs→aC P f cargs r→js P A (.eh x args) r
def rA(A:ae)(op:b7)(x:I):Prop:=op=.alloc x∨∃ y,op=.box y∧(ab A y).cd=true∧x=ab A y
def rB(A:ae)(op:b7)(n:Nat)(z:ah):Prop:=∃ s x v p b old,op=.bB s x v∧ab A x=.ptr n p∧A.o n=some (.box b)∧b.at p=some old∧xG s (ab A v) old∧z=.box (b.dx p (ab A v))
def Pt(A:ae)(dst:Option Nat)(op:b7)(B:ae):Prop:=op.gh=5∧∀ (rest:List az) (k:ae→cE),a7 A dst op rest k=k B
theorem aiX{A:ae}{neg:Bool}{x:aH}{v:I}(h:a8 A (.nilS neg x)=some v):jM (ab A x)=false:=by
 simp only[a8] at h;generalize ab A x=q at *;cases q <;>simp only[jM] <;>simp only at h <;>try (cases h;done)
 rename_i sz es;cases es with
 |nil=>simp at h
 |cons=>rfl
inductive eY (P:Program) (g:az) (A:ae):ae→Prop where
 |skip:fY A g→eY P g A (A.aK g.dst .undef)
 |val {v:I} : pass A g→js P A g.op v→eY P g A (A.aK g.dst v)
 |jj {d:Nat} {x:I} : pass A g→g.dst=some d→rA A g.op x→A.o d=none→eY P g A ((A.aN d (.box x)).put d (.ptr d []))
 |bB {n:Nat} {z:ah} : pass A g→g.dst=none→rB A g.op n z→eY P g A (A.aN n z)
 |hP {B:ae} : pass A g→Pt A g.dst g.op B→eY P g A B
theorem ux{b' b:Bool}(h:b'≠b):b' = !b:=by cases b <;>cases b' <;>simp_all
section
variable {P:Program} {Y:Value→List I→List (Nat×ah)→cR→Prop} {K:ae→Prop}
theorem eY.Ka{A:ae}{g:az}{rest:List az}(hp:pass A g)(h:bh P Y true K (a7 A g.dst g.op rest (aA rest))):∃ B,eY P g A B∧bh P Y true K (aA rest B):=by
 have pure:bh P Y true K (cK (a8 A g.op) fun v=>aA rest (A.aK g.dst v))→∃ B,eY P g A B∧bh P Y true K (aA rest B):=by
  intro h;cases hv:a8 A g.op with
  |none=>rw[hv] at h;cases h
  |some v=>rw[hv] at h;exact ⟨_,.val hp (.pure hv),h⟩
 obtain ⟨dst,op,gd⟩:=g;cases op with
 |alloc z =>
  simp only[a7] at h;split at h
  case h_2=>cases h
  split at h
  case h_2=>cases h
  rename_i hd _ ho;exact ⟨_,.jj hp rfl (.inl rfl) ho,h⟩
 |box x =>
  simp only[a7] at h;split at h
  case h_2=>cases h
  split at h
  case h_2=>cases h
  rename_i hd _ ho;split at h
  case isFalse=>cases h
  rename_i hv;exact ⟨_,.jj hp rfl (.inr ⟨x,rfl,hv,rfl⟩) ho,h⟩
 |bB s x v =>
  simp only[a7] at h;split at h
  case h_2=>cases h
  split at h
  case h_2=>cases h
  rename_i n p hx;split at h
  case h_2=>cases h
  rename_i b hb;split at h
  case h_2=>cases h
  rename_i old hat;split at h
  case isFalse=>cases h
  rename_i hok;exact ⟨_,.bB hp rfl ⟨s,x,v,p,b,old,rfl,hx,hb,hat,hok,rfl⟩,h⟩
 |nilS neg x =>
  simp only[a7] at h;split at h
  ·cases h with | any hdr=>cases hdr
  ·exact pure h
 |dH e esz bytes z s x =>
  simp only[a7] at h;split at h
  ·rename_i n l hs';split at h
   case h_2=>cases h
   rename_i sz ys hx';split at h
   case h_3=>cases h
   case h_2 =>
    rename_i T xs hn;split at h
    case isFalse=>cases h
    rename_i hok;exact ⟨_,.hP hp ⟨rfl,fun rest k=>by simp only[a7,hs',hx',hn,if_pos hok]⟩,h⟩
   rename_i T sz' es hn;split at h
   case isFalse=>cases h
   rename_i hok;exact ⟨_,.hP hp ⟨rfl,fun rest k=>by simp only[a7,hs',hx',hn,if_pos hok]⟩,h⟩
  ·rename_i hno;have hg:∀ (rest:List az) (k:ae→cE),a7 A dst (.dH e esz bytes z s x) rest k=fo A dst esz bytes z (ab A s) (ep A esz (ab A s)) (ep A esz (ab A x)) k:=fun rest k=>by
    simp only[a7]
   simp only[fo] at h hg;split at h
   case h_2=>cases h
   rename_i es ys hse hsx;simp only[hse,hsx] at hg;have grow:¬ bh P Y true K (gz A dst esz bytes z es ys (aA rest)):=fun h=>by
    simp only[gz] at h;split at h
    case h_2=>cases h
    split at h
    case h_2=>cases h
    split at h
    case isFalse=>cases h
    cases h with | any hdr=>cases hdr
   split at h
   ·rename_i hne;simp only[if_pos hne] at hg;exact ⟨_,.hP hp ⟨rfl,hg⟩,h⟩
   ·rename_i hne;simp only[if_neg hne] at hg;split at h
    ·exact absurd h grow
    ·exact absurd h grow
    ·rename_i n p sz lo l hsv;split at h
     case h_2=>cases h
     rename_i b hn;split at h
     case h_2=>cases h
     rename_i fs hat;split at h
     ·rename_i hroom;split at h
      case isFalse=>cases h
      rename_i hok;simp only[hsv,hn,hat,if_pos hroom,if_pos hok] at hg;exact ⟨_,.hP hp ⟨rfl,hg⟩,h⟩
     ·exact absurd h grow
    ·cases h
 |kd f args =>
  simp only[a7] at h;cases h with | ext r hdr=>cases hdr
 |lT e esz bytes z s n =>
  exfalso
  simp only[a7] at h;split at h
  case h_2=>cases h
  simp only[uq] at h;split at h
  case h_2=>cases h
  split at h
  case h_2=>cases h
  split at h
  case h_2=>cases h
  split at h
  case h_2=>cases h
  split at h
  case isFalse=>cases h
  simp only[gz] at h;split at h
  case h_2=>cases h
  split at h
  case h_2=>cases h
  split at h
  case isFalse=>cases h
  cases h with | any hdr=>cases hdr
 |jB =>
  simp only[a7] at h;split at h
  case h_2=>cases h
  rename_i d;split at h
  case h_2=>cases h
  rename_i hf;exact ⟨_,.hP hp ⟨rfl,fun rest k=>by simp only[a7,hf]⟩,h⟩
 |j0 e bytes z n =>
  simp only[a7] at h;split at h
  case h_2=>cases h
  rename_i d;split at h
  case h_2=>cases h
  rename_i hf;split at h
  case h_2=>cases h
  rename_i k m hn;split at h
  case isFalse=>cases h
  rename_i hc;exact ⟨_,.hP hp ⟨rfl,fun rest k=>by simp only[a7,hf,hn,if_pos hc]⟩,h⟩
 |gn ty m key v =>
  simp only[a7] at h;split at h
  case h_2=>cases h
  split at h
  case h_2=>cases h
  rename_i n hm;split at h
  case h_2=>cases h
  rename_i ks vs hn;split at h
  case h_2=>cases h
  rename_i ks' vs' hl;exact ⟨_,.hP hp ⟨rfl,fun rest k=>by simp only[a7,hm,hn,hl]⟩,h⟩
 |ka x =>
  simp only[a7] at h;split at h
  case h_2=>cases h
  rename_i d;split at h
  case h_2=>cases h
  rename_i hf;split at h
  case h_2=>cases h
  rename_i ks vs hx;exact ⟨_,.hP hp ⟨rfl,fun rest k=>by simp only[a7,hf,hx]⟩,h⟩
 |jk x =>
  simp only[a7] at h;split at h
  case h_2=>cases h
  rename_i n hx;split at h
  case h_2=>cases h
  rename_i ks vs left cur hn;split at h
  ·rename_i hl;exact ⟨_,.hP hp ⟨rfl,fun rest k=>by simp only[a7,hx,hn,if_pos hl]⟩,h⟩
  ·cases h with | any hdr=>cases hdr
 |je esz z x =>
  simp only[a7] at h;split at h
  case h_2=>cases h
  have hg:∀ (rest:List az) (k:ae→cE),a7 A none (.je esz z x) rest k=mQ A esz z k (ab A x):=fun rest k=>rfl;simp only[mQ] at h hg;split at h
  ·rename_i n p sz lo l hv;split at h
   case h_2=>cases h
   rename_i b hn;split at h
   case h_2=>cases h
   rename_i fs hat;split at h
   case isFalse=>cases h
   rename_i hok;simp only[hv,hn,hat,if_pos hok] at hg;exact ⟨_,.hP hp ⟨rfl,hg⟩,h⟩
  ·rename_i z0 hv;simp only[hv] at hg;exact ⟨_,.hP hp ⟨rfl,hg⟩,h⟩
  ·rename_i z0 hv;simp only[hv] at hg;exact ⟨_,.hP hp ⟨rfl,hg⟩,h⟩
  ·cases h
 |kZ esz x y =>
  have hg:∀ (rest:List az) (k:ae→cE),a7 A dst (.kZ esz x y) rest k=rT A dst esz k (ab A x) (ep A esz (ab A y)):=fun rest k=>rfl;simp only[a7] at h;simp only[rT] at h hg;split at h
  ·rename_i n p sz lo l ys hv hsx;split at h
   case h_2=>cases h
   rename_i b hn;split at h
   case h_2=>cases h
   rename_i fs hat;split at h
   case isFalse=>cases h
   rename_i hok;simp only[hv,hsx,hn,hat,if_pos hok] at hg;exact ⟨_,.hP hp ⟨rfl,hg⟩,h⟩
  ·cases h
 |call f args =>
  simp only[a7] at h;generalize h1:bX true A (args.map (ab A))=a1 at h;generalize h2:bX false A (args.map (ab A))=a2 at h;cases h with
  |flat r hc hf hw=>exact ⟨_,.val hp (.flat h1 hc hf),hw⟩
  |lead r hc hw=>exact ⟨_,.val hp (.lead h2 hc),hw⟩
  |hZ ns r hdr=>cases hdr
  |bU aB ρ os cargs post hdr=>cases hdr
 |eh x args =>
  simp only[a7] at h;split at h
  case h_3=>cases h
  case h_2=>cases h with | yI os cargs post hdr=>cases hdr
  rename_i f caps hx;generalize h1:bX true A (args.map (ab A)++caps)=a1 at h;generalize h2:bX false A (args.map (ab A)++caps)=a2 at h;cases h with
  |flat r hc hf hw=>exact ⟨_,.val hp (.tP hx h1 hc hf),hw⟩
  |lead r hc hw=>exact ⟨_,.val hp (.tQ hx h2 hc),hw⟩
  |hZ ns r hdr=>cases hdr
  |bU aB ρ os cargs post hdr=>cases hdr
 |_=>exact pure (by simpa only[a7] using h)
theorem eY.xr{A:ae}{g:az}{rest:List az}(h:bh P Y true K (aA (g::rest) A)):∃ B,eY P g A B∧bh P Y true K (aA rest B):=by
 simp only[aA] at h;split at h
 ·rename_i hg;exact eY.Ka (by simp only[pass,hg]) h
 ·rename_i t b hg;split at h
  ·rename_i b' hb;split at h
   ·rename_i hbb;subst hbb;exact eY.Ka (by simp only[pass,hg];exact hb) h
   ·rename_i hbb;refine ⟨_,.skip (by simp only[fY,hg];exact .inl (by rw[hb,ux hbb])),h⟩
  ·rename_i hb;exact ⟨_,.skip (by simp only[fY,hg];exact .inr hb),h⟩
  ·cases h
theorem nA{A:ae}{g:az}{rest:List az}(hp:pass A g):aA (g::rest) A=a7 A g.dst g.op rest (aA rest):=by
 simp only[aA];cases hg:g.guard with
 |none=>rfl
 |some tb =>
  obtain ⟨t,b⟩:=tb;simp only[pass,hg] at hp;simp only[hp,if_true]
theorem eY.yE{A B:ae}{g:az}{rest:List az}(h:eY P g A B)(hw:bh P Y true K (aA rest B)):bh P Y true K (aA (g::rest) A):=by
 cases h with
 |skip hn =>
  simp only[aA];cases hg:g.guard with
  |none=>simp only[fY,hg] at hn
  |some tb =>
   obtain ⟨t,b⟩:=tb;simp only[fY,hg] at hn;rcases hn with hn | hn
   ·simp only[hn];rw[if_neg (by cases b <;>simp)];exact hw
   ·simp only[hn];exact hw
 |val hp hv =>
  rw[nA hp];obtain ⟨dst,op,gd⟩:=g;cases hv with
  |pure hv =>
   have hv':a8 A op=some _:=hv;cases op <;>try (simp only[a7,hv',cK] <;>first | exact hw | (simp only[a8] at hv';cases hv');done)
   all_goals first
    |(simp only[a8] at hv';cases hv';done)
    |(simp only[a7,aiX hv',zz7,if_false,hv',cK];exact hw)
  |flat h1 h2 h3=>simp only[a7,h1];exact .flat _ h2 h3 hw
  |lead h1 h2=>simp only[a7,h1];exact .lead _ h2 hw
  |tP h0 h1 h2 h3=>simp only[a7,h0,h1];exact .flat _ h2 h3 hw
  |tQ h0 h1 h2=>simp only[a7,h0,h1];exact .lead _ h2 hw
 |jj hp hd hm ho =>
  rw[nA hp];obtain ⟨dst,op,gd⟩:=g;simp only at hd;subst hd;rcases hm with hm | ⟨y,hm,hv,rfl⟩ <;>simp only at hm <;>subst hm
  ·simp only[a7,ho];exact hw
  ·simp only[a7,ho,hv,if_true];exact hw
 |bB hp hd hm =>
  rw[nA hp];obtain ⟨dst,op,gd⟩:=g;simp only at hd;subst hd;obtain ⟨s,x,v,p,b,old,h1,h2,h3,h4,h5,rfl⟩:=hm;simp only at h1;subst h1;simp only[a7,h2,h3,h4,if_pos h5];exact hw
 |hP hp hm =>
  rw[nA hp,hm.2];exact hw
theorem js.cG{A A':ae}{op:b7}{v:I}(h:js P A op v)(hu:eb A A')(ha:dV A A' op.cU):js P A' op v:=by
 cases h with
 |pure h=>exact .pure (KS hu ha h)
 |flat h1 h2 h3=>exact .flat (by rw[lZ ha];exact lu hu h1) h2 h3
 |lead h1 h2=>exact .lead (by rw[lZ ha];exact lu hu h1) h2
 |tP h0 h1 h2 h3=>simp only[b7.cU] at ha;exact .tP (by rw[c6 ha.l];exact h0) (by rw[lZ ha.r];exact lu hu h1) h2 h3
 |tQ h0 h1 h2=>simp only[b7.cU] at ha;exact .tQ (by rw[c6 ha.l];exact h0) (by rw[lZ ha.r];exact lu hu h1) h2
theorem js.hZ{A A':ae}{op:b7}{v:I}(h:js P A op v)(hc:op.gh=0)(ha:dV A A' op.cU):js P A' op v:=by
 cases h with
 |pure h=>exact .pure (by rw[xU hc ha];exact h)
 |_=>simp[b7.gh] at hc
theorem ni{A A':ae}{g:az}(ha:dV A A' g.cU)(h:pass A g):pass A' g:=by
 unfold pass at *;cases hg:g.guard with
 |none=>trivial
 |some tb=>simp only[hg] at h ⊢;rw[ha tb.1 (by simp[az.cU,hg])];exact h
theorem px{A A':ae}{g:az}(ha:dV A A' g.cU)(h:fY A g):fY A' g:=by
 unfold fY at *;cases hg:g.guard with
 |none=>simp only[hg] at h
 |some tb=>simp only[hg] at h ⊢;rw[ha tb.1 (by simp[az.cU,hg])];exact h
theorem az.j8{A A':ae}{g:az}(ha:dV A A' g.cU):dV A A' g.op.cU:=fun k hk=>ha k (List.mem_append_left _ hk)
def kR(P:Program)(g:az)(A:ae)(v:I):Prop:=(fY A g∧v=.undef)∨(pass A g∧js P A g.op v)
theorem kR.step{A:ae}{g:az}{v:I}(h:kR P g A v):eY P g A (A.aK g.dst v):=by
 rcases h with ⟨h,rfl⟩ | ⟨h,k⟩
 ·exact .skip h
 ·exact .val h k
theorem kR.cG{A A':ae}{g:az}{v:I}(h:kR P g A v)(hu:eb A A')(ha:dV A A' g.cU):kR P g A' v:=by
 rcases h with ⟨h,rfl⟩ | ⟨h,k⟩
 ·exact .inl ⟨px ha h,rfl⟩
 ·exact .inr ⟨ni ha h,k.cG hu (az.j8 ha)⟩
theorem kR.hZ{A A':ae}{g:az}{v:I}(h:kR P g A v)(hc:g.op.gh=0)(ha:dV A A' g.cU):kR P g A' v:=by
 rcases h with ⟨h,rfl⟩ | ⟨h,k⟩
 ·exact .inl ⟨px ha h,rfl⟩
 ·exact .inr ⟨ni ha h,k.hZ hc (az.j8 ha)⟩
theorem eY.yA{A B:ae}{g:az}(h:eY P g A B)(hc:g.op.gh≤2):∃ v,kR P g A v∧B=A.aK g.dst v:=by
 cases h with
 |skip h=>exact ⟨_,.inl ⟨h,rfl⟩,rfl⟩
 |val h k=>exact ⟨_,.inr ⟨h,k⟩,rfl⟩
 |jj h1 h2 h3 h4=>rcases h3 with h3 | ⟨y,h3,_⟩ <;>(rw[h3] at hc;simp[b7.gh] at hc)
 |bB h1 h2 h3=>obtain ⟨s,x,v,p,b,old,h4,_⟩:=h3;rw[h4] at hc;simp[b7.gh] at hc
 |hP h1 h3=>rw[h3.1] at hc;omega
theorem pF{A:ae}{a b:Option Nat}{v ao:I}(h:∀ d,a=some d→b≠some d):(A.aK a v).aK b ao=(A.aK b ao).aK a v:=by
 cases a with
 |none=>rfl
 |some d=>cases b with
  |none=>rfl
  |some e =>
   have hne:d≠e:=fun he=>h d rfl (by rw[he]);simp only[ae.aK,ae.put,ae.mk.injEq,and_true]
   funext k
   by_cases h1:k=e <;>by_cases h2:k=d <;>simp_all
theorem im{A:ae}{d:Option Nat}{v:I} : (A.aK d v).o=A.o:=by cases d <;>rfl
theorem mq{A:ae}{d:Option Nat}{v:I}{l:List Nat}(h:∀ k,d=some k→k∉l):dV A (A.aK d v) l:=by
 cases d with
 |none=>exact fun _ _=>rfl
 |some e =>
  intro k hk;have:k≠e:=fun he=>h e rfl (he▸hk);simp[ae.aK,ae.put,this]
theorem dV.symm{A A':ae}{l:List Nat}(h:dV A A' l):dV A' A l:=fun k hk=>(h k hk).symm
theorem rA.same{A A':ae}{op:b7}{x:I}(h:rA A op x)(ha:dV A A' op.cU):rA A' op x:=by
 rcases h with h | ⟨y,h1,h2,h3⟩
 ·exact .inl h
 ·subst h1;have:=c6 (x:=y) ha;exact .inr ⟨y,rfl,by rw[this];exact h2,by rw[this];exact h3⟩
theorem rB.same{A A':ae}{op:b7}{n:Nat}{z:ah}(h:rB A op n z)(ho:A'.o=A.o)(ha:dV A A' op.cU):rB A' op n z:=by
 obtain ⟨s,x,v,p,b,old,h1,h2,h3,h4,h5,h6⟩:=h;subst h1;simp only[b7.cU] at ha;have e1:=c6 ha.l;have e2:=c6 ha.r;exact ⟨s,x,v,p,b,old,rfl,by rw[e1];exact h2,by rw[ho];exact h3,h4,by rw[e2];exact h5,by rw[e2];exact h6⟩
theorem aeX{g h:az}(hi:m8 g h=true):uM g.op.gh h.op.gh=true∧(∀ d,g.dst=some d→d∉h.cU)∧(∀ d,g.dst=some d→h.dst≠some d)∧(∀ d,h.dst=some d→d∉g.cU):=by
 simp only[m8,zz2] at hi;obtain ⟨⟨h1,h2⟩,h3⟩:=hi;refine ⟨h1,fun d hd =>?_,fun d hd =>?_,fun d hd =>?_⟩
 ·rw[hd] at h2;simp at h2;exact h2.1
 ·rw[hd] at h2;simp at h2;exact h2.2
 ·rw[hd] at h3;simpa using h3
theorem eY.swap{A B C:ae}{g h:az}(hi:m8 g h=true)(h1:eY P g A B)(h2:eY P h B C):∃ B',eY P h A B'∧eY P g B' C:=by
 obtain ⟨hc,i1,i2,i3⟩:=aeX hi;simp only[uM,Bool.or_eq_true,zz2,decide_eq_true_eq,beq_iff_eq] at hc;have hg2:g.op.gh≤2:=by rcases hc with hc | hc <;>omega
 obtain ⟨v,hv,rfl⟩:=h1.yA hg2;have ag:dV (A.aK g.dst v) A h.cU:=(mq i1).symm;have cG:eb (A.aK g.dst v) A:=fun n x hx=>by rwa [im] at hx
 cases h2 with
 |skip hn =>
  exact ⟨_,.skip (px ag hn),by
   rw[pF i2];exact (hv.cG (by intro n x hx;rwa [im]) (mq i3)).step⟩
 |val hp hu =>
  exact ⟨_,.val (ni ag hp) (hu.cG cG (az.j8 ag)),by
   rw[pF i2];exact (hv.cG (by intro n x hx;rwa [im]) (mq i3)).step⟩
 |jj hp hd hm ho =>
  rename_i d x;rw[im] at ho;refine ⟨_,.jj (ni ag hp) hd (hm.same (az.j8 ag)) ho,?_⟩;have e:((A.aK g.dst v).aN d (.box x)).put d (.ptr d [])=((A.aN d (.box x)).put d (.ptr d [])).aK g.dst v:=by
   cases hgd:g.dst with
   |none=>rfl
   |some e =>
    have hne:e≠d:=fun he=>i2 e hgd (by rw[hd,he]);simp only[ae.aK,ae.put,ae.aN,ae.mk.injEq,and_true]
    funext k
    by_cases h1:k=e <;>by_cases h2:k=d <;>simp_all
  rw[e];refine (hv.cG (fun n y hy =>?_) (fun k hk =>?_)).step
  ·have:n≠d:=fun he=>by rw[he,ho] at hy;cases hy
   simp only[ae.put,ae.aN,this,if_false];exact hy
  ·have:k≠d:=fun he=>i3 d hd (he▸hk);simp only[ae.put,ae.aN,this,if_false]
 |bB hp hd hm =>
  rename_i n z;have hc0:g.op.gh=0:=by
   obtain ⟨s,x,v,p,b,old,h4,_⟩:=hm;rcases hc with hc | hc
   ·rw[h4] at hc;exact absurd hc.2 (by simp[b7.gh])
   ·exact hc.1
  refine ⟨_,.bB (ni ag hp) hd (hm.same im.symm (az.j8 ag)),?_⟩;have e:(A.aK g.dst v).aN n z=(A.aN n z).aK g.dst v:=by cases g.dst <;>rfl
  rw[e];exact (kR.hZ (A':=A.aN n z) hv hc0 (fun _ _=>rfl)).step
 |hP hp hm =>
  exfalso
  rw[hm.1] at hc;omega
theorem bh.swap{A:ae}{g h:az}{rest:List az}(hi:m8 g h=true)(hw:bh P Y true K (aA (g::h::rest) A)):bh P Y true K (aA (h::g::rest) A):=by
 obtain ⟨B,h1,h2⟩:=eY.xr hw;obtain ⟨C,h3,h4⟩:=eY.xr h2;obtain ⟨B',h5,h6⟩:=eY.swap hi h1 h3;exact h5.yE (h6.yE h4)
theorem bh.p9{g:az} : ∀ {l:List az} {r:List az} {A:ae},(∀ j∈l,m8 j g=true)→bh P Y true K (aA (l++g::r) A)→bh P Y true K (aA (g::(l++r)) A)
 | [],r,A,_,h=>h
 |j::l,r,A,hi,h=>by
  obtain ⟨B,h1,h2⟩:=eY.xr (g:=j) (rest:=l++g::r) h;have h3:=bh.p9 (l:=l) (r:=r) (fun k hk=>hi k (by simp[hk])) h2;exact bh.swap (hi j (by simp)) (h1.yE h3)
end
def en(o:Oper):List Nat:=(o.after.toList.filter fun e=>Region.binds .any e).map (·.on)
def ox(cl:List Nat):List Nat→Nat
 | []=>0
 |k::ks=>(2^k ||| cl.getD k 0) ||| ox cl ks
def rV(on:List (List Nat))(gs:List az)(cl:List Nat):Bool :=
 (List.range gs.length).all fun i=>(on.getD i []).all (fun k=>decide (k<i))&&Nat.beq (cl.getD i 0) (ox cl (on.getD i [])) &&
  (List.range i).all fun j=>(cl.getD i 0).testBit j||m8 (gs.getD j default) (gs.getD i default)
theorem yF{cl:List Nat}{j:Nat} : ∀ {l:List Nat},(ox cl l).testBit j=true→j∈l∨∃ k∈l,(cl.getD k 0).testBit j=true
 | [],h=>by simp[ox] at h
 |k::ks,h=>by
  simp only[ox,Nat.testBit_or,Bool.or_eq_true,Nat.testBit_two_pow,decide_eq_true_eq] at h;rcases h with (h | h) | h
  ·exact .inl (by simp[h])
  ·exact .inr ⟨k,by simp,h⟩
  ·rcases yF h with h | ⟨m,h1,h2⟩
   ·exact .inl (by simp[h])
   ·exact .inr ⟨m,by simp[h1],h2⟩
structure tW (l:List Oper) (gs:List az):Prop where
 oM:∀ i o,l[i]?=some o→∀ k∈en o,k<i
 wG:∀ (S:Nat→Prop),(∀ i o,l[i]?=some o→S i→∀ k∈en o,S k)→∀ i o g j,l[i]?=some o→gs[i]?=some g→(∀ k∈en o,S k)→j<i→¬ S j→m8 (gs.getD j default) g=true
theorem XB{l:List Oper}{gs:List az}{cl:List Nat}(hlen:gs.length=l.length)(h:rV (l.map en) gs cl=true):tW l gs:=by
 simp only[rV,zy2,zx4] at h;have bt:∀ i o,l[i]?=some o→∃ g,gs[i]?=some g∧(∀ k∈en o,k<i)∧(∀ j,(cl.getD i 0).testBit j=true→j∈en o∨∃ k∈en o,(cl.getD k 0).testBit j=true)∧∀ j,j<i→(cl.getD i 0).testBit j=true∨m8 (gs.getD j default) g=true:=by
  intro i o ho;have hi:i<l.length:=(zy4.1 ho).1;have h1:=h i (by omega);have hon:(l.map en).getD i []=en o:=by simp[zz1,ho]
  have hgi:i<gs.length:=by omega
  have hg:gs[i]?=some gs[i]:=zz8 hgi;have hgd:gs.getD i default=gs[i]:=by simp[zz1,hg]
  rw[hon,hgd] at h1;simp only[zz2,zy2,decide_eq_true_eq,Bool.or_eq_true,zx4] at h1;have hb:=Nat.eq_of_beq_eq_true h1.1.2;exact ⟨_,hg,h1.1.1,fun j hj=>yF (by rw[←hb];exact hj),h1.2⟩
 refine ⟨fun i o ho=>(bt i o ho).choose_spec.2.1,?_⟩;intro S hS i o g j ho hg hon hj hnj;have key:∀ n i o,i≤n→l[i]?=some o→(∀ k∈en o,S k)→∀ j,(cl.getD i 0).testBit j=true→S j:=by
  intro n
  induction n with
  |zero =>
   intro i o hi ho hon j hj;obtain ⟨g,_,h1,h2,_⟩:=bt i o ho;rcases h2 j hj with h | ⟨k,hk,_⟩
   ·exact hon j h
   ·have:=h1 k hk;omega
  |succ n ih =>
   intro i o hi ho hon j hj;obtain ⟨g,_,h1,h2,_⟩:=bt i o ho;rcases h2 j hj with h | ⟨k,hk,hjk⟩
   ·exact hon j h
   ·have hki:=h1 k hk;have hkl:k<l.length:=Nat.lt_trans hki (zy4.1 ho).1;obtain ⟨ok,hok⟩:∃ ok,l[k]?=some ok:=⟨l[k],zz8 hkl⟩
    exact ih k ok (by omega) hok (hS k ok hok (hon k hk)) j hjk
 obtain ⟨g',hg',_,_,h3⟩:=bt i o ho;rw[hg,u8] at hg';subst hg';rcases h3 j hj with h | h
 ·exact absurd (key i i o (zz6 _) ho hon j h) hnj
 ·exact h
def iP(listed:Array Bool)(n:Nat):List Nat:=(List.range n).filter fun i => !listed.getD i true
def n9(gs:List az)(listed:Array Bool)(n:Nat):List az:=(iP listed n).map fun i=>gs.getD i default
theorem ME{i n:Nat}(h:i<n):List.range n=List.range i++i::(List.range (n-(i+1))).map (i+1 + ·):=by
 conv=>lhs;rw[show n=(i+1)+(n-(i+1)) by omega,List.range_add]
 rw[List.range_succ];simp
theorem ahN{listed:Array Bool}{i n:Nat}(h:i<n)(hs:listed.size=n)(hu:listed.getD i true=false):∃ l1 l2,iP listed n=l1++i::l2∧iP (listed.setIfInBounds i true) n=l1++l2∧∀ j∈l1,j<i∧listed.getD j true=false:=by
 have same:∀ j,j≠i→(listed.setIfInBounds i true).getD j true=listed.getD j true:=fun j hj=>getD_set_ne true (Ne.symm hj);have hit:(listed.setIfInBounds i true).getD i true=true:=by simp[hs,h]
 refine ⟨(List.range i).filter fun j => !listed.getD j true,((List.range (n-(i+1))).map (i+1 + ·)).filter fun j => !listed.getD j true,?_,?_,?_⟩
 ·simp only[iP];rw[ME h,List.filter_append,zw2];simp only[hu,Bool.not_false,if_true]
 ·simp only[iP];rw[ME h,List.filter_append,zw2];simp only[hit,Bool.not_true,zz7,if_false]
  congr 1
  ·refine List.filter_congr fun j hj =>?_;rw[same j (by have:=zx4.1 hj;omega)]
  ·refine List.filter_congr fun j hj =>?_;obtain ⟨k,_,rfl⟩:=zx5.1 hj;rw[same _ (by omega)]
 ·intro j hj;simp only[zw5,zx4,Bool.not_eq_true'] at hj;exact hj
theorem MK{n:Nat} : iP (Array.replicate n false) n=List.range n:=by
 simp only[iP];refine List.filter_eq_self.2 fun i hi =>?_;have:=zx4.1 hi;simp[this]
theorem afM(gs:List az):((List.range gs.length).map fun i=>gs.getD i default)=gs:=by
 apply List.ext_getElem
 ·simp
 ·intro i h1 h2;simp[zz1,h2]
section
variable {c:cI}
theorem mP{P:Program}{n:Nat}{bK:Array Oper} : ∀ {l:List Oper} {gs:List az},gB P n bK l=some gs→gs.length=l.length∧∀ (i:Nat) (o:Oper),l[i]?=some o→∃ g,gs[i]?=some g∧nE P n bK o=some g
 | [],gs,h=>by simp only[gB,u8] at h;subst h;exact ⟨rfl,fun i o ho=>by simp at ho⟩
 |o::l,gs,h=>by
  simp only[gB] at h;split at h
  case h_2=>cases h
  rename_i g gs' hg hgs;simp only[u8] at h;subst h;obtain ⟨h1,h2⟩:=mP (l:=l) hgs;refine ⟨by simp[h1],fun i o' ho =>?_⟩;cases i with
  |zero=>simp only[List.getElem?_cons_zero,u8] at ho;subst ho;exact ⟨g,rfl,hg⟩
  |succ i=>simpa using h2 i o' (by simpa using ho)
theorem adW{K:ae→Prop}{bK:Array Oper}{Q:Exit→Act→World→Prop}{o:Oper}{g:az}{rest:List az}{A:ae}{a:Act}{w:World}{Kw:Act→World→Prop}(hg:nE c.P c.n bK o=some g)(hwp:bh c.P c.Y true K (aA (g::rest) A))(hs:cn c A a w)
  (hK:∀ B a' w',bh c.P c.Y true K (aA rest B)→cn c B a' w'→Kw a' w'):if Region.wanted o (yielded bK a.tmps) then o.wpIn c.bn 9 c.P a w Kw Q else (∀ f,o.about c.P w a.eval=some f→c.bn.fn f)∧Kw (a.put o.dst undef) w:=by
 obtain ⟨h1,h2,h3,h4⟩:=oP hg;have step:bh c.P c.Y true K (a7 A g.dst g.op rest (aA rest))→o.wpIn c.bn 9 c.P a w Kw Q:=fun h =>
  wi h1 h2.symm (by rw[h2];exact h3) h hs (fun B a' w' hw hs'=>hK B a' w' hw hs')
 simp only[aA] at hwp;rcases h4 with ⟨h5,h6⟩ | ⟨j,b,t,h5,h6,h7⟩
 ·rw[h6] at hwp;have hw:Region.wanted o (yielded bK a.tmps)=true:=by simp[Region.wanted,h5]
  rw[hw,if_pos rfl];exact step hwp
 ·rw[h7] at hwp;simp only at hwp;split at hwp
  ·rename_i b' hb';rw[wz hs h5 h6 hb'];split at hwp
   ·rename_i hbb;subst hbb;simp only[BEq.rfl,if_true];exact step hwp
   ·rename_i hbb;have:(b'==b)=false:=by simpa using hbb
    rw[this];simp only[zz7,if_false];exact ⟨fun f _=>nJ c f,hK _ _ _ hwp (by rw[h2];exact hs.pE h3)⟩
  ·rename_i hb';rw[wA hs h5 h6 hb'];simp only[zz7,if_false];exact ⟨fun f _=>nJ c f,hK _ _ _ hwp (by rw[h2];exact hs.pE h3)⟩
  ·cases hwp
theorem PL{K:ae→Prop}{bK:Array Oper}{gs:List az}{Q:Exit→Act→World→Prop}(hQ:∀ B a w,K B→cn c B a w→Q .normal a w)(hgs:gB c.P c.n bK bK.toList=some gs)(hd:tW bK.toList gs) :
  ∀ (fuel:Nat) (listed:Array Bool) (A:ae) (a:Act) (w:World),listed.size=bK.size→(∀ i o,bK.toList[i]?=some o→listed.getD i false=true→∀ k∈en o,listed.getD k false=true)→(iP listed bK.size).length≤fuel →
   bh c.P c.Y true K (aA (n9 gs listed bK.size) A)→cn c A a w→wpAnyIn c.bn 9 c.P .any bK Q fuel listed a w:=by
 obtain ⟨hlen,hat⟩:=mP hgs;have onOf_mem:∀ (o:Oper) (e:Edge),e∈o.after→Region.binds .any e=true→e.on∈en o:=fun o e he hb=>by
  simp only[en,zx5,zw5];exact ⟨e,⟨by simpa using he,hb⟩,rfl⟩
 have of_onOf:∀ (o:Oper) (k:Nat),k∈en o→∃ e∈o.after,Region.binds .any e=true∧e.on=k:=fun o k hk=>by
  simp only[en,zx5,zw5] at hk;obtain ⟨e,⟨h1,h2⟩,h3⟩:=hk;exact ⟨e,by simpa using h1,h2,h3⟩
 have last:∀ (listed:Array Bool) (A:ae) (a:Act) (w:World),listed.size=bK.size→Region.ready .any bK listed=[]→bh c.P c.Y true K (aA (n9 gs listed bK.size) A)→cn c A a w→Q .normal a w:=by
  intro listed A a w hsz hr hwp hs;have hnone:iP listed bK.size=[]:=by
   have all:∀ n,∀ i,i<n→i<bK.size→listed.getD i true=true:=by
    intro n
    induction n with
    |zero=>intro i hi;omega
    |succ n ih =>
     intro i hi his;cases hb:listed.getD i true with
     |true=>rfl
     |false =>
      exfalso
      have ho:bK[i]?=some bK[i]:=Array.getElem?_eq_getElem his;have:i∈Region.ready .any bK listed:=mem_ready.2 ⟨hb,bK[i],ho,fun e he hbd=>by
       have hlt:=hd.oM i bK[i] (by simp) e.on (onOf_mem _ e he hbd);have h1:=ih e.on (by omega) (by omega);have h2:e.on<listed.size:=by omega
       simpa[Array.getD_eq_getD_getElem?,h2] using h1⟩
      rw[hr] at this;cases this
   simp only[iP];refine List.filter_eq_nil_iff.2 fun i hi =>?_;have:=all (i+1) i (by omega) (zx4.1 hi);simp only[this,Bool.not_true,zz7,not_false_eq_true]
  simp only[n9,hnone,zx2,aA] at hwp;cases hwp with
  |done hk=>exact hQ A a w hk hs
 intro fuel
 induction fuel with
 |zero =>
  intro listed A a w hsz hcl hcnt hwp hs;have hnone:iP listed bK.size=[]:=zv1.1 (by omega);have hr:Region.ready .any bK listed=[]:=by
   refine List.eq_nil_iff_forall_not_mem.2 fun i hi =>?_;obtain ⟨h1,o,ho,_⟩:=mem_ready.1 hi;have:i∈iP listed bK.size:=by
    simp only[iP,zw5,zx4,h1,Bool.not_false,and_true];exact (zx8.1 ho).1
   rw[hnone] at this;cases this
  exact ⟨hr,last listed A a w hsz hr hwp hs⟩
 |succ fuel ih =>
  intro listed A a w hsz hcl hcnt hwp hs;refine ⟨fun hr=>last listed A a w hsz hr hwp hs,fun i hi =>?_⟩;obtain ⟨hun,o,ho,hall⟩:=mem_ready.1 hi;have hin:i<bK.size:=(zx8.1 ho).1;obtain ⟨l1,l2,e1,e2,hl1⟩:=ahN hin hsz hun;have hol:bK.toList[i]?=some o:=by simpa using ho
  obtain ⟨g,hgi,hcg⟩:=hat i o hol;have hon:∀ k∈en o,listed.getD k false=true:=fun k hk=>by
   obtain ⟨e,h1,h2,h3⟩:=of_onOf o k hk;exact h3▸hall e h1 h2
  have hgd:gs.getD i default=g:=by simp[zz1,hgi]
  have hwp':bh c.P c.Y true K (aA (g::n9 gs (listed.setIfInBounds i true) bK.size) A):=by
   simp only[n9,e1,zx6,zz9,hgd] at hwp;simp only[n9,e2,zx6];refine bh.p9 (fun j hj =>?_) hwp;obtain ⟨k,hk,rfl⟩:=zx5.1 hj;obtain ⟨hk1,hk2⟩:=hl1 k hk;refine hd.wG (fun k=>listed.getD k false=true) hcl i o g k hol hgi hon hk1 ?_;have hks:k<listed.size:=by omega
   simp[Array.getD_eq_getD_getElem?,hks] at hk2 ⊢;exact hk2
  unfold wpOpIn;rw[ho];refine adW hcg hwp' hs fun B a' w' hw hs'=>ih _ B a' w' (by simpa using hsz) ?_ ?_ hw hs'
  ·intro m om hom hm k hk;by_cases hmi:m=i
   ·subst hmi;rw[hol,u8] at hom;subst hom;exact getD_set_true (hon k hk)
   ·rw[getD_set_ne false (Ne.symm hmi)] at hm;exact getD_set_true (hcl m om hom hm k hk)
  ·have:(iP listed bK.size).length=(iP (listed.setIfInBounds i true) bK.size).length+1:=by
    rw[e1,e2];simp;omega
   omega
theorem ahM{K:ae→Prop}{bK:Array Oper}{gs:List az}{Q:Exit→Act→World→Prop}{id:Nat}{A:ae}{a:Act}{w:World}(hm:c.P.follows .mixedOrders=true)(hQ:∀ B a w,K B→cn c B a w→Q .normal a w)(hgs:gB c.P c.n bK bK.toList=some gs)(hd:tW bK.toList gs)
  (hwp:bh c.P c.Y true K (aA gs A)) (hs:cn c A a w):(Code.region id bK true).wpIn c.bn 9 c.P Q a w:=by
 refine wpIn_region_any hm (PL hQ hgs hd bK.size (Array.replicate bK.size false) A a _ (by simp) ?_ ?_ ?_ ?_)
 ·intro i o _ h
  exfalso
  simp only[Array.getD_eq_getD_getElem?,Array.getElem?_replicate] at h;split at h <;>simp at h
 ·rw[MK];simp
 ·have hl:=(mP hgs).1;simp only[zw8] at hl;simp only[n9,MK];rw[←hl,afM];exact hwp
 ·obtain ⟨D,E,hs⟩:=hs;exact ⟨D,E,hs.grow (w' := { w with drawn:=w.drawn+1 }) ⟨rfl,rfl,rfl,zz6 _,fun _ _=>rfl⟩ (fun _ _ h=>h) (fun _ _ h _=>h) (fun b o h=>hs.c9 b o h)⟩
end
inductive aM where
 |b6 (on:Option (List (List Nat))) (gs:List az)
 |seq (x y:aM)
 |cond (b:aH) (x y:aM)
 |block (id:Nat) (x:aM)
 |loop (x:aM)
 |exit (id:Nat)
 |ret
 |skip
 |scope (x:aM)
 |label
 |mN
 |kH (f:aH) (ps:List Nat) (x y:aM)
 deriving Inhabited
def eL(P:Program)(n:Nat):Code→Option aM
 | .region _ bK draw=>match gB P n bK bK.toList with
  |some gs=>if (!draw||P.follows .mixedOrders)=true then some (.b6 (bif draw then some (bK.toList.map en) else none) gs) else none
  |none=>some .mN
 | .seq x y=>match eL P n x,eL P n y with
  |some x,some y=>some (.seq x y)
  |_,_=>none
 | .cond b x y=>match bC P 0 b,eL P n x,eL P n y with
  |some b,some x,some y=>some (.cond b x y)
  |_,_,_=>none
 | .block id x=>match eL P n x with
  |some x=>some (.block id x)
  |none=>none
 | .loop x=>match eL P n x with
  |some x=>some (.loop x)
  |none=>none
 | .exit id=>some (.exit id)
 | .ret=>some .ret
 | .skip=>some .skip
 | .scope x=>match eL P n x with
  |some x=>some (.scope x)
  |none=>none
 | .label _=>some .label
 | .rangeFunc f ps x y=>match bC P 0 f,eL P n x,eL P n y with
  |some f,some x,some y=>if (ps.toList.all fun p=>p<n)=true then some (.kH f ps.toList x y) else none
  |_,_,_=>none
 |_=>none
def JI(c:cI)(Q:Exit→ae→Prop):Exit→Act→World→Prop:=fun e a w=>∃ A,Q e A∧cn c A a w
def U(c:cI)(x:aM)(Q:Exit→ae→Prop)(A:ae):Prop :=
 ∀ code,eL c.P c.n code=some x→∀ a w,cn c A a w→code.wpIn c.bn 9 c.P (JI c Q) a w
def al(k:ae→Prop)(Q:Exit→ae→Prop):Exit→ae→Prop
 | .normal,A=>k A
 |e,A=>Q e A
def bJ(id:Nat)(Q:Exit→ae→Prop):Exit→ae→Prop
 | .exit id',A=>if id'=id then Q .normal A else Q (.exit id') A
 |e,A=>Q e A
section
variable {c:cI} {A:ae} {Q:Exit→ae→Prop}
def Xi(d:Option (List (List Nat)))(gs:List az)(cl:List Nat):Bool:=match d with
 |none=>true
 |some on=>rV on gs cl
theorem U.b6{d:Option (List (List Nat))}{gs:List az}{cl:List Nat}(hd:Xi d gs cl=true)(h:∀ K:ae→Prop,(∀ B,Q .normal B→K B)→bh c.P c.Y d.isSome K (aA gs A)):U c (.b6 d gs) Q A:=by
 intro code hc a w hs;cases code <;>simp only[eL] at hc <;>try (first | (cases hc;done) | ((repeat' split at hc) <;>cases hc;done))
 rename_i id bK draw;split at hc
 ·rename_i gs' hgs;split at hc
  case isFalse=>cases hc
  rename_i hok;simp only[u8,aM.b6.injEq] at hc;obtain ⟨rfl,rfl⟩:=hc;cases draw with
  |false=>exact wpIn_region_list (sv (K:=Q .normal) (fun B a w hk hs=>⟨B,hk,hs⟩) bK.toList gs' A a w hgs (h _ fun _ hb=>hb) hs)
  |true =>
   simp only[Bool.not_true,Bool.false_or] at hok;exact ahM (K:=Q .normal) hok (fun B a w hk hs=>⟨B,hk,hs⟩) hgs (XB (mP hgs).1 hd) (h _ fun _ hb=>hb) hs
 ·cases hc
theorem U.seq{x y:aM}(h:U c x (al (fun B=>U c y Q B) Q) A):U c (.seq x y) Q A:=by
 intro code hc a w hs;cases code <;>simp only[eL] at hc <;>try (first | (cases hc;done) | ((repeat' split at hc) <;>cases hc;done))
 rename_i cx cy;split at hc
 ·rename_i x' y' hx hy;simp only[u8,aM.seq.injEq] at hc;obtain ⟨rfl,rfl⟩:=hc;refine wpIn_seq (wpIn_mono (h cx hx a w hs) ?_);rintro e a' w' ⟨B,hq,hs'⟩;cases e <;>simp only[al,Exit.then] at * <;>first | exact hq cy hy a' w' hs' | exact ⟨B,hq,hs'⟩
 ·cases hc
theorem U.cond{b:aH}{x y:aM}{t:Bool}(hb:ab A b=.bool t)(h1:t=true→U c x Q A)(h2:t=false→U c y Q A):U c (.cond b x y) Q A:=by
 intro code hc a w hs;cases code <;>simp only[eL] at hc <;>try (first | (cases hc;done) | ((repeat' split at hc) <;>cases hc;done))
 rename_i cb cx cy;split at hc
 ·rename_i b' x' y' hb' hx hy;simp only[u8,aM.cond.injEq] at hc;obtain ⟨rfl,rfl,rfl⟩:=hc;obtain ⟨D,E,hs'⟩:=hs;have hv:=ca hs' hb';rw[hb] at hv;exact wpIn_cond_split (lK hv) (fun ht=>h1 ht cx hx a w ⟨D,E,hs'⟩) (fun ht=>h2 ht cy hy a w ⟨D,E,hs'⟩)
 ·cases hc
theorem U.block{id:Nat}{x:aM}(h:U c x (bJ id Q) A):U c (.block id x) Q A:=by
 intro code hc a w hs;cases code <;>simp only[eL] at hc <;>try (first | (cases hc;done) | ((repeat' split at hc) <;>cases hc;done))
 rename_i id' cx;split at hc
 ·rename_i x' hx;simp only[u8,aM.block.injEq] at hc;obtain ⟨rfl,rfl⟩:=hc;refine wpIn_block (wpIn_mono (h cx hx a w hs) ?_);rintro e a' w' ⟨B,hq,hs'⟩;cases e <;>simp only[bJ,Exit.inBlock] at * <;>first
   |exact ⟨B,hq,hs'⟩
   |(split at hq
     ·rename_i he;rw[if_pos he];exact ⟨B,hq,hs'⟩
     ·rename_i he;rw[if_neg he];exact ⟨B,hq,hs'⟩)
 ·cases hc
theorem U.exit{id:Nat}(h:Q (.exit id) A):U c (.exit id) Q A:=by
 intro code hc a w hs;cases code <;>simp only[eL] at hc <;>try (first | (cases hc;done) | ((repeat' split at hc) <;>cases hc;done))
 simp only[u8,aM.exit.injEq] at hc;subst hc;exact wpIn_exit ⟨A,h,hs⟩
theorem U.ret(h:Q .ret A):U c .ret Q A:=by
 intro code hc a w hs;cases code <;>simp only[eL] at hc <;>try (first | (cases hc;done) | ((repeat' split at hc) <;>cases hc;done))
 exact wpIn_ret ⟨A,h,hs⟩
theorem U.skip(h:Q .normal A):U c .skip Q A:=by
 intro code hc a w hs;cases code <;>simp only[eL] at hc <;>try (first | (cases hc;done) | ((repeat' split at hc) <;>cases hc;done))
 exact wpIn_skip ⟨A,h,hs⟩
theorem CE{p:Nat→Prop}(h:∃ n,p n):∃ n,p n∧∀ m,p m→n≤m:=by
 obtain ⟨n,hn⟩:=h
 induction n using Nat.strongRecOn with
 |_ n ih =>
  by_cases hm:∃ m,m<n∧p m
  ·obtain ⟨m,h1,h2⟩:=hm;exact ih m h1 h2
  ·exact ⟨n,hn,fun m hp=>Nat.le_of_not_lt fun hlt=>hm ⟨m,hlt,hp⟩⟩
open Classical in
noncomputable def least(p:Nat→Prop):Nat:=if h:∃ n,p n then (CE h).choose else 0
theorem JD{p:Nat→Prop}(h:∃ n,p n):p (least p)∧∀ m,p m→least p≤m:=by
 simp only[least,dif_pos h];exact (CE h).choose_spec
theorem ai8{bn:Fence}{N:Nat}{P:Program}{code:Code}{QQ:Exit→Act→World→Prop}(ai:Nat→Act→World→Prop)(round:∀ n a w,ai n a w→code.wpIn bn N P (Exit.then (fun a' w'=>∃ m,m<n∧ai m a' w') QQ) a w) :
  ∀ n a w,ai n a w→(Code.loop code).wpIn bn N P QQ a w:=by
 intro n a w h;refine wpIn_loop (fun a w=>∃ n,ai n a w) (fun a w=>least fun n=>ai n a w) ⟨n,h⟩ ?_;intro a w hI;have hm:=(JD hI).1;refine wpIn_mono (round _ a w hm) ?_;intro e a' w' hq;cases e <;>simp only[Exit.then] at hq ⊢ <;>try exact hq
 obtain ⟨m,h1,h2⟩:=hq;exact ⟨⟨m,h2⟩,Nat.lt_of_le_of_lt ((JD ⟨m,h2⟩).2 m h2) h1⟩
def aF(A B:ae):Prop:=∀ (c:cI) (a:Act) (w:World),cn c A a w→cn c B a w
theorem aF.refl(A:ae):aF A A:=fun _ _ _ h=>h
theorem aF.trans{A B C:ae}(h:aF A B)(k:aF B C):aF A C:=fun c a w hs=>k c a w (h c a w hs)
theorem U.sub{x:aM}{B:ae}(hsub:aF A B)(h:U c x Q B):U c x Q A:=fun code hc a w hs=>h code hc a w (hsub c a w hs)
theorem U.mono{x:aM}{Q':Exit→ae→Prop}(h:U c x Q A)(hq:∀ e B,Q e B→Q' e B):U c x Q' A :=
 fun code hc a w hs=>wpIn_mono (h code hc a w hs) fun e a' w' ⟨B,h1,h2⟩=>⟨B,hq e B h1,h2⟩
theorem U.loop{σ:Type}(S:σ→ae)(C:σ→Prop)(m:σ→Nat)(s0:σ){x:aM}(h0:C s0)(hsub:aF A (S s0))
  (round:∀ s,C s→U c x (al (fun B=>∃ s',C s'∧m s'<m s∧aF B (S s')) Q) (S s)):U c (.loop x) Q A:=by
 intro code hc a w hs;cases code <;>simp only[eL] at hc <;>try (first | (cases hc;done) | ((repeat' split at hc) <;>cases hc;done))
 rename_i cx;split at hc
 ·rename_i x' hx;simp only[u8,aM.loop.injEq] at hc;subst hc;refine ai8 (fun n a w=>∃ s,C s∧m s=n∧cn c (S s) a w) ?_ (m s0) a w ⟨s0,h0,rfl,hsub c a w hs⟩;rintro n a w ⟨s,hC,rfl,hs⟩;refine wpIn_mono (round s hC cx hx a w hs) ?_;rintro e a' w' ⟨B,hq,hs'⟩;cases e <;>simp only[al,Exit.then] at * <;>first
   |exact ⟨B,hq,hs'⟩
   |(obtain ⟨s',h1,h2,h3⟩:=hq;exact ⟨m s',h2,s',h1,rfl,h3 c a' w' hs'⟩)
 ·cases hc
end
inductive a6 where
 |tmp (t:Nat)
 |cell (a:Nat) (s:Option Nat)
def iz(P:Program):List ResultVar→Option (List a6)
 | []=>some []
 | .tmp t::l=>(iz P l).map (.tmp t :: ·)
 | .cell a t::l=>match fB P t,iz P l with
  |some s,some l=>some (.cell a s::l)
  |_,_=>none
def tA(A:ae):a6→Option I
 | .tmp t=>bg true A (A.t t)
 | .cell a s=>match cz A (A.t a) with
  |some x=>if bV s x then bg true A x else none
  |none=>none
def eQ(A:ae):List a6→Option (List I)
 | []=>some []
 |r::rs=>match tA A r,eQ A rs with
  |some x,some xs=>some (x::xs)
  |_,_=>none
def kF:List I→I
 | [x]=>x
 |xs=>.tuple xs
def ov(args:List I):ae:=⟨fun t=>args.getD t .undef,fun _=>none⟩
def jq(rs:List a6)(r:I):Exit→ae→Prop
 | .ret,A=>∃ xs,eQ A rs=some xs∧kF xs=r
 | .normal,A=>∃ xs,eQ A rs=some xs∧kF xs=r
 |_,_=>False
def pR(args:List I)(os:List (Nat×ah)):ae:=⟨fun t=>args.getD t .undef,aj os⟩
theorem aiN{P:Program}{n:Nat}{w:World}{D:aL}{E:aT}{Y:Value→List I→List (Nat×ah)→cR→Prop}{args:List I}{os:List (Nat×ah)}{vs:List Value}(hD:∀ b o,D b o→b<w.heap.size)(ho:kO (fun _=>True) w D E (aj os))
  (hv:aE w D E args vs) (hn:vs.length≤n) (hos:∀ m,aq os m=true→n≤m∧1000000≤m) (hy:oE ⟨P,w,D,n,dm E,E,Y,none⟩) :
  aP ⟨P,w,D,n,dm E,E,Y,none⟩ (pR args os) { tmps:=vs.toArray++Array.replicate (n-vs.toArray.size) undef,defers:=[] } w D E:=by
 refine ⟨by simp;omega,⟨[],rfl,.nil,fun _ h=>by simp at h⟩,fun t =>?_,fv.refl _ _,fun _ _ h _=>h,hD,fun m =>?_,ho.cM,fun m e h=>.inr ⟨e,h,.refl e⟩,fun m hm =>?_,fun _ _ h=>h,hy,.refl _ _⟩
 ·have key:∀ (args:List I) (vs:List Value) (t:Nat),aE w D E args vs→aS w D E (args.getD t .undef) (vs.getD t undef):=by
   intro args
   induction args with
   |nil=>intro vs t h;simp only[aE] at h;subst h;simp[aS]
   |cons x xs ih =>
    intro vs t h;simp only[aE] at h;obtain ⟨v,rest,cs,rfl,h1,h2,h3⟩:=h;cases t with
    |zero=>simpa using mf h1 h2
    |succ t=>simpa using ih rest t h3
  have:=key args vs t hv;have e:(vs.toArray++Array.replicate (n-vs.toArray.size) undef).getD t undef=vs.getD t undef:=by
   simp only[Array.getD_eq_getD_getElem?,zz1];rcases Nat.lt_or_ge t vs.length with h | h
   ·rw[Array.getElem?_append_left (by simpa using h)];simp
   ·rw[Array.getElem?_append_right (by simpa using h),List.getElem?_eq_none h];simp only[Array.getElem?_replicate];split <;>rfl
  simp only[pR];rw[e];exact this
 ·have h:=ho.bU m;simp only[pR];cases hx:aj os m with
  |none=>rw[hx] at h;exact h
  |some x =>
   rw[hx] at h;cases x with
   |box x =>
    obtain ⟨b,cs,T,k1,_,k3⟩:=h;exact ⟨b,cs,T,k1,.inr ⟨m,_,k1,rfl⟩,k3⟩
   |bT T sz es =>
    obtain ⟨aD,k1,k2,k3⟩:=h;refine ⟨aD,k1,k2,?_⟩;cases aD with
    |none=>exact k3
    |some bc =>
     obtain ⟨b,cap⟩:=bc;obtain ⟨cs,pre,rest,_,k4⟩:=k3;exact ⟨cs,pre,rest,.inr ⟨m,_,k1,rfl⟩,k4⟩
   |cO T xs =>
    obtain ⟨aD,k1,k2,k3⟩:=h;refine ⟨aD,k1,k2,?_⟩;cases aD with
    |none=>exact k3
    |some bc =>
     obtain ⟨b,cap⟩:=bc;obtain ⟨cs,rest,_,k4⟩:=k3;exact ⟨cs,rest,.inr ⟨m,_,k1,rfl⟩,k4⟩
   |dD x =>
    obtain ⟨b,k1,_,k3⟩:=h;exact ⟨b,k1,.inr ⟨m,_,k1,rfl⟩,k3⟩
   |cq ks vs =>
    obtain ⟨b,es,ck,k1,_,k3⟩:=h;exact ⟨b,es,ck,k1,.inr ⟨m,_,k1,rfl⟩,k3⟩
   |it ks vs left cur =>
    obtain ⟨r,b,es,ck,si,se,la,k1,_,k3⟩:=h;exact ⟨r,b,es,ck,si,se,la,k1,.inr ⟨m,_,k1,rfl⟩,k3⟩
 ·have h:=ho.bU m;refine hos m ?_;cases hx:aj os m with
  |none=>rw[hx] at h;exact absurd h hm
  |some x=>simp[aq,hx]
def qU(tmps:Array Value):ResultVar→Sem Value
 | .tmp t=>pure (tmps.getD t undef)
 | .cell a t=>do loadVar t (←asAddr (tmps.getD a undef))
theorem ahY(fn:Func)(tmps:Array Value):results fn tmps=(do
  let vs ←fn.results.mapM (qU tmps)
  pure (if h:vs.size=1 then vs[0] else .tuple vs)):=by
 unfold results;rfl
def tp(A:ae):a6→Option I
 | .tmp t=>some (A.t t)
 | .cell a s=>match cz A (A.t a) with
  |some x=>if bV s x then some x else none
  |none=>none
def my(A A0:ae)(os:List (Nat×ah)):List a6→List I→Prop
 | [],[]=>True
 |r::rs,y::ys=>(∃ x,tp A r=some x∧((y=x∧x.cd=true∧x.only (aq os)=true)∨bg true A0 x=some y))∧my A A0 os rs ys
 |_,_=>False
def ae.kK(A:ae)(os:List (Nat×ah)):ae:=⟨A.t,fun n=>if aq os n then none else A.o n⟩
def kQ(rs:List a6)(post:cR)(A:ae):Prop :=
 ∃ (os:List (Nat×ah)) (xs:List I),(∀ n x,aj os n=some x→A.o n=some x∧x.only (aq os)=true∧x.eH=true)∧my A (A.kK os) os rs xs∧post (kF xs) os
def nk(rs:List a6)(post:cR):Exit→ae→Prop
 | .ret,A=>kQ rs post A
 | .normal,A=>kQ rs post A
 |_,_=>False
theorem x6{c:cI}{A:ae}{a:Act}{w:World}{D:aL}{E:aT}(hs:aP c A a w D E){A0:ae}(hu:eb A0 A){os:List (Nat×ah)}{D':aL}{E':aT}(hw:gV true A0 D E D')(av:∀ n,aq os n=true→E' n=E n)(hE':∀ n,aq os n=false→E' n=none) :
  ∀ (rs:List ResultVar) (ls:List a6) (xs:List I),iz c.P rs=some ls→my A A0 os ls xs→∃ vs:List Value,(rs.mapM (qU a.tmps)).run c.P w=.ok vs w∧aE w D' E' xs vs
 | [],ls,xs,hc,hr=>by
  simp only[iz,u8] at hc;subst hc;cases xs with
  |nil=>exact ⟨[],by simp,by simp[aE]⟩
  |cons x xs=>simp[my] at hr
 |r::rs,ls,xs,hc,hr=>by
  have hl:dG w D E' w D' E':=⟨hw.cV,fun _ _ _ _ h=>h,fun _ _ _ h=>h,fun _ aD l h=>⟨aD,l,h,zz6 _,fun _=>rfl⟩,fun _ _ h=>h,fun _ _ h=>h,fun _ _ _ _ h=>h⟩
  have fin1:∀ {x y:I} {v:Value},aS w D E x v→((y=x∧x.cd=true∧x.only (aq os)=true)∨bg true A0 x=some y)→∃ cs,bG y v cs∧af w D' E' y cs:=by
   intro x y v hv hf;rcases hf with ⟨rfl,h1,h2⟩ | hf
   ·have h3:=aS.bE hl (aS.dq av h2 hv);cases y <;>simp only[aS] at h3 <;>first | (simp[I.cd] at h1;done) | exact h3
   ·have h1:aE w D E [x] [v]:=lL [x] [v] (.cons hv .nil) (by
     intro z hz;simp only[List.mem_singleton] at hz;subst hz;cases z <;>simp_all[bg,I.cd])
    have h2:=lq (E':=E') hs hu hw [x] [y] [v] h1 (by simp[bX,hf]);simp only[aE] at h2;obtain ⟨v',rest,cs,e,k1,k2,_⟩:=h2;simp only[List.cons.injEq] at e;obtain ⟨rfl,_⟩:=e;exact ⟨cs,k1,k2⟩
  cases r with
  |tmp t =>
   simp only[iz,zz0] at hc;obtain ⟨ls',hl',rfl⟩:=hc;cases xs with
   |nil=>simp[my] at hr
   |cons y ys =>
    simp only[my] at hr;obtain ⟨⟨x,h1,h2⟩,h3⟩:=hr;simp only[tp,u8] at h1;subst h1;obtain ⟨vs,k1,k2⟩:=x6 hs hu hw av hE' rs ls' ys hl' h3;obtain ⟨cs,k3,k4⟩:=fin1 (hs.ea t) h2;refine ⟨a.tmps.getD t undef::vs,?_,?_⟩
    ·simp only[List.mapM_cons,Sem.run_bind,qU,Sem.run_pure,Result.andThen_ok,k1]
    ·simp only[aE];exact ⟨_,vs,cs,rfl,k3,k4,k2⟩
  |cell ad t =>
   simp only[iz] at hc;split at hc
   ·rename_i s ls' hk hl';simp only[u8] at hc;subst hc;cases xs with
    |nil=>simp[my] at hr
    |cons y ys =>
     simp only[my] at hr;obtain ⟨⟨x,h1,h2⟩,h3⟩:=hr;obtain ⟨vs,k1,k2⟩:=x6 hs hu hw av hE' rs ls' ys hl' h3;simp only[tp] at h1;split at h1
     ·rename_i z hz;split at h1
      ·rename_i hok;simp only[u8] at h1;subst h1;obtain ⟨b,off,cs,q1,q2,q3⟩:=hs.zF (hs.ea ad) hz;obtain ⟨v,q4,q5⟩:=M4 hk hok q2 q3;obtain ⟨cs',k3,k4⟩:=fin1 q5 h2;refine ⟨v::vs,?_,?_⟩
       ·have e:(qU a.tmps (.cell ad t)).run c.P w=.ok v w:=by
         simp only[qU,Sem.run_bind,q1,asAddr,Sem.run_pure,Result.andThen_ok,q4]
        simp only[List.mapM_cons,Sem.run_bind,Sem.run_pure,Result.andThen_ok,k1,e]
       ·simp only[aE];exact ⟨_,vs,cs',rfl,k3,k4,k2⟩
      ·cases h1
     ·cases h1
   ·cases hc
theorem aP.Up{c:cI}{A:ae}{a:Act}{w:World}{D:aL}{E:aT}(h:aP c A a w D E){B:Nat}{ds:List Deferred}(hd:a.defers = { target:=.collected B,args := #[] } :: ds) :
  w.heap[B]?=some (.deferred (some []))∧aP c A { a with defers:=ds } (w.putObj B (.deferred none)) D E:=by
 obtain ⟨Bs,h1,h2,h3⟩:=h.eF;rw[hd] at h1;cases Bs with
 |nil=>cases h1
 |cons B' Bs =>
  simp only[zz9,List.cons.injEq,Deferred.mk.injEq,Target.collected.injEq,and_true] at h1;obtain ⟨rfl,rfl⟩:=h1;have hB:=h3 B (by simp);have hlt:B<w.heap.size:=(zx8.1 hB.2).1;have hl:dG w D E (w.putObj B (.deferred none)) D E :=
   ⟨fun _ _ h=>h,fun b o v _ hv=>uI hB.2 rfl hv,fun _ _ _ h=>h,fun _ aD l h=>⟨aD,l,h,zz6 _,fun _=>rfl⟩,fun _ _ h=>h,fun _ _ h=>h,fun b es ck _ hm=>(World.putObj_heap_other (fun e=>by rw[e,hB.2] at hm;cases hm)).trans hm⟩
  have hne:∀ {b:Nat} {cs:Array Value} {T:TypeId},w.heap[b]?=some (.cells cs T (0,0))→(w.putObj B (.deferred none)).heap[b]?=w.heap[b]?:=fun {b cs T} hb =>
   World.putObj_heap_other (fun e=>by rw[e,hB.2] at hb;cases hb)
  refine ⟨hB.2,h.sz,⟨Bs,rfl,(List.nodup_cons.1 h2).2,fun B2 hB2=>⟨(h3 B2 (by simp[hB2])).1,?_⟩⟩,fun t=>aS.bE hl (h.ea t),h.dK.trans ⟨rfl,rfl,rfl,by simp,fun k hk =>?_⟩,h.cV,fun b o hd=>by have:=h.c9 b o hd;simpa using this,fun n =>?_,h.cM,h.dQ,h.eO,h.cG,h.eS,h.kL hl⟩
  ·rw[World.putObj_heap_other (fun e=>(List.nodup_cons.1 h2).1 (by rw[←e];exact hB2))];exact (h3 B2 (by simp[hB2])).2
  ·exact World.putObj_heap_other (fun e=>hk (e▸.inl hB.1))
  ·refine (h.bU n).bE hl rfl fun e b he hb=>⟨?_,fun _ h=>h⟩
   have hob:=h.bU n;unfold cY at hob;split at hob
   ·rw[hob] at he;cases he
   ·obtain ⟨b',cs,T,k1,_,k3,_⟩:=hob;rw[k1,u8] at he;subst he;simp only[bS.aD,u8] at hb;subst hb;exact hne k3
   ·obtain ⟨aD,k1,_,k3⟩:=hob;rw[k1,u8] at he;subst he;split at k3
    ·simp[bS.aD] at hb
    ·obtain ⟨cs,pre,rest,_,k5,_⟩:=k3;simp only[bS.aD,u8] at hb;subst hb;exact hne k5
   ·obtain ⟨b',k1,_,k3,k4,_⟩:=hob;rw[k1,u8] at he;subst he;simp only[bS.aD,u8] at hb;subst hb;exact World.putObj_heap_other (fun e=>by rw[e,hB.2] at k3;cases k3;cases k4)
   ·obtain ⟨b',es,ck,k1,_,k3,_⟩:=hob;rw[k1,u8] at he;subst he;cases hb;exact World.putObj_heap_other (fun e=>by rw[e,hB.2] at k3;cases k3)
   ·obtain ⟨r,b',es,ck,si,se,la,k1,_,k3,_⟩:=hob;rw[k1,u8] at he;subst he;cases hb;exact World.putObj_heap_other (fun e=>by rw[e,hB.2] at k3;cases k3)
   ·obtain ⟨aD,k1,_,k3⟩:=hob;rw[k1,u8] at he;subst he;split at k3
    ·simp[bS.aD] at hb
    ·obtain ⟨cs,m,_,k5,_⟩:=k3;simp only[bS.aD,u8] at hb;subst hb;exact hne k5
def ui(w:World)(D:aL)(E:aT)(post:cR)(v:Value)(w':World):Prop :=
 ∃ D' E' r os',post r os'∧aS w' D' E' r v∧kO (fun b=>w.heap.size≤b∨dm E b) w' D' E' (aj os') ∧
  fv (fun b=>w.heap.size≤b∨dm E b) w w'∧(∀ b o,D b o→D' b o)∧(∀ b o,D' b o→b<w'.heap.size)∧(∀ b o,D' b o→b<w.heap.size→¬ dm E b→D b o) ∧
  (∀ n e,E n=some e→aq os' n=true→∃ e',E' n=some e'∧e.le e')∧gU w D w'
theorem aP.JE{P:Program}{n:Nat}{w:World}{D:aL}{E:aT}{Y:Value→List I→List (Nat×ah)→cR→Prop}{mz:Option Nat}{A:ae}{a:Act}{w':World}{D':aL}{E':aT}
  (hs:aP ⟨P,w,D,n,dm E,E,Y,mz⟩ A a w' D' E') {os:List (Nat×ah)} (h1:∀ n x,aj os n=some x→A.o n=some x∧x.only (aq os)=true∧x.eH=true) :
  ∃ D2 E2,gV true (A.kK os) D' E' D2∧(∀ n,aq os n=true→E2 n=E' n)∧(∀ n,aq os n=false→E2 n=none)∧kO (fun b=>w.heap.size≤b∨dm E b) w' D2 E2 (aj os) ∧
   fv (fun b=>w.heap.size≤b∨dm E b) w w'∧(∀ b o,D b o→D2 b o)∧(∀ b o,D2 b o→b<w'.heap.size)∧(∀ b o,D2 b o→b<w.heap.size→¬ dm E b→D b o) ∧
   (∀ n e,E n=some e→aq os n=true→∃ e',E2 n=some e'∧e.le e')∧gU w D w':=by
 obtain ⟨c,hc⟩:∃ c:cI,c=⟨P,w,D,n,dm E,E,Y,mz⟩:=⟨_,rfl⟩
 rw[←hc] at hs;have hM:c.eU=fun b=>w.heap.size≤b∨dm E b:=by rw[hc];rfl
 obtain ⟨E2,hE2⟩:∃ E2:aT,E2=fun n=>if aq os n then E' n else none:=⟨_,rfl⟩
 obtain ⟨D2,hD2⟩:∃ D2:aL,D2=fun b o=>b<w'.heap.size∧(D' b o∨(¬ dm E2 b∧c.eU b)):=⟨_,rfl⟩
 have e2:∀ n,aq os n=true→E2 n=E' n:=fun n hn=>by rw[hE2];simp only[hn,if_true]
 have cut:∀ n e,E2 n=some e→aq os n=true∧E' n=some e:=fun n e he=>by
  rw[hE2] at he;simp only at he;split at he
  ·exact ⟨by assumption,he⟩
  ·cases he
 have up2:∀ b o,D' b o→D2 b o:=fun b o hd=>by
  rw[hD2];exact ⟨hs.c9 b o hd,.inl hd⟩
 have down:∀ b o,D2 b o→dm E2 b→D' b o:=fun b o hd hb=>by
  rw[hD2] at hd;rcases hd.2 with h | h
  ·exact h
  ·exact absurd hb h.1
 have hu:eb (A.kK os) A:=fun n x hx=>by
  simp only[ae.kK] at hx;split at hx
  ·cases hx
  ·exact hx
 have notOwn:∀ n e b,(A.kK os).o n≠none→E' n=some e→e.aD=some b→¬ dm E2 b:=fun n e b hn he hb ho=>by
  obtain ⟨m,e',k1,k3⟩:=ho;obtain ⟨k1,k2⟩:=cut m e' k1;have:=hs.cM n m e _ b he k2 hb k3;subst this;simp[ae.kK,k1] at hn
 have hw:gV true (A.kK os) D' E' D2:=by
  refine ⟨up2,fun n T sz es b cap hn av o _ =>?_,fun _ n x b aJ hn av o _ =>?_,fun _ n ks vs b hn av =>?_⟩
  ·rw[hD2];refine ⟨hs.fG av rfl,.inr ⟨notOwn n _ b (by rw[hn];simp) av rfl,?_⟩⟩;obtain ⟨aD,k1,k2,k3⟩:=hs.bT (hu n _ hn);rw[av] at k1;simp only[u8,bS.rw.injEq,and_true] at k1;subst k1;obtain ⟨_,_,_,k4,_⟩:=k3;exact k4
  ·rw[hD2];refine ⟨hs.fG av rfl,.inr ⟨notOwn n _ b (by rw[hn];simp) av rfl,?_⟩⟩;obtain ⟨b',cs,T,k1,k2,_⟩:=hs.box (hu n _ hn);rw[k1] at av;simp only[u8,bS.aB.injEq] at av;obtain ⟨rfl,_⟩:=av;exact k2
  ·rw[hD2];refine ⟨hs.fG av rfl,.inr ⟨notOwn n _ b (by rw[hn];simp) av rfl,?_⟩⟩;obtain ⟨b',es,ck,k1,k2,_⟩:=hs.map (hu n _ hn);rw[k1] at av;cases av;exact k2
 have hst:gU w D w':=by
  have:=hs.fq;rw[hc] at this;exact this
 refine ⟨D2,E2,hw,e2,fun n hn=>by rw[hE2];simp[hn],⟨fun m =>?_,fun m m' e e' b g1 g2 g3 g4 =>?_⟩,?_,fun b o hd=>up2 b o (hs.cG b o (by rw[hc];exact hd)),fun b o hd=>by rw[hD2] at hd;exact hd.1,fun b o hd hlt hno =>?_,fun m e hm hin =>?_,hst⟩
 ·cases hx:aj os m with
  |none=>simp only[cY];rw[hE2];simp[aq,hx]
  |some x =>
   have hm:aq os m=true:=by simp[aq,hx]
   obtain ⟨k1,k2,k3⟩:=h1 m x hx;have ho:=hs.bU m;rw[k1] at ho;have hl2:dG w' D' E2 w' D2 E2:=⟨up2,fun _ _ _ _ h=>h,fun _ _ _ h=>h,fun _ aD l h=>⟨aD,l,h,zz6 _,fun _=>rfl⟩,fun _ _ h=>h,fun _ _ h=>h,fun _ _ _ _ h=>h⟩
   have nD:∀ e b,E' m=some e→e.aD=some b→∀ o,D2 b o→D' b o:=fun e b he hb o hd=>down b o hd ⟨m,e,(e2 m hm).trans he,hb⟩;cases x with
   |bT T sz es =>
    obtain ⟨aD,q1,q2,q3⟩:=ho;refine ⟨aD,(e2 m hm).trans q1,q2,?_⟩;cases aD with
    |none=>exact q3
    |some bc =>
     obtain ⟨b,cap⟩:=bc;obtain ⟨cs,pre,rest,g1,g2,g3,g4,g5,g6,g7,g8⟩:=q3;exact ⟨cs,pre,rest,by rw[←hM];exact g1,g2,g3,aG.bE hl2 _ _ (aG.dq e2 _ _ (by simpa[ah.only] using k2) g4),g5,g6,g7,fun o hd=>g8 o (nD _ b q1 rfl o hd)⟩
   |box y =>
    obtain ⟨b',cs,T,q1,q2,q3,q4,q5⟩:=ho;exact ⟨b',cs,T,(e2 m hm).trans q1,by rw[←hM];exact q2,q3,af.bE hl2 _ _ (af.dq e2 _ _ (by simpa[ah.only] using k2) q4),fun o hd=>q5 o (nD _ b' q1 rfl o hd)⟩
   |dD o =>
    obtain ⟨b',q1,q2,q3,q4,q5⟩:=ho;exact ⟨b',(e2 m hm).trans q1,by rw[←hM];exact q2,q3,q4,fun o hd=>q5 o (nD _ b' q1 rfl o hd)⟩
   |cq ks vs =>
    obtain ⟨b',es,ck,q1,q2,q3,q4,q5,q6,q7⟩:=ho;simp only[ah.only,zz2] at k2;exact ⟨b',es,ck,(e2 m hm).trans q1,by rw[←hM];exact q2,q3,q4,aE.bE hl2 _ _ (aE.dq e2 _ _ k2.1 q5),aE.bE hl2 _ _ (aE.dq e2 _ _ k2.2 q6),fun o hd=>q7 o (nD _ b' q1 rfl o hd)⟩
   |it ks vs left cur=>cases k3
   |cO T xs =>
    obtain ⟨aD,q1,q2,q3⟩:=ho;refine ⟨aD,(e2 m hm).trans q1,q2,?_⟩;cases aD with
    |none=>exact q3
    |some bc =>
     obtain ⟨b,cap⟩:=bc;obtain ⟨cs,r,g1,g2,g3,g4,g5,g6,g7⟩:=q3;exact ⟨cs,r,by rw[←hM];exact g1,g2,g3,g4,g5,g6,fun o hd=>g7 o (nD _ b q1 rfl o hd)⟩
 ·exact hs.cM m m' e e' b (cut m e g1).2 (cut m' e' g2).2 g3 g4
 ·rw[←hM];have:=hs.dK;rw[hc] at this ⊢;exact this
 ·rw[hD2] at hd;have hnm:¬ c.eU b:=by
    rw[hM];rintro (h | h);· omega
    ·exact hno h
  rcases hd.2 with h | h
  ·have:=hs.cV b o h hnm;rw[hc] at this;exact this
  ·exact absurd h.2 hnm
 ·rw[e2 m hin];have ho:A.o m≠none:=by
   cases hx:aj os m with
   |none=>simp[aq,hx] at hin
   |some x=>rw[(h1 m x hx).1];simp
  rcases hs.dQ m e (by rw[hc];exact hm) with h | h
  ·have hob:=hs.bU m;cases hx:A.o m with
   |none=>exact absurd hx ho
   |some x=>rw[hx] at hob;exact absurd h (s9 hob)
  ·exact h
theorem aP.aft{P:Program}{n:Nat}{w:World}{D:aL}{E:aT}{Y:Value→List I→List (Nat×ah)→cR→Prop}{rs:List a6}{post:cR}{fn:Func}{A:ae}{a:Act}{w':World}{D':aL}{E':aT}
  (hs:aP ⟨P,w,D,n,dm E,E,Y,none⟩ A a w' D' E') (hrs:iz P fn.results.toList=some rs) (h:kQ rs post A):∃ v,(results fn a.tmps).run P w'=.ok v w'∧ui w D E post v w':=by
 obtain ⟨os,xs,h1,h2,h3⟩:=h;obtain ⟨D2,E2,hw,e2,e2n,q1,q2,q3,q4,q5,q6⟩:=hs.JE h1;have hu:eb (A.kK os) A:=fun n x hx=>by
  simp only[ae.kK] at hx;split at hx
  ·cases hx
  ·exact hx
 obtain ⟨vs,k1,k2⟩:=x6 hs hu (os:=os) (E':=E2) hw e2 e2n fn.results.toList rs xs hrs h2;have hres:(results fn a.tmps).run P w'=.ok (if h:vs.toArray.size=1 then vs.toArray[0] else .tuple vs.toArray) w':=by
  rw[ahY,Sem.run_bind,Array.mapM_eq_mapM_toList,Sem.run_map,k1];rfl
 refine ⟨_,hres,D2,E2,kF xs,os,h3,?_,q1,q2,q3,q4,q5,q6⟩
 match xs,vs,k2 with
 | [x],vs,k2 =>
  simp only[aE] at k2;obtain ⟨v,rest,cs,rfl,q1,q2,rfl⟩:=k2;simpa[kF] using mf q1 q2
 | [],vs,k2 =>
  simp only[aE] at k2;subst k2;simp[kF,aS,aE]
 |x::y::xs,vs,k2 =>
  have hl:vs.length≠1:=by
   simp only[aE] at k2;obtain ⟨v,rest,cs,rfl,_,_,v2,rest2,cs2,rfl,_⟩:=k2;simp
  simp only[kF,aS];exact ⟨vs,by simp[hl],k2⟩
theorem JF{P:Program}{n:Nat}{w:World}{D:aL}{E:aT}{Y:Value→List I→List (Nat×ah)→cR→Prop}{rs:List a6}{post:cR}{fn:Func}{A:ae}{D':aL}{E':aT}(hrs:iz P fn.results.toList=some rs)(h:kQ rs post A) :
  ∀ (ds:List Deferred) (a:Act) (w':World),a.defers=ds→aP ⟨P,w,D,n,dm E,E,Y,none⟩ A a w' D' E'→LeavesInM Fence.wide 9 P fn a.tmps (fun e w'=>∃ v,e=.returned v∧ui w D E post v w') ds .returning w'
 | [],a,w',_,hs=>by
  obtain ⟨v,h1,h2⟩:=hs.aft hrs h;exact ⟨v,h1,v,rfl,h2⟩
 |d::ds,a,w',hd,hs=>by
  obtain ⟨Bs,h1,_⟩:=hs.eF;rw[hd] at h1;cases Bs with
  |nil=>cases h1
  |cons B Bs =>
   simp only[zz9,List.cons.injEq] at h1;obtain ⟨rfl,rfl⟩:=h1;obtain ⟨k1,k2⟩:=hs.Up hd;exact ⟨by simp,.inl ⟨B,_,rfl,run_takeDeferred k1,JF hrs h _ { a with defers:=Bs.map _ } _ rfl k2⟩⟩
theorem yi{w:World}{D:aL}{E:aT} : ∀ {args:List I} {vs:List Value},aE w D E args vs→vs.length=args.length
 | [],vs,h=>by simp only[aE] at h;subst h;rfl
 |x::xs,vs,h=>by
  simp only[aE] at h;obtain ⟨v,rest,cs,rfl,_,_,h3⟩:=h;simp[yi h3]
def ke(P:Program)(f:FuncId)(Y:Value→List I→List (Nat×ah)→cR→Prop)(args:List I)(os:List (Nat×ah))(post:cR):Prop :=
 gC P f=true∧∀ (w:World) (D:aL) (E:aT) (vs:List Value),(∀ n,oE ⟨P,w,D,n,dm E,E,Y,none⟩)→(∀ b o,D b o→b<w.heap.size)→kO (fun _=>True) w D E (aj os)→aE w D E args vs →
  Calls P f vs.toArray w fun e w'=>∃ v,e=.returned v∧ui w D E post v w'
theorem ke.ta{P:Program}{f:FuncId}{fn:Func}{body:Code}{x:aM}{rs:List a6}{Y:Value→List I→List (Nat×ah)→cR→Prop}{args:List I}{os:List (Nat×ah)}{post:cR}(hf:P.funcs[f]?=some fn)(hb:fn.body=some body)(hcall:gC P f=true)(hc:eL P fn.ntmps body=some x)
  (hrs:iz P fn.results.toList=some rs) (hn:args.length≤fn.ntmps) (hos:∀ m,aq os m=true→fn.ntmps≤m∧1000000≤m) (h:∀ (w:World) (D:aL) (E:aT),U ⟨P,w,D,fn.ntmps,dm E,E,Y,none⟩ x (nk rs post) (pR args os)):ke P f Y args os post:=by
 refine ⟨hcall,fun w D E vs hy hD ho hv =>?_⟩;have hlen:=yi hv;have hsim:=aiN (P:=P) (n:=fn.ntmps) (Y:=Y) hD ho hv (by omega) hos (hy fn.ntmps);refine (callsIn_wide (n:=9)).1 (callsIn_of_wp_marks hf hb trivial ?_);refine wpIn_mono (h w D E body hc _ w ⟨D,E,hsim⟩) ?_;rintro e a w' ⟨A,hq,D',E',hs⟩;cases e <;>simp only[nk] at hq <;>first
  |exact JF hrs hq a.defers a w' rfl hs
  |cases hq
theorem ajd{P:Program}{w:World}{D:aL}{E:aT}{n:Nat} : oE ⟨P,w,D,n,dm E,E,ig,none⟩:=fun _ _ _ _ h=>h.elim
theorem cC.J9{P:Program}{f:FuncId}{args:List I}{os:List (Nat×ah)}{post:cR}(h:ke P f ig args os post):cC P f args os post :=
 ⟨h.1,fun w D E vs _ hD ho hv=>(h.2 w D E vs (fun _=>ajd) hD ho hv).mono fun e w' ⟨v,he,D',E',r,os',k⟩=>⟨v,D',E',r,os',he,k⟩⟩
theorem aC.agQ{P:Program}{f:FuncId}{args:List I}{r:I}(h:cC P f args [] (fun r' os'=>r'=r∧os'=[])):aC P f args r:=by
 refine ⟨h.1,fun w D vs hD hv =>?_⟩;have hh:kO (fun _=>True) w D dL (aj []):=⟨fun n=>rfl,fun n m e e' b h=>by simp[dL] at h⟩
 refine (h.2 w D dL vs trivial hD hh hv).mono fun e w' hq =>?_;obtain ⟨v,D',E',r',os',he,⟨h1,h2⟩,k1,k2,k3,k4,k5,k6,_⟩:=hq;subst h1 h2;refine ⟨v,D',he,?_,?_,k5,fun b o hd hlt=>k6 b o hd hlt fun ⟨n,e,h,_⟩=>by simp[dL] at h⟩
 ·have:E'=dL:=by funext n;exact k2.bU n
  rw[←this];exact k1
 ·exact k3.P8 fun k hk hm=>by
   rcases hm with hm | ⟨n,e,h,_⟩
   ·omega
   ·simp[dL] at h
theorem aic(A:ae):A.kK []=A:=rfl
theorem MS{A:ae} : ∀ {rs:List a6} {xs:List I},eQ A rs=some xs→my A (A.kK []) [] rs xs
 | [],xs,h=>by simp only[eQ,u8] at h;subst h;trivial
 |r::rs,xs,h=>by
  simp only[eQ] at h;split at h
  ·rename_i x xs' h1 h2;simp only[u8] at h;subst h;refine ⟨?_,MS h2⟩;rw[aic];cases r with
   |tmp t=>exact ⟨_,rfl,.inr h1⟩
   |cell a s =>
    simp only[tA,tp] at h1 ⊢;split at h1
    ·rename_i y hy;split at h1
     ·rename_i hok;exact ⟨y,by simp[hok],.inr h1⟩
     ·cases h1
    ·cases h1
  ·cases h
theorem ahZ{rs:List a6}{r:I}{e:Exit}{A:ae}(h:jq rs r e A):nk rs (fun r' os'=>r'=r∧os'=[]) e A:=by
 cases e <;>simp only[jq] at h <;>first
  |exact h.elim
  |(obtain ⟨xs,h1,h2⟩:=h
    exact ⟨[],xs,fun n x hx=>by simp[aj] at hx,MS h1,h2,rfl⟩)
theorem aC.ta{P:Program}{f:FuncId}{fn:Func}{body:Code}{x:aM}{rs:List a6}{args:List I}{r:I}(hf:P.funcs[f]?=some fn)(hb:fn.body=some body)(hcall:gC P f=true)(hc:eL P fn.ntmps body=some x)
  (hrs:iz P fn.results.toList=some rs) (hn:args.length≤fn.ntmps) (h:∀ (w:World) (D:aL) (E:aT),U ⟨P,w,D,fn.ntmps,dm E,E,ig,none⟩ x (jq rs r) (ov args)):aC P f args r:=by
 refine aC.agQ (cC.J9 (ke.ta hf hb hcall hc hrs hn (fun m hm=>by simp[aq,aj] at hm) fun w D E =>?_));exact (h w D E).mono fun e B hq=>ahZ hq
end Go.Abs
namespace Go.Abs
open Go Go.RowKit
def aV(ts:List (Nat×I)):List (Nat×I)→Prop
 | []=>True
 |(k,v)::r=>b9 ts k=v∧aV ts r
def bO(os:List (Nat×ah)):List (Nat×ah)→Prop
 | []=>True
 |(k,v)::r=>aj os k=some v∧bO os r
def bM(p:Nat→Bool):List (Nat×I)→Prop
 | []=>True
 |(_,v)::r=>v.only p=true∧bM p r
theorem yz{ts:List (Nat×I)} : ∀ {ts':List (Nat×I)},aV ts ts'→∀ k,b9 ts' k=.c8∨b9 ts' k=b9 ts k
 | [],_,k=>.inl rfl
 |(j,v)::r,h,k=>by
  simp only[aV] at h;simp only[b9];split
  ·rename_i hk;subst hk;exact .inr h.1.symm
  ·exact yz h.2 k
theorem NF{os:List (Nat×ah)} : ∀ {os':List (Nat×ah)},bO os os'→∀ k,aj os' k=none∨aj os' k=aj os k
 | [],_,k=>.inl rfl
 |(j,v)::r,h,k=>by
  simp only[bO] at h;simp only[aj];split
  ·rename_i hk;subst hk;exact .inr h.1.symm
  ·exact NF h.2 k
theorem Ky{p:Nat→Bool} : ∀ {ts:List (Nat×I)},bM p ts→∀ k,(b9 ts k).only p=true
 | [],_,k=>by simp[b9,I.only]
 |(j,v)::r,h,k=>by
  simp only[bM] at h;simp only[b9];split
  ·exact h.1
  ·exact Ky h.2 k
theorem Kx{p:Nat→Bool} : ∀ {os:List (Nat×ah)},br p os→∀ k x,aj os k=some x→x.only p=true
 | [],_,k,x,hx=>by simp[aj] at hx
 |(j,v)::r,h,k,x,hx=>by
  simp only[br] at h;simp only[aj] at hx;split at hx
  ·simp only[u8] at hx;subst hx;exact h.1
  ·exact Kx h.2 k x hx
theorem aF.bY{ts ts':List (Nat×I)}{os os':List (Nat×ah)}(h1:aV ts ts')(h2:bO os os')(h3:bM (aq os') ts')(h4:br (aq os') os'):aF (ar ts os) (ar ts' os'):=by
 rintro c a w ⟨D,E,hs⟩;have hp:∀ n,aq os' n=true→(if aq os' n then E n else none)=E n:=fun n hn=>by simp[hn]
 refine ⟨D,fun n=>if aq os' n then E n else none,hs.sz,hs.eF,fun t =>?_,hs.dK,hs.cV,hs.c9,fun n =>?_,fun n m e e' b h1 h2 h3 h4 =>?_,fun n e hn =>?_,hs.eO,hs.cG,hs.eS,hs.fq⟩
 ·have:=yz h1 t;rcases this with h | h
  ·simp only[ar];rw[h];simp[aS]
  ·refine aS.dq (p:=aq os') hp (Ky h3 t) ?_;have:=hs.ea t;simp only[ar] at *;rw[h];exact this
 ·have ho:=hs.bU n;simp only[ar] at *;rcases NF h2 n with h | h
  ·rw[h];simp[cY,aq,h]
  ·rw[h];by_cases hin:aj os n=none
   ·rw[hin];simp[cY,aq,h,hin]
   ·have av:(if aq os' n then E n else none)=E n:=hp n (by simp[aq,h];cases hh:aj os n <;>simp_all);cases hx:aj os n with
    |none=>exact absurd hx hin
    |some x =>
     have hon:=Kx h4 n x (h.trans hx);rw[hx] at ho;cases x with
     |box x =>
      obtain ⟨b,cs,T,k1,k2,k3,k4,k5⟩:=ho;exact ⟨b,cs,T,av.trans k1,k2,k3,af.dq hp _ _ (by simpa[ah.only] using hon) k4,k5⟩
     |bT T sz es =>
      obtain ⟨aD,k1,k2,k3⟩:=ho;refine ⟨aD,av.trans k1,k2,?_⟩;cases aD with
      |none=>exact k3
      |some bc =>
       obtain ⟨b,cap⟩:=bc;obtain ⟨cs,pre,rest,q1,q2,q3,q4,q5⟩:=k3;exact ⟨cs,pre,rest,q1,q2,q3,aG.dq hp _ _ (by simpa[ah.only] using hon) q4,q5⟩
     |cO T xs =>
      obtain ⟨aD,k1,k2,k3⟩:=ho;exact ⟨aD,av.trans k1,k2,k3⟩
     |dD x =>
      obtain ⟨b,k1,k2⟩:=ho;exact ⟨b,av.trans k1,k2⟩
     |cq ks vs =>
      obtain ⟨b,es,ck,k1,k2,k3,k4,k5,k6,k7⟩:=ho;simp only[ah.only,zz2] at hon;exact ⟨b,es,ck,av.trans k1,k2,k3,k4,aE.dq hp _ _ hon.1 k5,aE.dq hp _ _ hon.2 k6,k7⟩
     |it ks vs left cur =>
      obtain ⟨r,b,es,ck,si,se,la,k1,k2,k3,k4,k5,k6,k7⟩:=ho;simp only[ah.only,zz2] at hon;exact ⟨r,b,es,ck,si,se,la,av.trans k1,k2,k3,k4,aE.dq hp _ _ hon.1 k5,aE.dq hp _ _ hon.2 k6,k7⟩
 ·refine hs.cM n m e e' b ?_ ?_ h3 h4
  ·split at h1
   ·exact h1
   ·cases h1
  ·split at h2
   ·exact h2
   ·cases h2
 ·by_cases hi:aq os' n=true
  ·simp only[hi,if_true];exact hs.dQ n e hn
  ·simp only[hi];exact .inl rfl
def bj:Nat→List I→List (Nat×I)
 |_,[]=>[]
 |k,a::as=>(k,a)::bj (k+1) as
theorem JO:∀ (as:List I) (k t:Nat),b9 (bj k as) t=if t<k then .c8 else (as[t-k]?).getD .c8
 | [],k,t=>by simp[bj,b9]
 |a::as,k,t=>by
  simp only[bj,b9,JO as (k+1) t];by_cases h:t=k
  ·subst h;simp
  ·rw[if_neg h];by_cases h2:t<k
   ·rw[if_pos (by omega),if_pos h2]
   ·rw[if_neg (by omega),if_neg h2,show t-k=(t-(k+1))+1 from by omega];simp
theorem ND(args:List I)(os:List (Nat×ah)):aF (pR args os) (ar (bj 0 args) os):=by
 rintro c a w ⟨D,E,hs⟩;refine ⟨D,E,hs.sz,hs.eF,fun t =>?_,hs.dK,hs.cV,hs.c9,hs.bU,hs.cM,hs.dQ,hs.eO,hs.cG,hs.eS,hs.fq⟩;have:=hs.ea t;simp only[ar,JO,pR,Nat.not_lt_zero,if_false,Nat.sub_zero] at *;cases h:args[t]? with
 |none=>simp[aS]
 |some x=>simpa[zz1,h] using this
theorem aiM(args:List I):aF (ov args) (ar (bj 0 args) []):=ND args []
theorem sR(ts:List (Nat×I))(os:List (Nat×ah))(d:Nat)(v:I):(ar ts os).put d v=ar ((d,v)::ts) os:=rfl
theorem afS(ts:List (Nat×I))(os:List (Nat×ah))(d:Nat)(v:I):(ar ts os).aK (some d) v=ar ((d,v)::ts) os:=rfl
theorem afR(A:ae)(v:I):A.aK none v=A:=rfl
theorem nV(ts:List (Nat×I))(os:List (Nat×ah))(d:Nat)(x:ah):(ar ts os).aN d x=ar ts ((d,x)::os):=rfl
theorem afT(ts:List (Nat×I))(os:List (Nat×ah))(k:Nat):(ar ts os).t k=b9 ts k:=rfl
theorem afQ(ts:List (Nat×I))(os:List (Nat×ah))(k:Nat):(ar ts os).o k=aj os k:=rfl
theorem aW(j:Nat)(v:I)(r:List (Nat×I))(k:Nat):b9 ((j,v)::r) k=if k=j then v else b9 r k:=rfl
theorem ct(j:Nat)(v:ah)(r:List (Nat×ah))(k:Nat):aj ((j,v)::r) k=if k=j then some v else aj r k:=rfl
theorem sL(k:Nat):aj [] k=none:=rfl
theorem u7(A:ae)(k:Nat):ab A (.t k)=A.t k:=rfl
theorem XT(A:ae)(x:I):ab A (.c x)=x:=rfl
noncomputable def c7(d:Option Nat)(rest:List az)(A:ae)(v:I):cE:=aA rest (A.aK d v)
theorem afd(d:Option Nat)(rest:List az)(A:ae)(v:I):c7 d rest A v=aA rest (A.aK d v):=rfl
theorem Qs(v:I)(k:I→cE):cK (some v) k=k v:=rfl
theorem PN(A:ae):aA [] A=.done A:=rfl
noncomputable def bN(A:ae)(d:Option Nat)(op:b7)(rest:List az):cE:=a7 A d op rest (aA rest)
noncomputable def gG(x:I)(b:Bool)(d:Option Nat)(op:b7)(rest:List az)(A:ae):cE :=
 match x with
 | .bool b'=>if b'=b then bN A d op rest else aA rest (A.aK d .undef)
 | .undef=>aA rest (A.aK d .undef)
 |_=>.fail
theorem bh.guard{P:Program}{Y:Value→List I→List (Nat×ah)→cR→Prop}{dr:Bool}{K:ae→Prop}{x b:Bool}{d:Option Nat}{op:b7}{rest:List az}{A:ae}(h1:x=b→bh P Y dr K (bN A d op rest))(h2:x = !b→bh P Y dr K (aA rest (A.aK d .undef))):bh P Y dr K (gG (.bool x) b d op rest A):=by
 unfold gG;by_cases h:x=b
 ·simp only[if_pos h];exact h1 h
 ·simp only[if_neg h];exact h2 (by cases x <;>cases b <;>simp_all)
def I.dg:I→Option (List I)
 | .agg fs=>some fs
 |_=>none
def oK(p:List Nat):Option I→Option I
 |some f=>f.at p
 |none=>none
def jO(i:Nat)(p:List Nat):Option (List I)→Option I
 |some fs=>oK p fs[i]?
 |none=>none
theorem oL(c:I):c.at []=some c:=by cases c <;>rfl
theorem P4(c:I)(i:Nat)(p:List Nat):c.at (i::p)=jO i p c.dg:=by
 cases c <;>first | rfl | (rename_i fs;simp only[I.at,jO,I.dg,oK])
def tG(fs:List I)(i:Nat)(p:List Nat)(v:I):Option I→I
 |some f=>.agg (fs.set i (f.dx p v))
 |none=>.agg fs
def qV(c:I)(i:Nat)(p:List Nat)(v:I):Option (List I)→I
 |some fs=>tG fs i p v fs[i]?
 |none=>c
theorem fR(c v:I):c.dx [] v=v:=by cases c <;>rfl
theorem Nb(c:I)(i:Nat)(p:List Nat)(v:I):c.dx (i::p) v=qV c i p v c.dg:=by
 cases c <;>first | rfl | (rename_i fs;simp only[I.dx,qV,I.dg];cases fs[i]? <;>rfl)
def eZ(p:List Nat):Option ah→Option I
 |some (.box c)=>c.at p
 |_=>none
def gD(A:ae):I→Option I
 | .ref x=>some x
 | .ptr n p=>eZ p (A.o n)
 |_=>none
theorem lX(A:ae)(x:I):cz A x=gD A x:=by
 cases x <;>first | rfl | (rename_i n p;simp only[cz,gD];cases A.o n with | none=>rfl | some y=>cases y <;>rfl)
def dC(s:Option Nat)(x:I):Option I:=if bV s x=true then some x else none
def gp(s:Option Nat):Option I→Option I
 |some x=>dC s x
 |none=>none
open Classical in
noncomputable def dB(fs:List I)(f off:Nat)(y:I):Option I:=if f<fs.length∧I.sizes (fs.take f)=off then some y else none
noncomputable def qi(n:Nat)(p:List Nat)(f off:Nat):Option (List I)→Option I
 |some fs=>dB fs f off (.ptr n (p++[f]))
 |none=>none
noncomputable def oV(fs:List I)(f off:Nat):Option I→Option I
 |some v=>dB fs f off (.ref v)
 |none=>none
noncomputable def qj(f off:Nat):Option (List I)→Option I
 |some fs=>oV fs f off fs[f]?
 |none=>none
def fp:Option I→Option (List I)
 |some x=>x.dg
 |none=>none
noncomputable def lp(A:ae)(f off:Nat):I→Option I
 | .ref c=>qj f off c.dg
 | .ptr n p=>qi n p f off (fp (eZ p (A.o n)))
 |_=>none
theorem ahz(A:ae)(f off:Nat)(x:aH):a8 A (.fa f off x)=lp A f off (ab A x):=by
 simp only[a8];generalize ab A x=y;cases y with
 |ref c =>
  cases c <;>simp only[lp,I.dg,qj]
  rename_i fs;cases h:fs[f]? with
  |none=>simp[oV]
  |some v =>
   have hl:f<fs.length:=(zy4.1 h).1;simp only[oV,dB,hl,true_and]

 |ptr n p =>
  simp only[lp,lX,gD];cases eZ p (A.o n) with
  |none=>simp[fp,qi]
  |some c =>
   cases c <;>simp only[fp,I.dg,qi]
   simp only[dB]

 |_=>simp only[lp]
noncomputable def sc(f off:Nat)(s:Option Nat):Option (List I)→Option I
 |some fs=>match fs[f]? with
  |some v=>(dB fs f off v).bind (dC s)
  |none=>none
 |none=>none
theorem ahA(A:ae)(f off:Nat)(s:Option Nat)(x:aH):a8 A (.fl f off s x)=sc f off s (ab A x).dg:=by
 simp only[a8];generalize ab A x=y;cases y <;>simp only[sc,I.dg]
 rename_i fs;cases h:fs[f]? with
 |none=>rfl
 |some v =>
  have hl:f<fs.length:=(zy4.1 h).1;simp only[dB,hl,true_and];by_cases h1:I.sizes (fs.take f)=off <;>by_cases h2:bV s v=true <;>simp[h1,h2,dC]
open Classical in
noncomputable def iH(k:Int)(n:Nat)(y:Option I):Option I:=if 0≤k∧k<n then y else none
noncomputable def iG(n esz:Nat)(fs:List I)(y:Option I):Option I:=if hT n esz fs=true then y else none
noncomputable def qp(n esz:Nat)(k:Int):Option (List I)→Option I
 |some fs=>iG n esz fs ((fs[k.toNat]?).map .ref)
 |none=>none
noncomputable def qo(n esz m:Nat)(p:List Nat)(k:Int):Option (List I)→Option I
 |some fs=>iG n esz fs (some (.ptr m (p++[k.toNat])))
 |none=>none
noncomputable def nN(A:ae)(n esz:Nat)(k:Int):I→Option I
 | .ref c=>iH k n (qp n esz k c.dg)
 | .ptr m p=>iH k n (qo n esz m p k (fp (eZ p (A.o m))))
 |_=>none
noncomputable def qn(A:ae)(n esz:Nat)(x:I):I→Option I
 | .int _ k=>nN A n esz k x
 |_=>none
theorem ahB(A:ae)(n esz:Nat)(x i:aH):a8 A (.ia n esz x i)=qn A n esz (ab A x) (ab A i):=by
 simp only[a8];generalize ab A x=y;generalize ab A i=z;cases z <;>simp only[qn]
 rename_i kk k;cases y with
 |ref c =>
  simp only[nN,iH];split
  ·cases c <;>simp only[I.dg,qp,iG]
  ·rfl
 |ptr m p =>
  simp only[nN,iH,lX,gD];split
  ·cases eZ p (A.o m) with
   |none=>simp[fp,qo]
   |some c=>cases c <;>simp only[fp,I.dg,qo,iG]
  ·rfl
 |_=>simp only[nN];split <;>rfl
open Classical in
noncomputable def ma(m:Nat)(p:List Nat)(sz lo l esz:Nat)(k:Int):Option (List I)→Option I
 |some _=>if sz=esz∧0≤k∧k<l then some (.ptr m (p++[lo+k.toNat])) else none
 |none=>none
open Classical in
noncomputable def gP(A:ae)(esz:Nat)(k:Int):I→Option I
 | .slice sz es=>if sz=esz∧0≤k∧k<es.length then (es[k.toNat]?).map .ref else none
 | .own m l=>match A.o m with
  |some (.bT _ sz es)=>if l=es.length∧sz=esz∧0≤k∧k<es.length then (es[k.toNat]?).map .ref else none
  |_=>none
 | .view m p sz lo l=>ma m p sz lo l esz k (fp (eZ p (A.o m)))
 |_=>none
noncomputable def ly(A:ae)(esz:Nat)(x:I):I→Option I
 | .int _ k=>gP A esz k x
 |_=>none
theorem ahC(A:ae)(esz:Nat)(x i:aH):a8 A (.is esz x i)=ly A esz (ab A x) (ab A i):=by
 simp only[a8];generalize ab A x=y;generalize ab A i=z;cases z <;>simp only[ly]
 cases y <;>simp only[gP]
 ·split <;>simp_all
 ·rename_i m p sz lo l;simp only[lX,gD];cases eZ p (A.o m) with
  |none=>rfl
  |some c=>cases c <;>simp only[fp,I.dg,ma]
noncomputable def qv(n esz:Nat)(s:Option Nat)(k:Int):Option (List I)→Option I
 |some fs=>iH k n (iG n esz fs (gp s fs[k.toNat]?))
 |none=>none
noncomputable def qw(n esz:Nat)(s:Option Nat)(x:I):I→Option I
 | .int _ k=>qv n esz s k x.dg
 |_=>none
theorem ahD(A:ae)(n esz:Nat)(s:Option Nat)(x i:aH):a8 A (.ix n esz s x i)=qw n esz s (ab A x) (ab A i):=by
 simp only[a8];generalize ab A x=y;generalize ab A i=z;cases z <;>simp only[qw]
 rename_i kk k;cases y <;>simp only[I.dg,qv]
 case agg fs =>
  simp only[iH,iG];split
  ·split
   ·cases fs[k.toNat]? <;>rfl
   ·rfl
  ·rfl
 all_goals (split <;>rfl)
def jz(A:ae):I→Option I
 | .slice _ es=>some (.int .i64 es.length)
 | .nils _=>some (.int .i64 0)
 | .c0 _=>some (.int .i64 0)
 | .own m l=>match A.o m with | some (.bT _ _ es)=>if l=es.length then some (.int .i64 es.length) else none | _=>none
 | .view _ _ _ _ k=>some (.int .i64 k)
 |_=>none
theorem ahF(A:ae)(x:aH):a8 A (.len x)=jz A (ab A x):=by
 simp only[a8];generalize ab A x=y;cases y <;>rfl
open Classical in
noncomputable def oz(n esz:Nat)(fs:List I)(y:I):Option I:=if hT n esz fs=true∧n≤maxLen∧n≠0 then some y else none
noncomputable def rf(n esz m:Nat)(p:List Nat):Option (List I)→Option I
 |some fs=>oz n esz fs (.view m p esz 0 n)
 |none=>none
noncomputable def NR(n esz:Nat):Option (List I)→Option I
 |some fs=>oz n esz fs (.slice esz fs)
 |none=>none
noncomputable def oy(A:ae)(n esz:Nat):I→Option I
 | .ptr m p=>rf n esz m p (fp (eZ p (A.o m)))
 | .ref c=>NR n esz c.dg
 |_=>none
theorem ahG(A:ae)(n esz:Nat)(x:aH):a8 A (.va n esz x)=oy A n esz (ab A x):=by
 simp only[a8];generalize ab A x=y;cases y with
 |ptr m p =>
  simp only[oy,lX,gD];cases eZ p (A.o m) with
  |none=>simp[fp,rf]
  |some c=>cases c <;>simp only[fp,I.dg,rf,oz] <;>(split <;>simp_all)
 |ref c=>cases c <;>simp only[oy,I.dg,NR,oz] <;>(split <;>simp_all)
 |_=>simp only[oy]
theorem ahE(A:ae)(s:Option Nat)(x:aH):a8 A (.ld s x)=gp s (gD A (ab A x)):=by
 simp only[a8,lX];cases gD A (ab A x) <;>simp only[gp,dC]
noncomputable def qI(A:ae)(d:Option Nat)(a b:aH)(rest:List az):I→cE
 | .bool t=>aA rest (A.aK d (if t then ab A a else ab A b))
 |_=>.fail
noncomputable def re(op:UnOp)(x:I):Option I:=match op,x with
  | .not,.bool b=>some (.bool !b)
  | .neg,.int k n=>some (.int k (k.wrap (0-n)))
  | .xor,.int k n=>some (.int k (oR k n))
  |_,_=>none
def vc(i:Nat):I→Option I
 | .tuple fs=>fs[i]?
 |_=>none
def uQ(k:IntKind):I→Option I
 | .int _ n=>some (.int k (k.wrap n))
 |_=>none
noncomputable def uk(A:ae)(d:Nat)(z:I)(rest:List az):Option ah→cE
 |none=>aA rest ((A.aN d (.box z)).put d (.ptr d []))
 |some _=>.fail
noncomputable def rN(A:ae)(d:Nat)(z:I)(rest:List az)(v:Bool):cE:=if v=true then aA rest ((A.aN d (.box z)).put d (.ptr d [])) else .fail
noncomputable def rM(A:ae)(d:Nat)(z:I)(rest:List az):Option ah→cE
 |none=>rN A d z rest z.cd
 |some _=>.fail
open Classical in
noncomputable def dO(A:ae)(s:Option Nat)(n:Nat)(p:List Nat)(b v:I)(rest:List az):Option I→cE
 |some old=>if xG s v old then aA rest (A.aN n (.box (b.dx p v))) else .fail
 |none=>.fail
noncomputable def tM(A:ae)(s:Option Nat)(n:Nat)(p:List Nat)(v:I)(rest:List az):Option ah→cE
 |some (.box b)=>dO A s n p b v rest (b.at p)
 |_=>.fail
noncomputable def tL(A:ae)(s:Option Nat)(v:I)(rest:List az):I→cE
 | .ptr n p=>tM A s n p v rest (A.o n)
 |_=>.fail
noncomputable def rQ(A:ae)(d:Option Nat)(args:List I)(rest:List az):I→cE
 | .func f caps=>.call f (args++caps) (bX true A (args++caps)) (bX false A (args++caps)) d rest A
 | .raw v=>.oQ v args d rest A
 |_=>.fail
section
variable (d:Option Nat) (rest:List az) (A:ae)
theorem PB(op:b7):aA (⟨d,op,none⟩::rest) A=bN A d op rest:=rfl
theorem PC(op:b7)(t:Nat)(b:Bool):aA (⟨d,op,some (t,b)⟩::rest) A=gG (A.t t) b d op rest A:=rfl
theorem aej(op:b7):gG (.bool true) true d op rest A=bN A d op rest:=by simp[gG]
theorem aeg(op:b7):gG (.bool false) false d op rest A=bN A d op rest:=by simp[gG]
theorem aei(op:b7):gG (.bool true) false d op rest A=aA rest (A.aK d .undef):=by simp[gG]
theorem aeh(op:b7):gG (.bool false) true d op rest A=aA rest (A.aK d .undef):=by simp[gG]
theorem aek(op:b7)(b:Bool):gG .undef b d op rest A=aA rest (A.aK d .undef):=rfl
theorem agC(x:aH):bN A d (.mv x) rest=aA rest (A.aK d (ab A x)):=rfl
theorem agG(c a b:aH):bN A d (.pick c a b) rest=qI A d a b rest (ab A c):=by
 simp only[bN,a7,a8];cases ab A c <;>simp only[cK,qI]
theorem agd(op:BinOp)(x y:aH):bN A d (.bin op x y) rest=cK (cD op (ab A x) (ab A y)) (c7 d rest A):=rfl
theorem agn(ty:cH)(neg:Bool)(x y:aH):bN A d (.eqv ty neg x y) rest=cK ((cg ty (ab A x) (ab A y)).map fun b=>.bool (if neg then !b else b)) (c7 d rest A):=rfl
theorem agL(op:UnOp)(x:aH):bN A d (.un op x) rest=cK (re op (ab A x)) (c7 d rest A):=rfl
theorem agl(k:IntKind)(x:aH):bN A d (.conv k x) rest=cK (uQ k (ab A x)) (c7 d rest A):=by
 simp only[bN,a7,a8];cases ab A x <;>rfl
theorem agu(s:Option Nat)(x:aH):bN A d (.ld s x) rest=cK (gp s (gD A (ab A x))) (c7 d rest A):=by rw[←ahE];rfl
theorem agp(f off:Nat)(x:aH):bN A d (.fa f off x) rest=cK (lp A f off (ab A x)) (c7 d rest A):=by rw[←ahz];rfl
theorem agq(f off:Nat)(s:Option Nat)(x:aH):bN A d (.fl f off s x) rest=cK (sc f off s (ab A x).dg) (c7 d rest A):=by rw[←ahA];rfl
theorem agr(n esz:Nat)(x i:aH):bN A d (.ia n esz x i) rest=cK (qn A n esz (ab A x) (ab A i)) (c7 d rest A):=by rw[←ahB];rfl
theorem ags(esz:Nat)(x i:aH):bN A d (.is esz x i) rest=cK (ly A esz (ab A x) (ab A i)) (c7 d rest A):=by rw[←ahC];rfl
theorem agt(n esz:Nat)(s:Option Nat)(x i:aH):bN A d (.ix n esz s x i) rest=cK (qw n esz s (ab A x) (ab A i)) (c7 d rest A):=by rw[←ahD];rfl
theorem agv(x:aH):bN A d (.len x) rest=cK (jz A (ab A x)) (c7 d rest A):=by rw[←ahF];rfl
theorem agM(n esz:Nat)(x:aH):bN A d (.va n esz x) rest=cK (oy A n esz (ab A x)) (c7 d rest A):=by rw[←ahG];rfl
theorem age(zs:List I)(ps:List (Nat×aH)):bN A d (.bld zs ps) rest=cK ((dR zs (ps.map fun p=>(p.1,ab A p.2))).map .agg) (c7 d rest A):=rfl
theorem ago(x:aH)(i:Nat):bN A d (.ext x i) rest=cK (vc i (ab A x)) (c7 d rest A):=by
 simp only[bN,a7,a8];cases ab A x <;>rfl
theorem agy(f:FuncId)(caps:List aH):bN A d (.mk f caps) rest=cK (if ((caps.map (ab A)).all fun y=>y.cd)=true then some (.func f (caps.map (ab A))) else none) (c7 d rest A):=rfl
theorem agb(d:Nat)(z:I):bN A (some d) (.alloc z) rest=uk A d z rest (A.o d):=by
 simp only[bN,a7];cases A.o d <;>rfl
theorem agf(d:Nat)(x:aH):bN A (some d) (.box x) rest=rM A d (ab A x) rest (A.o d):=by
 simp only[bN,a7];cases A.o d <;>simp only[rM,rN]
theorem agK(s:Option Nat)(x v:aH):bN A none (.bB s x v) rest=tL A s (ab A v) rest (ab A x):=by
 simp only[bN,a7];cases ab A x <;>simp only[tL]
 rename_i n p;cases A.o n with
 |none=>rfl
 |some y =>
  cases y <;>simp only[tM]
  rename_i b;cases b.at p <;>simp only[dO]
theorem agi(f:FuncId)(args:List aH):bN A d (.call f args) rest=.call f (args.map (ab A)) (bX true A (args.map (ab A))) (bX false A (args.map (ab A))) d rest A:=rfl
theorem agj(x:aH)(args:List aH):bN A d (.eh x args) rest=rQ A d (args.map (ab A)) rest (ab A x):=by
 simp only[bN,a7];cases ab A x <;>rfl
end
end Go.Abs
namespace Go.Abs
open Go Go.RowKit
mutual
/-- Closed,and as a result is told: no nil slice but as the empty one. -/
def I.done:I→Bool
 | .agg fs=>I.eG fs
 | .slice _ es=>I.bW es
 | .ref x=>x.bp
 | .func _ caps=>I.eG caps
 | .iface _ v=>v.bp
 | .cL ks vs=>I.bW ks&&I.bW vs
 | .bool _ | .int _ _ | .cQ _ | .nilp | .da | .dN | .raw _=>true
 |_=>false
def I.eG:List I→Bool
 | []=>true
 |x::xs=>x.done&&I.eG xs
end
mutual
theorem uU:∀ x:I,x.done=true→x.bp=true
 | .agg fs,h=>by simp only[I.done,I.bp] at *;exact kp fs h
 | .slice _ es,h=>by simpa only[I.done,I.bp] using h
 | .ref x,h=>by simpa only[I.done,I.bp] using h
 | .func _ caps,h=>by simp only[I.done,I.bp] at *;exact kp caps h
 | .iface _ v,h=>by simpa only[I.done,I.bp] using h
 | .bool _,_ | .int _ _,_ | .cQ _,_ | .nilp,_ | .da,_ | .dN,_ | .raw _,_=>by simp[I.bp]
 | .cL _ _,h=>by simpa only[I.done,I.bp] using h
 | .nils _,h | .c0 _,h | .ptr _ _,h | .own _ _,h | .view _ _ _ _ _,h | .mref _,h | .dj _,h | .undef,h | .c8,h | .tuple _,h=>by simp[I.done] at h
theorem kp:∀ xs:List I,I.eG xs=true→I.bW xs=true
 | [],_=>rfl
 |x::xs,h=>by
  simp only[I.eG,I.bW,zz2] at *;exact ⟨uU x h.1,kp xs h.2⟩
end
mutual
theorem CO(aB:Bool)(A:ae):∀ x:I,x.done=true→bg aB A x=some x
 | .agg fs,h=>by simp only[I.done,bg] at *;rw[kr aB A fs h];rfl
 | .slice _ es,h=>by simp only[I.done] at h;simp[bg,h]
 | .ref x,h=>by simp only[I.done] at h;simp[bg,h]
 | .func _ caps,h=>by simp only[I.done,bg] at *;rw[kr aB A caps h];rfl
 | .iface _ v,h=>by simp only[I.done] at h;simp[bg,h]
 | .bool _,_ | .int _ _,_ | .cQ _,_ | .nilp,_ | .da,_ | .dN,_ | .raw _,_=>by simp[bg]
 | .cL _ _,h=>by simp only[I.done] at h;simp[bg,h]
 | .nils _,h | .c0 _,h | .ptr _ _,h | .own _ _,h | .view _ _ _ _ _,h | .mref _,h | .dj _,h | .undef,h | .c8,h | .tuple _,h=>by simp[I.done] at h
theorem kr(aB:Bool)(A:ae):∀ xs:List I,I.eG xs=true→bX aB A xs=some xs
 | [],_=>by simp[bX]
 |x::xs,h=>by
  simp only[I.eG,zz2] at h;simp only[bX,CO aB A x h.1,kr aB A xs h.2]
end
theorem Xz{x:I}(h:x.done=true):x.cd=true:=by cases x <;>simp_all[I.done,I.cd]
class Enc (α:Type) where
 enc:α→I
 sz:Nat
 aJ:cJ
 fI:Bool
 done:∀ x,(enc x).done=true
 size:∀ x,(enc x).size=sz
 jG:∀ x,(enc x).aJ=aJ
 agg:∀ x,(enc x).isAgg=fI
open Enc (enc)
instance:Enc Int where
 enc n:=.int .i64 n
 sz:=1
 aJ:=.one
 fI:=false
 done _:=rfl
 size _:=by simp[I.size]
 jG _:=by simp[I.aJ]
 agg _:=rfl
instance:Enc Bool where
 enc b:=.bool b
 sz:=1
 aJ:=.one
 fI:=false
 done _:=rfl
 size _:=by simp[I.size]
 jG _:=by simp[I.aJ]
 agg _:=rfl
theorem kj{α:Type}[Enc α](l:List α):I.bW (l.map enc)=true:=by
 induction l with
 |nil=>rfl
 |cons x l ih=>simp only[zz9,I.bW,uU _ (Enc.done x),ih,zw3]
theorem XA{α:Type}[Enc α](l:List α):I.eG (l.map enc)=true:=by
 induction l with
 |nil=>rfl
 |cons x l ih=>simp only[zz9,I.eG,Enc.done x,ih,zw3]
theorem ain{α:Type}[Enc α](l:List α):I.sizes (l.map enc)=l.length*Enc.sz α:=by
 rw[I.gR (sz:=Enc.sz α) _ (by simp only[zx5];rintro x ⟨y,_,rfl⟩;exact Enc.size y)];simp
theorem qX{α:Type}[Enc α](l:List α):I.cN (l.map enc)=List.replicate l.length (Enc.aJ α):=by
 induction l with
 |nil=>rfl
 |cons x l ih=>simp only[zz9,I.cN,Enc.jG x,ih,zv5,List.replicate_succ]
instance {α:Type} [Enc α]:Enc (List α) where
 enc l:=.slice (Enc.sz α) (l.map enc)
 sz:=1
 aJ:=.one
 fI:=false
 done l:=by simp only[I.done];exact kj l
 size _:=by simp[I.size]
 jG _:=by simp[I.aJ]
 agg _:=rfl
structure aI (n:Nat) (α:Type) where
 l:List α
 h:l.length=n
instance {n:Nat} {α:Type} [Enc α]:Enc (aI n α) where
 enc x:=.agg (x.l.map enc)
 sz:=n*Enc.sz α
 aJ:=.dU (List.replicate n (Enc.aJ α))
 fI:=true
 done x:=by simp only[I.done];exact XA x.l
 size x:=by simp only[I.size,ain,x.h]
 jG x:=by simp only[I.aJ,qX,x.h]
 agg _:=rfl
section
variable {α:Type} [Enc α]
theorem cF(aB:Bool)(A:ae)(x:α):bg aB A (enc x)=some (enc x):=CO aB A _ (Enc.done x)
theorem dM(x:α):(enc x).bp=true:=uU _ (Enc.done x)
theorem bA(p:Nat→Bool)(x:α):(enc x).only p=true:=mj p _ (dM x)
theorem dz(x:α):(enc x).cd=true:=Xz (Enc.done x)
theorem lh(x:α):bV none (enc x) = !(Enc.fI α):=by simp[bV,Enc.agg]
theorem fx(n:Nat)(x:α):bV (some n) (enc x)=(Enc.fI α&&Enc.sz α==n):=by simp[bV,Enc.agg,Enc.size]
theorem fy(x:α):(enc x).size=Enc.sz α:=Enc.size x
theorem ev(x:α):(enc x).aJ=Enc.aJ α:=Enc.jG x
theorem jx(n:Int):(enc n:I)=.int .i64 n:=rfl
theorem Cp(n:Bool):(enc n:I)=.bool n:=rfl
theorem gE(l:List α):(enc l:I)=.slice (Enc.sz α) (l.map enc):=rfl
theorem jT:Enc.sz Int=1:=rfl
theorem jS(n:Nat):Enc.sz (aI n α)=n*Enc.sz α:=rfl
theorem r2:Enc.sz (List α)=1:=rfl
theorem u3(n:Nat):Enc.fI (aI n α)=true:=rfl
theorem lY:Enc.fI (List α)=false:=rfl
theorem rZ:Enc.aJ Int=.one:=rfl
theorem Cr:Enc.aJ (List α)=.one:=rfl
theorem rY(n:Nat):Enc.aJ (aI n α)=.dU (List.replicate n (Enc.aJ α)):=rfl
theorem u9(n esz:Nat)(l:List α)(h:l.length=n)(h2:Enc.sz α=esz):hT n esz (l.map enc)=true:=by
 simp only[hT,zy1,h,BEq.rfl,Bool.true_and,zy2,zx5];rintro x ⟨y,_,rfl⟩;simp[Enc.size,h2]
theorem PK(l:List α):∀ x∈l.map (enc (α:=α)),x.size=Enc.sz α:=by
 simp only[zx5];rintro x ⟨y,_,rfl⟩;exact Enc.size y
end
theorem cA(n:Int)(h1:-9223372036854775808≤n)(h2:n≤9223372036854775807):IntKind.i64.wrap n=n:=IntWalk.i64_in n ⟨h1,h2⟩
theorem aC.mk{P:Program}{f:FuncId}{fn:Func}{x:aM}{rs:List a6}{args:List I}{r:I}(hf:P.funcs[f]?=some fn)(hcall:gC P f=true)(hc:(fn.body.bind (eL P fn.ntmps))=some x)
  (hrs:iz P fn.results.toList=some rs) (hn:args.length≤fn.ntmps) (h:∀ (w:World) (D:aL) (E:aT),U ⟨P,w,D,fn.ntmps,dm E,E,ig,none⟩ x (jq rs r) (ar (bj 0 args) [])):aC P f args r:=by
 obtain ⟨body,hb,hc'⟩:=Option.bind_eq_some_iff.1 hc;exact aC.ta hf hb hcall hc' hrs hn (fun w D E=>(h w D E).sub (aiM args))
end Go.Abs
namespace Go.Abs
open Go Go.RowKit
open Enc (enc)
def au(x:I)(p q:Prop):Prop:=match x with
 | .bool t=>(t=true→p)∧(t=false→q)
 |_=>False
theorem U.bx{c:cI}{A:ae}{Q:Exit→ae→Prop}{b:aH}{x y:aM}(h:au (ab A b) (U c x Q A) (U c y Q A)):U c (.cond b x y) Q A:=by
 generalize hb:ab A b=v at h;unfold au at h;split at h
 ·exact U.cond hb h.1 h.2
 ·exact h.elim
def np(r:I):Option (List I)→Prop
 |some xs=>kF xs=r
 |none=>False
theorem ah1(rs:List a6)(r:I)(A:ae):jq rs r .ret A=np r (eQ A rs):=by
 simp only[jq,np];cases eQ A rs <;>simp
theorem ah0(rs:List a6)(r:I)(A:ae):jq rs r .normal A=np r (eQ A rs):=by
 simp only[jq,np];cases eQ A rs <;>simp
def qT(s:Option Nat)(A:ae):Option I→Option I
 |some x=>if bV s x=true then bg true A x else none
 |none=>none
def kY:Option I→Option (List I)→Option (List I)
 |some x,some xs=>some (x::xs)
 |_,_=>none
theorem ahU(A:ae):eQ A []=some []:=rfl
theorem ahV(A:ae)(t:Nat)(rs:List a6):eQ A (.tmp t::rs)=kY (bg true A (A.t t)) (eQ A rs):=by
 simp only[eQ,tA];cases bg true A (A.t t) <;>cases eQ A rs <;>rfl
theorem ahT(A:ae)(a:Nat)(s:Option Nat)(rs:List a6):eQ A (.cell a s::rs)=kY (qT s A (gD A (A.t a))) (eQ A rs):=by
 simp only[eQ,tA,lX];cases gD A (A.t a) with
 |none=>cases eQ A rs <;>rfl
 |some x =>
  by_cases h:bV s x=true
  ·simp only[qT,if_pos h];cases bg true A x <;>cases eQ A rs <;>rfl
  ·simp only[qT,if_neg h];cases eQ A rs <;>rfl
def r7(aB:Bool)(A:ae):Option I→Option I
 |some x=>if x.bp=true then some (.ref x) else (dS A 9 x).map .ref
 |none=>none
theorem Yf(A:ae)(n:Nat)(p:List Nat):bg true A (.ptr n p)=r7 true A (eZ p (A.o n)):=by
 simp only[bg,lX,gD,if_true,r7];cases eZ p (A.o n) <;>rfl
open Classical in
noncomputable def l6(sz lo k:Nat):Option (List I)→Option I
 |some fs=>if I.bW ((fs.drop lo).take k)=true then some (.slice sz ((fs.drop lo).take k)) else none
 |none=>none
theorem Yj(A:ae)(n:Nat)(p:List Nat)(sz lo k:Nat):bg true A (.view n p sz lo k)=l6 sz lo k (fp (eZ p (A.o n))):=by
 simp only[bg,lX,gD,if_true];cases eZ p (A.o n) with
 |none=>rfl
 |some c=>cases c <;>simp only[fp,I.dg,l6] <;>(split <;>simp_all)
open Classical in
noncomputable def nI(k:Nat):Option ah→Option I
 |some (.bT _ sz es)=>if k=es.length∧I.bW es=true then some (.slice sz es) else none
 |_=>none
theorem Ye(aB:Bool)(A:ae)(n k:Nat):bg aB A (.own n k)=nI k (A.o n):=by
 simp only[bg];cases A.o n with
 |none=>rfl
 |some y=>cases y <;>simp only[nI] <;>(split <;>simp_all)
theorem X8(aB:Bool)(A:ae)(fs:List I):bg aB A (.agg fs)=(bX aB A fs).map .agg:=by simp only[bg]
theorem Ya(aB:Bool)(A:ae)(f:FuncId)(fs:List I):bg aB A (.func f fs)=(bX aB A fs).map (.func f):=by simp only[bg]
theorem Yb(aB:Bool)(A:ae)(k:IntKind)(n:Int):bg aB A (.int k n)=some (.int k n):=by simp only[bg]
theorem X9(aB:Bool)(A:ae)(n:Bool):bg aB A (.bool n)=some (.bool n):=by simp only[bg]
theorem Yi(aB:Bool)(A:ae)(n:ByteArray):bg aB A (.cQ n)=some (.cQ n):=by simp only[bg]
theorem Yd(aB:Bool)(A:ae)(n:Nat):bg aB A (.nils n)=some (.slice n []):=by simp only[bg]
theorem Yh(aB:Bool)(A:ae)(n:Nat)(es:List I):bg aB A (.slice n es)=if I.bW es=true then some (.slice n es) else none:=by simp only[bg]
theorem Yg(aB:Bool)(A:ae)(x:I):bg aB A (.ref x)=if x.bp=true then some (.ref x) else none:=by simp only[bg]
theorem Ym(aB:Bool)(A:ae):bX aB A []=some []:=by simp only[bX]
theorem Yl(aB:Bool)(A:ae)(x:I)(xs:List I):bX aB A (x::xs)=kY (bg aB A x) (bX aB A xs):=by
 simp only[bX];cases bg aB A x <;>cases bX aB A xs <;>rfl
theorem Uq(fs:List I):(I.agg fs).bp=I.bW fs:=by simp only[I.bp]
theorem Uw(n:Nat)(fs:List I):(I.slice n fs).bp=I.bW fs:=by simp only[I.bp]
theorem Uv(x:I):(I.ref x).bp=x.bp:=by simp only[I.bp]
theorem Uu(k:IntKind)(n:Int):(I.int k n).bp=true:=by simp only[I.bp]
theorem Ur(n:Bool):(I.bool n).bp=true:=by simp only[I.bp]
theorem Ux(n:ByteArray):(I.cQ n).bp=true:=by simp only[I.bp]
theorem Us(f:FuncId)(fs:List I):(I.func f fs).bp=I.bW fs:=by simp only[I.bp]
theorem UA:I.bW []=true:=by simp only[I.bW]
theorem Uy(x:I)(xs:List I):I.bW (x::xs)=(x.bp&&I.bW xs):=by simp only[I.bW]
theorem Qa(k:IntKind)(a b:Int):cD .add (.int k a) (.int k b)=some (.int k (k.wrap (a+b))):=by simp[cD]
theorem Qq(k:IntKind)(a b:Int):cD .sub (.int k a) (.int k b)=some (.int k (k.wrap (a-b))):=by simp[cD]
theorem Qi(k:IntKind)(a b:Int):cD .mul (.int k a) (.int k b)=some (.int k (k.wrap (a*b))):=by simp[cD]
theorem Qm(k:IntKind)(a b:Int):cD .quo (.int k a) (.int k b)=if b=0 then none else some (.int k (k.wrap (a.tdiv b))):=by simp[cD]
theorem Qn(k:IntKind)(a b:Int):cD .rem (.int k a) (.int k b)=if b=0 then none else some (.int k (a.tmod b)):=by simp[cD]
theorem Qb(k:IntKind)(a b:Int):cD .and (.int k a) (.int k b)=some (.int k (k.wrap ((BitVec.ofInt k.bits a &&& BitVec.ofInt k.bits b).toNat:Int))):=by simp[cD]
theorem Ql(k:IntKind)(a b:Int):cD .or (.int k a) (.int k b)=some (.int k (k.wrap ((BitVec.ofInt k.bits a ||| BitVec.ofInt k.bits b).toNat:Int))):=by simp[cD]
theorem Qr(k:IntKind)(a b:Int):cD .xor (.int k a) (.int k b)=some (.int k (k.wrap ((BitVec.ofInt k.bits a ^^^ BitVec.ofInt k.bits b).toNat:Int))):=by simp[cD]
theorem Qc(k:IntKind)(a b:Int):cD .andNot (.int k a) (.int k b)=some (.int k (k.wrap ((BitVec.ofInt k.bits a &&& ~~~ BitVec.ofInt k.bits b).toNat:Int))):=by simp[cD]
theorem Qo(k k':IntKind)(a b:Int):cD .shl (.int k a) (.int k' b)=if 0≤b then some (.int k (k.wrap (a*2^(min b.toNat k.bits)))) else none:=by simp[cD]
theorem Qp(k k':IntKind)(a b:Int):cD .shr (.int k a) (.int k' b)=if 0≤b then some (.int k (a.fdiv (2^(min b.toNat k.bits)))) else none:=by simp[cD]
theorem Qd(k:IntKind)(a b:Int):cD .eql (.int k a) (.int k b)=some (.bool (a==b)):=by simp[cD]
theorem Qj(k:IntKind)(a b:Int):cD .neq (.int k a) (.int k b)=some (.bool (a != b)):=by simp[cD]
theorem Qh(k:IntKind)(a b:Int):cD .lss (.int k a) (.int k b)=some (.bool (decide (a<b))):=by simp[cD]
theorem Qg(k:IntKind)(a b:Int):cD .leq (.int k a) (.int k b)=some (.bool (decide (a≤b))):=by simp[cD]
theorem Qf(k:IntKind)(a b:Int):cD .gtr (.int k a) (.int k b)=some (.bool (decide (b<a))):=by simp[cD]
theorem Qe(k:IntKind)(a b:Int):cD .geq (.int k a) (.int k b)=some (.bool (decide (b≤a))):=by simp[cD]
theorem oF :
  (∀ ts os d v,(ar ts os).put d v=ar ((d,v)::ts) os)∧(∀ ts os d v,(ar ts os).aK (some d) v=ar ((d,v)::ts) os)∧(∀ (A:ae) v,A.aK none v=A) ∧
  (∀ ts os d x,(ar ts os).aN d x=ar ts ((d,x)::os))∧(∀ ts os k,(ar ts os).t k=b9 ts k)∧(∀ ts os k,(ar ts os).o k=aj os k) ∧
  (∀ j v r k,b9 ((j,v)::r) k=if k=j then v else b9 r k)∧(∀ j v r k,aj ((j,v)::r) k=if k=j then some v else aj r k)∧(∀ k,aj [] k=none) ∧
  (∀ A k,ab A (.t k)=A.t k)∧(∀ A x,ab A (.c x)=x)∧(∀ d rest A v,c7 d rest A v=aA rest (A.aK d v))∧(∀ v k,cK (some v) k=k v)∧(∀ A,aA [] A=.done A) :=
 ⟨sR,afS,afR,nV,afT,afQ,aW,ct,sL,u7,XT,afd,Qs,PN⟩
theorem KD :
  (∀ d rest A op,aA (⟨d,op,none⟩::rest) A=bN A d op rest)∧(∀ d rest A op t b,aA (⟨d,op,some (t,b)⟩::rest) A=gG (A.t t) b d op rest A) ∧
  (∀ d rest A op,gG (.bool true) true d op rest A=bN A d op rest)∧(∀ d rest A op,gG (.bool false) false d op rest A=bN A d op rest) ∧
  (∀ d rest A op,gG (.bool true) false d op rest A=aA rest (A.aK d .undef))∧(∀ d rest A op,gG (.bool false) true d op rest A=aA rest (A.aK d .undef))∧(∀ d rest A op b,gG .undef b d op rest A=aA rest (A.aK d .undef)) ∧
  (∀ d rest A x,bN A d (.mv x) rest=aA rest (A.aK d (ab A x)))∧(∀ d rest A c a b,bN A d (.pick c a b) rest=qI A d a b rest (ab A c)) ∧
  (∀ A d a b rest,qI A d a b rest (.bool true)=aA rest (A.aK d (ab A a)))∧(∀ A d a b rest,qI A d a b rest (.bool false)=aA rest (A.aK d (ab A b))) ∧
  (∀ d rest A op x y,bN A d (.bin op x y) rest=cK (cD op (ab A x) (ab A y)) (c7 d rest A)) ∧
  (∀ d rest A ty neg x y,bN A d (.eqv ty neg x y) rest=cK ((cg ty (ab A x) (ab A y)).map fun b=>.bool (if neg then !b else b)) (c7 d rest A)) ∧
  (∀ d rest A op x,bN A d (.un op x) rest=cK (re op (ab A x)) (c7 d rest A))∧(∀ b,re .not (.bool b)=some (.bool !b))∧(∀ k n,re .neg (.int k n)=some (.int k (k.wrap (0-n))))∧(∀ k n,re .xor (.int k n)=some (.int k (oR k n))) ∧
  (∀ d rest A k x,bN A d (.conv k x) rest=cK (uQ k (ab A x)) (c7 d rest A))∧(∀ k k' n,uQ k (.int k' n)=some (.int k (k.wrap n))) ∧
  (∀ d rest A s x,bN A d (.ld s x) rest=cK (gp s (gD A (ab A x))) (c7 d rest A))∧(∀ d rest A f off x,bN A d (.fa f off x) rest=cK (lp A f off (ab A x)) (c7 d rest A)) ∧
  (∀ d rest A f off s x,bN A d (.fl f off s x) rest=cK (sc f off s (ab A x).dg) (c7 d rest A))∧(∀ d rest A n esz x i,bN A d (.ia n esz x i) rest=cK (qn A n esz (ab A x) (ab A i)) (c7 d rest A)) ∧
  (∀ d rest A esz x i,bN A d (.is esz x i) rest=cK (ly A esz (ab A x) (ab A i)) (c7 d rest A))∧(∀ d rest A n esz s x i,bN A d (.ix n esz s x i) rest=cK (qw n esz s (ab A x) (ab A i)) (c7 d rest A)) ∧
  (∀ d rest A x,bN A d (.len x) rest=cK (jz A (ab A x)) (c7 d rest A))∧(∀ d rest A n esz x,bN A d (.va n esz x) rest=cK (oy A n esz (ab A x)) (c7 d rest A)) ∧
  (∀ d rest A zs ps,bN A d (.bld zs ps) rest=cK ((dR zs (ps.map fun p=>(p.1,ab A p.2))).map .agg) (c7 d rest A))∧(∀ d rest A x i,bN A d (.ext x i) rest=cK (vc i (ab A x)) (c7 d rest A))∧(∀ i fs,vc i (.tuple fs)=fs[i]?) ∧
  (∀ d rest A f caps,bN A d (.mk f caps) rest=cK (if ((caps.map (ab A)).all fun y=>y.cd)=true then some (.func f (caps.map (ab A))) else none) (c7 d rest A)) ∧
  (∀ rest A d z,bN A (some d) (.alloc z) rest=uk A d z rest (A.o d))∧(∀ A d z rest,uk A d z rest none=aA rest ((A.aN d (.box z)).put d (.ptr d []))) ∧
  (∀ rest A d x,bN A (some d) (.box x) rest=rM A d (ab A x) rest (A.o d))∧(∀ A d z rest,rM A d z rest none=rN A d z rest z.cd)∧(∀ A d z rest,rN A d z rest true=aA rest ((A.aN d (.box z)).put d (.ptr d []))) ∧
  (∀ rest A s x v,bN A none (.bB s x v) rest=tL A s (ab A v) rest (ab A x))∧(∀ A s v rest n p,tL A s v rest (.ptr n p)=tM A s n p v rest (A.o n))∧(∀ A s n p v rest b,tM A s n p v rest (some (.box b))=dO A s n p b v rest (b.at p)) ∧
  (∀ d rest A f args,bN A d (.call f args) rest=.call f (args.map (ab A)) (bX true A (args.map (ab A))) (bX false A (args.map (ab A))) d rest A) ∧
  (∀ d rest A x args,bN A d (.eh x args) rest=rQ A d (args.map (ab A)) rest (ab A x))∧(∀ A d args rest f caps,rQ A d args rest (.func f caps)=.call f (args++caps) (bX true A (args++caps)) (bX false A (args++caps)) d rest A) :=
 ⟨PB,PC,aej,aeg,aei,aeh,aek,agC,agG,fun _ _ _ _ _=>rfl,fun _ _ _ _ _=>rfl,agd,agn,agL,fun _=>rfl,fun _ _=>rfl,fun _ _=>rfl,agl,fun _ _ _=>rfl,agu,agp,agq,agr,ags,agt,agv,agM,age,ago,fun _ _=>rfl,agy,
  agb,fun _ _ _ _=>rfl,agf,fun _ _ _ _=>rfl,fun _ _ _ _=>rfl,agK,fun _ _ _ _ _ _=>rfl,fun _ _ _ _ _ _ _=>rfl,agi,agj,fun _ _ _ _ _ _=>rfl⟩
theorem eg{A:ae}{s:Option Nat}{n:Nat}{p:List Nat}{b v old:I}{rest:List az}(h1:v.cd=true)(h2:bV s v=true)(h3:v.aJ=old.aJ):dO A s n p b v rest (some old)=aA rest (A.aN n (.box (b.dx p v))):=by
 simp only[dO];rw[if_pos ⟨h1,h2,h3⟩]
theorem NS :
  (∀ A x,gD A (.ref x)=some x)∧(∀ A n p,gD A (.ptr n p)=eZ p (A.o n))∧(∀ p c,eZ p (some (.box c))=c.at p)∧(∀ c:I,c.at []=some c)∧(∀ (c:I) i p,c.at (i::p)=jO i p c.dg) ∧
  (∀ i p fs,jO i p (some fs)=oK p fs[i]?)∧(∀ p f,oK p (some f)=f.at p)∧(∀ c v:I,c.dx [] v=v)∧(∀ (c:I) i p v,c.dx (i::p) v=qV c i p v c.dg)∧(∀ c i p v fs,qV c i p v (some fs)=tG fs i p v fs[i]?) ∧
  (∀ fs i p v f,tG fs i p v (some f)=.agg (fs.set i (f.dx p v)))∧(∀ fs,(I.agg fs).dg=some fs)∧(∀ x:I,fp (some x)=x.dg) ∧
  (∀ s x,gp s (some x)=if bV s x=true then some x else none) ∧
  (∀ A f off c,lp A f off (.ref c)=qj f off c.dg)∧(∀ A f off n p,lp A f off (.ptr n p)=qi n p f off (fp (eZ p (A.o n))))∧(∀ f off fs,qj f off (some fs)=oV fs f off fs[f]?)∧(∀ fs f off v,oV fs f off (some v)=dB fs f off (.ref v)) ∧
  (∀ n p f off fs,qi n p f off (some fs)=dB fs f off (.ptr n (p++[f])))∧(∀ A n esz x kk k,qn A n esz x (.int kk k)=nN A n esz k x)∧(∀ A n esz k c,nN A n esz k (.ref c)=iH k n (qp n esz k c.dg)) ∧
  (∀ A n esz k m p,nN A n esz k (.ptr m p)=iH k n (qo n esz m p k (fp (eZ p (A.o m)))))∧(∀ n esz k fs,qp n esz k (some fs)=iG n esz fs ((fs[k.toNat]?).map .ref))∧(∀ n esz m p k fs,qo n esz m p k (some fs)=iG n esz fs (some (.ptr m (p++[k.toNat])))) ∧
  (∀ A esz x kk k,ly A esz x (.int kk k)=gP A esz k x)∧(∀ n esz s x kk k,qw n esz s x (.int kk k)=qv n esz s k x.dg)∧(∀ n esz s k fs,qv n esz s k (some fs)=iH k n (iG n esz fs (gp s fs[k.toNat]?))) ∧
  (∀ A n esz m p,oy A n esz (.ptr m p)=rf n esz m p (fp (eZ p (A.o m))))∧(∀ n esz m p fs,rf n esz m p (some fs)=oz n esz fs (.view m p esz 0 n)) ∧
  (∀ A sz es,jz A (.slice sz es)=some (.int .i64 es.length))∧(∀ A n,jz A (.nils n)=some (.int .i64 0))∧(∀ A n,jz A (.c0 n)=some (.int .i64 0)) :=
 ⟨fun _ _=>rfl,fun _ _ _=>rfl,fun _ _=>rfl,oL,P4,fun _ _ _=>rfl,fun _ _=>rfl,fR,Nb,fun _ _ _ _ _=>rfl,fun _ _ _ _ _=>rfl,fun _=>rfl,fun _=>rfl,fun _ _=>rfl,fun _ _ _ _=>rfl,fun _ _ _ _ _=>rfl,fun _ _ _=>rfl,fun _ _ _ _=>rfl,
  fun _ _ _ _ _=>rfl,fun _ _ _ _ _ _=>rfl,fun _ _ _ _ _=>rfl,fun _ _ _ _ _ _=>rfl,fun _ _ _ _=>rfl,fun _ _ _ _ _ _=>rfl,fun _ _ _ _ _=>rfl,fun _ _ _ _ _ _=>rfl,fun _ _ _ _ _=>rfl,fun _ _ _ _ _=>rfl,fun _ _ _ _ _=>rfl,fun _ _ _=>rfl,fun _ _=>rfl,fun _ _=>rfl⟩
theorem CL :
  (∀ A n p,bg true A (.ptr n p)=r7 true A (eZ p (A.o n)))∧(∀ A x,r7 true A (some x)=if x.bp=true then some (.ref x) else (dS A 9 x).map .ref)∧(∀ A n p sz lo k,bg true A (.view n p sz lo k)=l6 sz lo k (fp (eZ p (A.o n)))) ∧
  (∀ A n p,bg false A (.ptr n p)=none)∧(∀ A n p sz lo k,bg false A (.view n p sz lo k)=none)∧(∀ x,kY none x=none)∧(∀ x,kY x none=none) ∧
  (∀ aB A n k,bg aB A (.own n k)=nI k (A.o n))∧(∀ aB A fs,bg aB A (.agg fs)=(bX aB A fs).map .agg)∧(∀ aB A f fs,bg aB A (.func f fs)=(bX aB A fs).map (.func f))∧(∀ aB A k n,bg aB A (.int k n)=some (.int k n))∧(∀ aB A b,bg aB A (.bool b)=some (.bool b)) ∧
  (∀ aB A s,bg aB A (.cQ s)=some (.cQ s))∧(∀ aB A n,bg aB A (.nils n)=some (.slice n []))∧(∀ aB A n es,bg aB A (.slice n es)=if I.bW es=true then some (.slice n es) else none)∧(∀ aB A x,bg aB A (.ref x)=if x.bp=true then some (.ref x) else none) ∧
  (∀ aB A,bX aB A []=some [])∧(∀ aB A x xs,bX aB A (x::xs)=kY (bg aB A x) (bX aB A xs))∧(∀ x xs,kY (some x) (some xs)=some (x::xs)) ∧
  (∀ fs,(I.agg fs).bp=I.bW fs)∧(∀ n fs,(I.slice n fs).bp=I.bW fs)∧(∀ x,(I.ref x).bp=x.bp)∧(∀ k n,(I.int k n).bp=true)∧(∀ n,(I.bool n).bp=true)∧(∀ n,(I.cQ n).bp=true)∧(∀ f fs,(I.func f fs).bp=I.bW fs) ∧
  I.bW []=true∧(∀ x xs,I.bW (x::xs)=(x.bp&&I.bW xs)) ∧
  (∀ rs r A,jq rs r .ret A=np r (eQ A rs))∧(∀ rs r A,jq rs r .normal A=np r (eQ A rs))∧(∀ r xs,np r (some xs)=(kF xs=r))∧(∀ A,eQ A []=some [])∧(∀ A t rs,eQ A (.tmp t::rs)=kY (bg true A (A.t t)) (eQ A rs)) ∧
  (∀ A a s rs,eQ A (.cell a s::rs)=kY (qT s A (gD A (A.t a))) (eQ A rs))∧(∀ s A x,qT s A (some x)=if bV s x=true then bg true A x else none)∧(∀ x,kF [x]=x)∧(∀ x y xs,kF (x::y::xs)=.tuple (x::y::xs)) :=
 ⟨Yf,fun _ _=>rfl,Yj,fun _ _ _=>rfl,fun _ _ _ _ _ _=>rfl,fun _=>rfl,fun x=>by cases x <;>rfl,Ye,X8,Ya,Yb,X9,Yi,Yd,Yh,Yg,Ym,Yl,fun _ _=>rfl,Uq,Uw,Uv,Uu,Ur,Ux,Us,UA,Uy,
  ah1,ah0,fun _ _=>rfl,ahU,ahV,ahT,fun _ _ _=>rfl,fun _=>rfl,fun _ _ _=>rfl⟩
theorem zG :
  (∀ k a b,cD .add (.int k a) (.int k b)=some (.int k (k.wrap (a+b))))∧(∀ k a b,cD .sub (.int k a) (.int k b)=some (.int k (k.wrap (a-b))))∧(∀ k a b,cD .mul (.int k a) (.int k b)=some (.int k (k.wrap (a*b)))) ∧
  (∀ k a b,cD .quo (.int k a) (.int k b)=if b=0 then none else some (.int k (k.wrap (a.tdiv b))))∧(∀ k a b,cD .rem (.int k a) (.int k b)=if b=0 then none else some (.int k (a.tmod b))) ∧
  (∀ k a b,cD .and (.int k a) (.int k b)=some (.int k (k.wrap ((BitVec.ofInt k.bits a &&& BitVec.ofInt k.bits b).toNat:Int))))∧(∀ k a b,cD .or (.int k a) (.int k b)=some (.int k (k.wrap ((BitVec.ofInt k.bits a ||| BitVec.ofInt k.bits b).toNat:Int)))) ∧
  (∀ k a b,cD .xor (.int k a) (.int k b)=some (.int k (k.wrap ((BitVec.ofInt k.bits a ^^^ BitVec.ofInt k.bits b).toNat:Int))))∧(∀ k a b,cD .andNot (.int k a) (.int k b)=some (.int k (k.wrap ((BitVec.ofInt k.bits a &&& ~~~ BitVec.ofInt k.bits b).toNat:Int)))) ∧
  (∀ k k' a b,cD .shl (.int k a) (.int k' b)=if 0≤b then some (.int k (k.wrap (a*2^(min b.toNat k.bits)))) else none)∧(∀ k k' a b,cD .shr (.int k a) (.int k' b)=if 0≤b then some (.int k (a.fdiv (2^(min b.toNat k.bits)))) else none) ∧
  (∀ k a b,cD .eql (.int k a) (.int k b)=some (.bool (a==b)))∧(∀ k a b,cD .neq (.int k a) (.int k b)=some (.bool (a != b)))∧(∀ k a b,cD .lss (.int k a) (.int k b)=some (.bool (decide (a<b))))∧(∀ k a b,cD .leq (.int k a) (.int k b)=some (.bool (decide (a≤b)))) ∧
  (∀ k a b,cD .gtr (.int k a) (.int k b)=some (.bool (decide (b<a))))∧(∀ k a b,cD .geq (.int k a) (.int k b)=some (.bool (decide (b≤a)))) :=
 ⟨Qa,Qq,Qi,Qm,Qn,Qb,Ql,Qr,Qc,Qo,Qp,Qd,Qj,Qh,Qg,Qf,Qe⟩
end Go.Abs
namespace Go.Abs
open Go Go.RowKit
open Enc (enc)
section
variable {α:Type} [Enc α]
theorem afv(A:ae)(l:List α):jz A (enc l)=some (.int .i64 l.length):=by simp[gE,jz]
theorem Jv{A:ae}(esz:Nat){k:Int}{l:List α}(h:0≤k∧k.toNat<l.length)(hs:Enc.sz α=esz):gP A esz k (enc l)=some (.ref (enc l[k.toNat])):=by
 simp only[gE,gP,hs,zy1,true_and];rw[if_pos ⟨h.1,by omega⟩];simp[h.2]
theorem fJ{A:ae}(esz:Nat){k:Nat}{l:List α}(h:k<l.length)(hs:Enc.sz α=esz):gP A esz k (enc l)=some (.ref (enc l[k])):=by
 have:=Jv (A:=A) esz (k:=(k:Int)) (l:=l) ⟨by omega,by simpa using h⟩ hs;simpa using this
theorem aI.lt{α:Type}{n:Nat}(x:aI n α){k:Nat}(h:k<n):k<x.l.length:=by rw[x.h];exact h
theorem iI{n:Nat}(esz:Nat){k:Nat}(x:aI n α){y:Option I}(h:k<n)(hs:Enc.sz α=esz):iH (k:Int) n (iG n esz (x.l.map enc) y)=y:=by
 simp only[iH,iG,u9 n esz x.l x.h hs,if_true];rw[if_pos ⟨by omega,by omega⟩]
theorem ky{n:Nat}(esz:Nat){k:Int}(x:aI n α){y:Option I}(h:0≤k∧k<n)(hs:Enc.sz α=esz):iH k n (iG n esz (x.l.map enc) y)=y:=by
 simp only[iH,iG,u9 n esz x.l x.h hs,if_true];rw[if_pos h]
theorem aen{n k:Nat}(x:aI n α)(h:k<n):(x.l.map enc)[k]?=some (enc (x.l[k]'(x.lt h))):=by
 simp[x.lt h]
theorem P3{n k:Nat}{p:List Nat}{x:aI n α}(h:k<n):jO k p (some (x.l.map enc))=(enc (x.l[k]'(x.lt h))).at p:=by
 have hl:=x.lt h;simp[jO,oK,hl]
theorem agW(k:IntKind)(n:Int):gp none (some (.int k n))=some (.int k n):=by simp[gp,dC,bV,I.isAgg]
theorem agU(b:Bool):gp none (some (.bool b))=some (.bool b):=by simp[gp,dC,bV,I.isAgg]
theorem agX(z:Nat)(es:List I):gp none (some (.slice z es))=some (.slice z es):=by simp[gp,dC,bV,I.isAgg]
theorem agV(f:FuncId)(es:List I):gp none (some (.func f es))=some (.func f es):=by simp[gp,dC,bV,I.isAgg]
end
mutual
/-- What every value in memory keeps to: whole numbers within their kind,slices no longer than a slice can be. -/
def I.wf:I→Prop
 | .agg fs=>I.gN fs
 | .int k n=>k.min≤n∧n≤k.max
 | .cQ s=>s.size≤maxLen
 | .slice _ es=>es.length≤maxLen∧I.gN es
 | .ref c=>c.wf
 | .func _ caps=>I.gN caps
 | .iface _ v=>v.wf
 |_=>True
def I.gN:List I→Prop
 | []=>True
 |x::xs=>x.wf∧I.gN xs
end
mutual
theorem tr{w:World}{D:aL}{E:aT} : ∀ (x:I) (cs:List Value),af w D E x cs→x.wf
 | .agg fs,cs,h=>by simp only[af,I.wf] at *;exact x2 fs cs h
 | .int k n,cs,h=>by simp only[af,I.wf] at *;exact h.2
 | .cQ s,cs,h=>by simp only[af,I.wf] at *;exact h.2
 | .slice sz es,cs,h=>by
  simp only[af,I.wf] at *;obtain ⟨a,cap,_,h1,h2,h3,_⟩:=h;refine ⟨by omega,?_⟩;rcases h3 with rfl | ⟨b,off,cs',_,_,h4⟩
  ·simp[I.gN]
  ·exact x2 es cs' h4
 | .ref c,cs,h=>by simp only[af,I.wf] at *;obtain ⟨b,off,cs',_,_,h⟩:=h;exact tr c cs' h
 | .func f caps,cs,h=>by simp only[af,I.wf] at *;obtain ⟨vs,_,h⟩:=h;exact tF caps vs h
 | .iface t v,cs,h=>by simp only[af,I.wf] at *;obtain ⟨ao,cs',_,_,h⟩:=h;exact tr v cs' h
 | .bool _,_,_ | .nilp,_,_ | .da,_,_ | .dN,_,_ | .raw _,_,_ | .nils _,_,_ | .c0 _,_,_ | .ptr _ _,_,_ | .own _ _,_,_ | .view _ _ _ _ _,_,_ | .mref _,_,_ | .dj _,_,_ | .cL _ _,_,_ | .undef,_,_ | .c8,_,_ | .tuple _,_,_=>by simp[I.wf]
theorem x2{w:World}{D:aL}{E:aT} : ∀ (xs:List I) (cs:List Value),aG w D E xs cs→I.gN xs
 | [],_,_=>by simp[I.gN]
 |x::xs,cs,h=>by
  simp only[aG,I.gN] at *;obtain ⟨c1,c2,_,h1,h2⟩:=h;exact ⟨tr x c1 h1,x2 xs c2 h2⟩
theorem tF{w:World}{D:aL}{E:aT} : ∀ (xs:List I) (vs:List Value),aE w D E xs vs→I.gN xs
 | [],_,_=>by simp[I.gN]
 |x::xs,vs,h=>by
  simp only[aE,I.gN] at *;obtain ⟨v,rest,cs,_,_,h1,h2⟩:=h;exact ⟨tr x cs h1,tF xs rest h2⟩
end
theorem ai6{α:Type}[Enc α](l:List α):I.gN (l.map enc)↔∀ x∈l,(enc x:I).wf:=by
 induction l with
 |nil=>simp[I.gN]
 |cons x l ih=>simp[I.gN,ih]
theorem kM{α:Type}[Enc α](l:List α):(enc l:I).wf↔l.length≤maxLen∧∀ x∈l,(enc x:I).wf:=by
 simp only[gE,I.wf,zy1,ai6]
theorem ai5(n:Int):(enc n:I).wf↔-9223372036854775808≤n∧n≤9223372036854775807:=by
 change IntKind.i64.min≤n∧n≤IntKind.i64.max↔_
 simp[IntKind.min,IntKind.max,IntKind.bits,IntKind.signed]
theorem aC.wf{P:Program}{f:FuncId}{args:List I}{r:I}(hc:gC P f=true)(h:I.gN args→aC P f args r):aC P f args r :=
 ⟨hc,fun w D vs h1 h2=>(h (tF _ _ h2)).2 w D vs h1 h2⟩
theorem aC.bu{P:Program}{f:FuncId}{fn:Func}{x:aM}{rs:List a6}{args:List I}{r:I}(hf:P.funcs[f]?=some fn)(hcall:gC P f=true)(hc:(fn.body.bind (eL P fn.ntmps))=some x)
  (hrs:iz P fn.results.toList=some rs) (hn:args.length≤fn.ntmps) (h:I.gN args→∀ (w:World) (D:aL) (E:aT),U ⟨P,w,D,fn.ntmps,dm E,E,ig,none⟩ x (jq rs r) (ar (bj 0 args) [])):aC P f args r :=
 aC.wf hcall fun hw=>aC.mk hf hcall hc hrs hn (h hw)
theorem bP{α:Type}[Enc α] :
  (∀ A (l:List α),jz A (enc l)=some (.int .i64 l.length))∧(∀ n (x:aI n α),(enc x).dg=some (x.l.map enc)) :=
 ⟨afv,fun _ _=>rfl⟩
theorem kC:(∀ k n,gp none (some (.int k n))=some (.int k n))∧(∀ b,gp none (some (.bool b))=some (.bool b))∧(∀ z es,gp none (some (.slice z es))=some (.slice z es))∧(∀ f es,gp none (some (.func f es))=some (.func f es)) :=
 ⟨agW,agU,agX,agV⟩
end Go.Abs
namespace Go.Abs
open Go Go.RowKit
open Enc (enc)
def pt(neg:Bool):I→Option I
 | .nils _=>some (.bool (!neg))
 | .slice _ es=>if es.isEmpty then none else some (.bool neg)
 | .view _ _ _ _ _=>some (.bool neg)
 |_=>none
def JH:I→Option I
 | .cQ s=>some (.int .i64 s.size)
 |_=>none
open Classical in
noncomputable def ot(n:Nat)(p:List Nat)(sz l0 k esz:Nat)(lo hi mx:Option I):Option (List I)→Option I
 |some fs=>if sz=esz then gL n p sz l0 k fs.length lo hi mx else none
 |none=>none
noncomputable def oq(A:ae)(esz:Nat)(lo hi mx:Option I):I→Option I
 | .slice sz es=>if sz=esz then jH sz es lo hi mx else none
 | .nils sz=>if sz=esz then jH sz [] lo hi mx else none
 | .c0 sz=>if sz=esz then jH sz [] lo hi mx else none
 | .view n p sz l0 k=>ot n p sz l0 k esz lo hi mx (fp (eZ p (A.o n)))
 |_=>none
open Classical in
noncomputable def gY(esz:Nat):Option (List I)→Option I
 |some es=>if (es.all fun e=>e.size==esz)=true∧I.bW es=true then some (.slice esz es) else none
 |none=>none
open Classical in
noncomputable def p6(A:ae)(d:Option Nat)(e esz bytes n l T sz':Nat)(es:List I)(rest:List az):I→cE
 | .slice sz ys=>if xu e esz bytes l sz ys T sz' es then aA rest ((A.aN n (.bT e esz (es++ys))).aK d (.own n (es.length+ys.length))) else .fail
 |_=>.fail
open Classical in
noncomputable def oH(A:ae)(d:Option Nat)(e esz bytes:Nat)(z:I)(n l T:Nat)(xs:List Int)(rest:List az):I→cE
 | .slice _ ys=>if xv e esz bytes l ys T xs z then aA rest ((A.aN n (.cO e (xs++qq ys))).aK d (.own n (xs.length+ys.length))) else .fail
 |_=>.fail
noncomputable def p5(A:ae)(d:Option Nat)(e esz bytes:Nat)(z:I)(n l:Nat)(x:I)(rest:List az):Option ah→cE
 |some (.bT T sz' es)=>p6 A d e esz bytes n l T sz' es rest x
 |some (.cO T xs)=>oH A d e esz bytes z n l T xs rest x
 |_=>.fail
noncomputable def jN(A:ae)(d:Option Nat)(e esz bytes:Nat)(z x:I)(rest:List az):I→cE
 | .own n l=>p5 A d e esz bytes z n l x rest (A.o n)
 |s=>fo A d esz bytes z s (ep A esz s) (ep A esz x) (aA rest)
section
variable (d:Option Nat) (rest:List az) (A:ae)
noncomputable def pw(neg:Bool)(x:I):Bool→cE
 |true=>.any (fun m=>m<2) (fun m=>aA rest (A.aK d (.bool (m==0))))
 |false=>cK (pt neg x) (c7 d rest A)
theorem agE(neg:Bool)(x:aH):bN A d (.nilS neg x) rest=pw d rest A neg (ab A x) (jM (ab A x)):=by
 simp only[bN,a7,a8];cases jM (ab A x)
 ·simp only[zz7,if_false,pw,pt];cases ab A x <;>rfl
 ·rfl
theorem agw(x:aH):bN A d (.lenT x) rest=cK (JH (ab A x)) (c7 d rest A):=by
 simp only[bN,a7,a8];cases ab A x <;>rfl
theorem agJ(esz:Nat)(x:aH)(lo hi mx:Option aH):bN A d (.sl esz x lo hi mx) rest=cK (oq A esz (lo.map (ab A)) (hi.map (ab A)) (mx.map (ab A)) (ab A x)) (c7 d rest A):=by
 simp only[bN,a7,a8];cases ab A x <;>try rfl
 rename_i n p sz l0 k;simp only[oq,lX,gD];cases eZ p (A.o n) with
 |none=>rfl
 |some c=>cases c <;>simp only[fp,I.dg,ot] <;>(first | rfl | (split <;>rfl))
theorem agh(T esz:Nat)(ps:List aH):bN A d (.bs T esz ps) rest=cK (gY esz (bX false A (ps.map (ab A)))) (c7 d rest A):=by
 simp only[bN,a7,a8];cases bX false A (ps.map (ab A)) <;>simp only[gY] <;>rfl
theorem agc(e esz bytes:Nat)(z:I)(s x:aH):bN A d (.dH e esz bytes z s x) rest=jN A d e esz bytes z (ab A x) rest (ab A s):=by
 simp only[bN,a7];generalize ab A s=s';generalize ab A x=x';cases s' <;>simp only[jN]
 rename_i n l;cases x' <;>simp only <;>generalize A.o n=z <;>(cases z with
  |none=>rfl
  |some y=>cases y <;>simp only[p5,p6,oH])
end
theorem KE :
  (∀ d rest A neg x,bN A d (.nilS neg x) rest=pw d rest A neg (ab A x) (jM (ab A x)))∧(∀ d rest A neg x,pw d rest A neg x false=cK (pt neg x) (c7 d rest A))∧(∀ z,jM (.nils z)=false)∧(∀ n p sz lo k,jM (.view n p sz lo k)=false)∧(∀ d rest A x,bN A d (.lenT x) rest=cK (JH (ab A x)) (c7 d rest A)) ∧
  (∀ d rest A esz x lo hi mx,bN A d (.sl esz x lo hi mx) rest=cK (oq A esz (lo.map (ab A)) (hi.map (ab A)) (mx.map (ab A)) (ab A x)) (c7 d rest A)) ∧
  (∀ d rest A T esz ps,bN A d (.bs T esz ps) rest=cK (gY esz (bX false A (ps.map (ab A)))) (c7 d rest A))∧(∀ d rest A e esz bytes z s x,bN A d (.dH e esz bytes z s x) rest=jN A d e esz bytes z (ab A x) rest (ab A s)) ∧
  (∀ A d e esz bytes z x rest n l,jN A d e esz bytes z x rest (.own n l)=p5 A d e esz bytes z n l x rest (A.o n))∧(∀ A d e esz bytes z n l x rest T sz es,p5 A d e esz bytes z n l x rest (some (.bT T sz es))=p6 A d e esz bytes n l T sz es rest x)∧(∀ A d e esz bytes z n l x rest T xs,p5 A d e esz bytes z n l x rest (some (.cO T xs))=oH A d e esz bytes z n l T xs rest x) ∧
  (∀ neg z,pt neg (.nils z)=some (.bool (!neg))) :=
 ⟨agE,fun _ _ _ _ _=>rfl,fun _=>rfl,fun _ _ _ _ _=>rfl,agw,agJ,agh,agc,fun _ _ _ _ _ _ _ _ _ _=>rfl,fun _ _ _ _ _ _ _ _ _ _ _ _ _=>rfl,fun _ _ _ _ _ _ _ _ _ _ _ _=>rfl,fun _ _=>rfl⟩
theorem kD(p:Nat→Bool)(xs ys:List I):I.b8 p (xs++ys)=(I.b8 p xs&&I.b8 p ys):=by
 induction xs with
 |nil=>simp[I.b8]
 |cons x xs ih=>simp[I.b8,ih,Bool.and_assoc]
section
variable {α:Type} [Enc α]
theorem nB{A:ae}{d:Option Nat}(e:Nat)(esz bytes n:Nat){l:Nat}{es ys:List α}{rest:List az}(hl:l=es.length)(hs:Enc.sz α=esz)(hy:ys≠[])(h1:es.length+ys.length≤maxLen)(h2:(es.length+ys.length)*bytes≤140737488355328) :
  p6 A d e esz bytes n l e esz (es.map enc) rest (enc ys)=aA rest ((A.aN n (.bT e esz ((es++ys).map enc))).aK d (.own n (es++ys).length)):=by
 simp only[gE,p6];rw[if_pos ⟨by simpa using hl,hs,rfl,rfl,by simpa using hy,by simpa using h1,by simpa using h2⟩];simp
theorem mO(esz:Nat){ys:List α}(hs:Enc.sz α=esz):gY esz (some (ys.map enc))=some (enc ys):=by
 have h1:((ys.map enc).all fun e:I=>e.size==esz)=true:=by
  simp only[zy2,zx5];rintro x ⟨y,_,rfl⟩;simp[Enc.size,hs]
 simp only[gY,gE];rw[if_pos ⟨h1,kj ys⟩,hs]
theorem oO(esz:Nat)(y:α)(hs:Enc.sz α=esz):gY esz (some [enc y])=some (enc [y]):=mO (ys:=[y]) esz hs
theorem mU(sz:Nat){T k:Nat}{es:List α}(hk:k=es.length)(hs:Enc.sz α=sz):nI k (some (.bT T sz (es.map enc)))=some (enc es):=by
 simp only[nI,zy1];rw[if_pos ⟨hk,kj es⟩,gE,hs]
theorem fe(p:Nat→Bool)(l:List α):I.b8 p (l.map enc)=true:=by
 induction l with
 |nil=>rfl
 |cons x l ih=>simp only[zz9,I.b8,bA,ih,zw3]
theorem afw(A:ae)(n k T sz:Nat)(es:List α)(ho:A.o n=some (.bT T sz (es.map enc)))(hk:k=es.length):jz A (.own n k)=some (.int .i64 es.length):=by
 simp only[jz,ho,zy1,hk,if_true]
end
theorem Ju :
  (∀ n:Int,gY 1 (some [.int .i64 n])=some (enc [n]))∧(∀ (T:Nat) (es:List Int),nI es.length (some (.bT T 1 (es.map enc)))=some (enc es)) :=
 ⟨fun n=>oO 1 n rfl,fun _ _=>mU 1 rfl rfl⟩
theorem aF.PF{A:ae}{d n T sz z:Nat}(hd:A.t d=.nils z)(hn:A.o n=none)(hlt:n<1000000):aF A ((A.aN n (.bT T sz [])).put d (.own n 0)):=by
 rintro c a w ⟨D,E,h⟩;have av:E n=none:=by have:=h.bU n;rw[hn] at this;exact this
 have hl:dG w D E w D (fun m=>if m=n then some (.rw none 0) else E m):=by
  have ee:∀ {m:Nat} {e:bS},E m=some e→(if m=n then some (.rw none 0) else E m)=some e:=fun {m e} he=>by
   have:m≠n:=fun e=>by rw[e,av] at he;cases he
   rw[if_neg this];exact he
  refine ⟨fun _ _ h=>h,fun _ _ _ _ h=>h,fun m b aJ he=>ee he,fun m aD l he =>?_,fun m b he=>ee he,fun m b he=>ee he,fun _ _ _ _ h=>h⟩
  ·have:m≠n:=fun e=>by rw[e,av] at he;cases he
   exact ⟨aD,l,by simp only[if_neg this];exact he,zz6 _,fun _=>rfl⟩
 refine ⟨D,fun m=>if m=n then some (.rw none 0) else E m,h.sz,h.eF,fun t =>?_,h.dK,h.cV,h.c9,fun m =>?_,fun m m' e e' b h1 h2 h3 h4 =>?_,fun m e hm =>?_,h.eO,h.cG,h.eS,h.fq⟩
 ·simp only[ae.put,ae.aN];by_cases ht:t=d
  ·subst ht;simp only[if_true];have hv:=h.ea t;rw[hd] at hv;obtain ⟨cs,q1,q2⟩:=hv;simp only[af] at q2;subst q2;refine ⟨[.slice none 0 0],by simpa[bG,I.isAgg] using q1,?_⟩;simp only[af,if_true];exact ⟨none,0,rfl,zz6 _,⟨_,_,_,rfl⟩,fun _=>trivial⟩
  ·simp only[if_neg ht];exact aS.bE hl (h.ea t)
 ·simp only[ae.put,ae.aN];by_cases hm:m=n
  ·subst hm;simp only[if_true,cY];exact ⟨none,by simp,by simp,trivial⟩
  ·simp only[if_neg hm];exact (h.bU m).bE hl (by simp only[if_neg hm]) fun _ _ _ _=>⟨rfl,fun _ ho=>ho⟩
 ·by_cases hm:m=n <;>by_cases hm':m'=n
  ·rw[hm,hm']
  ·simp only[if_pos hm,u8] at h1;subst h1;simp[bS.aD] at h3
  ·simp only[if_pos hm',u8] at h2;subst h2;simp[bS.aD] at h4
  ·simp only[if_neg hm] at h1;simp only[if_neg hm'] at h2;exact h.cM m m' e e' b h1 h2 h3 h4
 ·have hmn:m≠n:=fun e=>by rw[e,h.jU (.inr hlt)] at hm;cases hm
  simp only[if_neg hmn];exact h.dQ m e hm
theorem aF.rF{ts:List (Nat×I)}{os:List (Nat×ah)}(d n T sz z:Nat)(hd:b9 ts d=.nils z)(hn:aj os n=none){B:ae}(h:aF (ar ((d,.own n 0)::ts) ((n,.bT T sz [])::os)) B)(hlt:n<1000000:=by decide):aF (ar ts os) B :=
 ((aF.PF (A:=ar ts os) (T:=T) (sz:=sz) hd hn hlt).trans (by rw[nV,sR];exact aF.refl _)).trans h
def aI.g{n:Nat}(x:aI n Int)(k:Nat):Int:=x.l.getD k 0
theorem aI.sr{n k:Nat}(x:aI n Int)(h:k<n):x.l[k]'(x.lt h)=x.g k:=by simp[aI.g,x.lt h]
theorem fF{n k:Nat}{p:List Nat}(x:aI n Int)(h:k<n):jO k p (some (x.l.map enc))=(I.int .i64 (x.g k)).at p:=by
 rw[P3 h,x.sr h];rfl
theorem qk{n k:Nat}(x:aI n Int)(h:k<n):(x.l.map (enc (α:=Int)))[k]?=some (I.int .i64 (x.g k)):=by
 rw[aen x h,x.sr h];rfl
theorem Ku:(∀ k n,bV none (.int k n)=true)∧(∀ b,bV none (.bool b)=true)∧(∀ z es,bV none (.slice z es)=true)∧(∀ f es,bV none (.func f es)=true)∧(∀ z,bV none (.nils z)=true)∧(∀ n k,bV none (.own n k)=true) :=
 ⟨fun _ _=>rfl,fun _=>rfl,fun _ _=>rfl,fun _ _=>rfl,fun _=>rfl,fun _ _=>rfl⟩
theorem oG{p:Nat→Bool}{n:Nat}(h:∀ k,k<n→p k=true):(List.range n).all p=true:=by
 simp only[zy2,zx4];exact h
theorem mM{p:Nat→Bool}{n:Nat}(i:Nat)(hi:i<n)(h:p i=false):(List.range n).all p=false:=by
 simp only[List.all_eq_false,zx4];exact ⟨i,hi,by simp[h]⟩
theorem J:(type_of% @oF)∧(type_of% @KD)∧(type_of% @KE)∧(type_of% @Ju)∧(type_of% @Ku)∧(type_of% @NS)∧(type_of% @CL)∧(type_of% @zG)∧(∀ n:Int,(enc n:I)=.int .i64 n)∧(∀ n:Bool,(enc n:I)=.bool n) ∧
  (∀ {α β:Type} (f:α→β) (x:α) (xs:List α),List.map f (x::xs)=f x::List.map f xs)∧(∀ {α β:Type} (f:α→β),List.map f []=[])∧(∀ {α:Type} (xs:List α),[]++xs=xs)∧(∀ n:Nat,(n:Int).toNat=n)∧(∀ {α β:Type} (f:α→β) (x:α),Option.map f (some x)=some (f x)) ∧
  (∀ n:Nat,0≤(n:Int))∧((!true)=false)∧((!false)=true)∧((false=true)=False)∧((true=false)=False) :=
 ⟨@oF,@KD,@KE,@Ju,@Ku,@NS,@CL,@zG,jx,Cp,fun _ _ _=>rfl,fun _=>rfl,fun _=>rfl,fun _=>rfl,fun _ _=>rfl,fun n=>Int.natCast_nonneg n,rfl,rfl,by simp,by simp⟩
end Go.Abs
namespace Go.Abs
open Go Go.RowKit
open Enc (enc)
theorem ke.bu{P:Program}{f:FuncId}{fn:Func}{x:aM}{rs:List a6}{Y:Value→List I→List (Nat×ah)→cR→Prop}{args:List I}{os:List (Nat×ah)}{post:cR}(hf:P.funcs[f]?=some fn)(hcall:gC P f=true)(hc:(fn.body.bind (eL P fn.ntmps))=some x)
  (hrs:iz P fn.results.toList=some rs) (hn:args.length≤fn.ntmps) (hn2:fn.ntmps≤1000000) (hos:∀ m,aq os m=true→1000000≤m) (h:I.gN args→∀ (w:World) (D:aL) (E:aT),U ⟨P,w,D,fn.ntmps,dm E,E,Y,none⟩ x (nk rs post) (ar (bj 0 args) os)):ke P f Y args os post:=by
 obtain ⟨body,hb,hc'⟩:=Option.bind_eq_some_iff.1 hc;refine ⟨hcall,fun w D E vs hy hD ho hv =>?_⟩;exact (ke.ta hf hb hcall hc' hrs hn (fun m hm=>⟨zv7 hn2 (hos m hm),hos m hm⟩) (fun w D E=>(h (tF _ _ hv) w D E).sub (ND args os))).2 w D E vs hy hD ho hv
theorem cC.bu{P:Program}{f:FuncId}{fn:Func}{x:aM}{rs:List a6}{args:List I}{os:List (Nat×ah)}{post:cR}(hf:P.funcs[f]?=some fn)(hcall:gC P f=true)(hc:(fn.body.bind (eL P fn.ntmps))=some x)
  (hrs:iz P fn.results.toList=some rs) (hn:args.length≤fn.ntmps) (hn2:fn.ntmps≤1000000) (hos:∀ m,aq os m=true→1000000≤m) (h:I.gN args→∀ (w:World) (D:aL) (E:aT),U ⟨P,w,D,fn.ntmps,dm E,E,ig,none⟩ x (nk rs post) (ar (bj 0 args) os)):cC P f args os post :=
 cC.J9 (ke.bu hf hcall hc hrs hn hn2 hos h)
theorem ql{A:ae} : ∀ n x,aj [] n=some x→A.o n=some x∧x.only (aq [])=true∧x.eH=true:=fun n x h=>by simp[aj] at h
theorem mW{A:ae}{k:Nat}{c:I}(h1:A.o k=some (.box c))(h2:∀ p,c.only p=true):∀ n x,aj [(k,.box c)] n=some x→A.o n=some x∧x.only (aq [(k,.box c)])=true∧x.eH=true:=fun n x h=>by
 simp only[aj] at h;split at h
 ·rename_i hn;subst hn;simp only[u8] at h;subst h;exact ⟨h1,h2 _,rfl⟩
 ·cases h
theorem er.nil{aB:Bool}{ρ:List (Nat×Nat)}{os0:List (Nat×ah)}{r:I}(h1:∀ p,r.only p=true)(h2:aB=true→r.cS=true):er aB ρ [] os0 r [] :=
 ⟨fun m x h=>by simp[aj] at h,fun m m' h=>by simp[aq,aj] at h,fun m h=>by simp[aq,aj] at h,fun m h=>by simp[aq,aj] at h,h1 _,h2⟩
theorem di{k:Nat}{x:ah}{m:Nat} : aq [(k,x)] m=true↔m=k:=by
 simp only[aq,aj];split <;>simp_all
theorem er.sX{aB:Bool}{k d:Nat}{os0:List (Nat×ah)}{r c:I}(h1:∀ p,c.only p=true)(h2:aB=true→c.cS=true)(h3:r.only (aq [(k,.box c)])=true)(h4:aB=true→r.cS=true)(h5:aj os0 d=none)(h6:d<1000000):er aB [(k,d)] [] os0 r [(k,.box c)]:=by
 refine ⟨fun m x h =>?_,fun m m' h h' _ =>?_,fun m h=>by simp[aq,aj] at h,fun m h _ =>?_,h3,h4⟩
 ·simp only[aj] at h;split at h
  ·simp only[u8] at h;subst h;exact ⟨h1 _,rfl,h2⟩
  ·cases h
 ·rw[di.1 h,di.1 h']
 ·rw[di.1 h];simp[bD,h5,h6]
theorem er.one{aB:Bool}{k d:Nat}{x:ah}{os0:List (Nat×ah)}{r c:I}(h1:∀ p,c.only p=true)(h2:aB=true→c.cS=true)(h3:r.only (aq [(k,.box c)])=true)(h4:aB=true→r.cS=true):er aB [(k,d)] [(k,x)] os0 r [(k,.box c)]:=by
 refine ⟨fun m x h =>?_,fun m m' h h' _ =>?_,fun m h =>?_,fun m h h' =>?_,h3,h4⟩
 ·simp only[aj] at h;split at h
  ·simp only[u8] at h;subst h;exact ⟨h1 _,rfl,h2⟩
  ·cases h
 ·rw[di.1 h,di.1 h']
 ·rw[di.1 h];exact di.2 rfl
 ·rw[di.1 h] at h';have:aq [(k,x)] k=true:=di.2 rfl;rw[this] at h';cases h'
theorem fS.nil{ρ:List (Nat×Nat)}{os0:List (Nat×ah)} : fS ρ [] os0:=⟨fun m x h=>by simp[aj] at h,fun m m' h=>by simp[aq,aj] at h⟩
mutual
theorem qQ(ρ:Nat→Nat):∀ x:I,x.bp=true→x.aO ρ=x
 | .agg fs,h=>by simp only[I.aO,I.bp] at *;rw[oc ρ fs h]
 | .slice _ es,h=>by simp only[I.aO,I.bp] at *;rw[oc ρ es h]
 | .ref x,h=>by simp only[I.aO,I.bp] at *;rw[qQ ρ x h]
 | .func _ caps,h=>by simp only[I.aO,I.bp] at *;rw[oc ρ caps h]
 | .iface _ v,h=>by simp only[I.aO,I.bp] at *;rw[qQ ρ v h]
 | .bool _,_ | .int _ _,_ | .cQ _,_ | .nilp,_ | .da,_ | .dN,_ | .raw _,_ | .nils _,_ | .c0 _,_=>by simp only[I.aO]
 | .cL ks vs,h=>by simp only[I.aO,I.bp,zz2] at *;rw[oc ρ ks h.1,oc ρ vs h.2]
 | .ptr _ _,h | .own _ _,h | .view _ _ _ _ _,h | .mref _,h | .dj _,h | .undef,h | .c8,h | .tuple _,h=>by simp[I.bp] at h
theorem oc(ρ:Nat→Nat):∀ xs:List I,I.bW xs=true→I.cP ρ xs=xs
 | [],_=>rfl
 |x::xs,h=>by
  simp only[I.bW,zz2] at h;simp only[I.cP,qQ ρ x h.1,oc ρ xs h.2]
end
theorem jn :
  (∀ (k:IntKind) n (ρ:Nat→Nat),(I.int k n).aO ρ=.int k n)∧(∀ (b:Bool) (ρ:Nat→Nat),(I.bool b).aO ρ=.bool b)∧(∀ n p (ρ:Nat→Nat),(I.ptr n p).aO ρ=.ptr (ρ n) p) ∧
  (∀ n p sz lo k (ρ:Nat→Nat),(I.view n p sz lo k).aO ρ=.view (ρ n) p sz lo k)∧(∀ fs (ρ:Nat→Nat),(I.agg fs).aO ρ=.agg (I.cP ρ fs))∧(∀ fs (ρ:Nat→Nat),(I.tuple fs).aO ρ=.tuple (I.cP ρ fs))∧(∀ f fs (ρ:Nat→Nat),(I.func f fs).aO ρ=.func f (I.cP ρ fs)) ∧
  (∀ ρ:Nat→Nat,I.cP ρ []=[])∧(∀ (ρ:Nat→Nat) x xs,I.cP ρ (x::xs)=x.aO ρ::I.cP ρ xs)∧(∀ (ρ:Nat→Nat) (x:I),(ah.box x).aO ρ=.box (x.aO ρ)) ∧
  (∀ (z:Nat) (ρ:Nat→Nat),(I.nils z).aO ρ=.nils z)∧(∀ (z:Nat) (ρ:Nat→Nat),(I.c0 z).aO ρ=.c0 z) ∧
  (∀ n,bD [] n=n)∧(∀ a b r n,bD ((a,b)::r) n=if n=a then b else bD r n)∧(∀ ρ,dJ ρ []=[])∧(∀ ρ k x os,dJ ρ ((k,x)::os)=(bD ρ k,x.aO (bD ρ))::dJ ρ os) :=
 ⟨fun _ _ _=>by simp only[I.aO],fun _ _=>by simp only[I.aO],fun _ _ _=>by simp only[I.aO],fun _ _ _ _ _ _=>by simp only[I.aO],fun _ _=>by simp only[I.aO],fun _ _=>by simp only[I.aO],fun _ _ _=>by simp only[I.aO],
  fun _=>rfl,fun _ _ _=>by simp only[I.cP],fun _ _=>rfl,fun _ _=>by simp only[I.aO],fun _ _=>by simp only[I.aO],fun _=>rfl,fun _ _ _ _=>rfl,fun _=>rfl,fun _ _ _ _=>rfl⟩
section
variable {α:Type} [Enc α]
theorem jR(ρ:Nat→Nat)(x:α):(enc x).aO ρ=enc x:=qQ ρ _ (dM x)
theorem iR(ρ:Nat→Nat)(l:List α):I.cP ρ (l.map enc)=l.map enc:=oc ρ _ (kj l)
class nz (α:Type) [Enc α]:Prop where
 cS:∀ x:α,(enc x).cS=true
theorem Cq[nz α](x:α):(enc x).cS=true:=nz.cS x
theorem wT[nz α](l:List α):I.iM (l.map enc)=true:=by
 induction l with
 |nil=>rfl
 |cons x l ih=>simp only[zz9,I.iM,Cq,ih,zw3]
instance:nz Int:=⟨fun _=>rfl⟩
instance {n:Nat} [nz α]:nz (aI n α):=⟨fun x=>by simp only[enc,I.cS];exact wT x.l⟩
theorem Np(A:ae)(esz:Nat)(l:List α)(hs:Enc.sz α=esz):ep A esz (enc l)=some (l.map enc):=by
 simp only[gE,ep,hs,if_true]
theorem tO(l:List α):jM (enc l)=l.isEmpty:=by
 simp only[gE,jM];cases l <;>rfl
theorem J4(neg:Bool)(l:List α)(h:l≠[]):pt neg (enc l)=some (.bool neg):=by
 simp only[gE,pt];cases l with
 |nil=>exact absurd rfl h
 |cons=>rfl
section
variable {P:Program} {Y:Value→List I→List (Nat×ah)→cR→Prop} {K:ae→Prop} {A:ae} {rest:List az} {d:Nat} {e esz bytes:Nat} {q:Nat}
theorem bh.zq(z:α){l:List α}(hs:Enc.sz α=esz)(hl:l≠[])(hf:A.o d=none)(hb:l.length*bytes≤140737488355328)(hml:l.length≤maxLen)
  (h:∀ m,bh P Y false K (aA rest ((A.aN d (.box (.agg ((l++List.replicate m z).map enc)))).aK (some d) (.view d [] esz 0 l.length)))):bh P Y false K (jN A (some d) e esz bytes (enc z) (enc l) rest (.c0 q)):=by
 have hne:l.map (enc (α:=α))≠[]:=by simpa using hl
 have h1:ep A esz (.c0 q)=some []:=rfl;simp only[jN,h1,Np A esz l hs,fo,if_neg hne,gz,hf,List.length_nil,zz4,zy1,if_pos (v6 hb hml),zy8];refine .any rfl fun m _ =>?_;have:=h m;simp only[zx6,List.map_replicate] at this;exact this
theorem aji(z:I)(hs:Enc.sz α=esz):jN A (some d) e esz bytes z (enc ([]:List α)) rest (.c0 q)=aA rest (A.aK (some d) (.c0 q)):=by
 have h1:ep A esz (.c0 q)=some []:=rfl;simp only[jN,h1,Np A esz ([]:List α) hs,fo,zx2,if_true]
theorem agk(esz:Nat)(z:I)(x:aH)(rest:List az)(A:ae):bN A none (.je esz z x) rest=mQ A esz z (aA rest) (ab A x):=rfl
theorem ail(z:α)(k:Nat):I.cN (List.replicate k (enc z))=List.replicate k (Enc.aJ α):=by
 have:List.replicate k (enc z)=(List.replicate k z).map (enc (α:=α)):=by simp
 rw[this,qX];simp
theorem uL(z:α){n lo k:Nat}{xs:List α}(ho:A.o n=some (.box (.agg (xs.map enc))))(hk:lo+k≤xs.length) :
  mQ A esz (enc z) (aA rest) (.view n [] esz lo k)=aA rest (A.aN n (.box (.agg ((xs.take lo++(List.replicate k z++xs.drop (lo+k))).map enc)))):=by
 have h1:I.cN (List.replicate k (enc z))=I.cN (((xs.map (enc (α:=α))).drop lo).take k):=by
  rw[ail,←List.map_drop,←List.map_take,qX,zx3,zx0]
  congr 1;omega
 have h2:(I.agg (xs.map (enc (α:=α)))).at []=some (.agg (xs.map enc)):=rfl;simp only[mQ,ho,h2];rw[if_pos ⟨rfl,h1⟩];simp only[iT,fR,zx6,List.map_take,List.map_drop,List.map_replicate,List.length_replicate]
theorem ym{n:Nat}{p:List Nat}{sz k total i:Nat}(h:i≤total)(h0:0<total):gL n p sz 0 k total none (some (.int .i64 i)) none=some (.view n p sz 0 i):=by
 simp only[gL,gX];rw[if_pos ⟨by omega,by omega,by omega⟩,if_neg (by omega)];simp
theorem yn{n:Nat}{p:List Nat}{sz k total i:Nat}(h:i≤k)(hk:k≤total)(h0:i<total):gL n p sz 0 k total (some (.int .i64 i)) none none=some (.view n p sz i (k-i)):=by
 simp only[gL,gX];rw[if_pos ⟨by omega,by omega,by omega⟩,if_neg (by omega)];simp
theorem wO{m:Nat}{p:List Nat}{sz lo l j:Nat}{fs:List I}(h:j<l):ma m p sz lo l sz (j:Int) (some fs)=some (.ptr m (p++[lo+j])):=by
 simp only[ma,true_and];rw[if_pos ⟨by omega,by omega⟩];simp
theorem r8{sz k:Nat}{xs:List α}(hs:Enc.sz α=sz):l6 sz 0 k (some (xs.map enc))=some (enc (xs.take k)):=by
 have h:((xs.map (enc (α:=α))).drop 0).take k=(xs.take k).map enc:=by rw[List.drop_zero,List.map_take]
 simp only[l6,h];rw[if_pos (kj _),gE,hs]
end
end
theorem ae4(A:ae)(esz m:Nat)(p:List Nat)(sz lo l:Nat)(k:Int):gP A esz k (.view m p sz lo l)=ma m p sz lo l esz k (fp (eZ p (A.o m))):=rfl
theorem afx(A:ae)(m:Nat)(p:List Nat)(sz lo l:Nat):jz A (.view m p sz lo l)=some (.int .i64 l):=rfl
theorem aio(A:ae)(esz:Nat)(lo hi mx:Option I)(n:Nat)(p:List Nat)(l0 k:Nat):oq A esz lo hi mx (.view n p esz l0 k)=ot n p esz l0 k esz lo hi mx (fp (eZ p (A.o n))):=rfl
theorem aip(n:Nat)(p:List Nat)(sz l0 k:Nat)(lo hi mx:Option I)(fs:List I):ot n p sz l0 k sz lo hi mx (some fs)=gL n p sz l0 k fs.length lo hi mx:=by simp[ot]
theorem eB :
  (∀ A esz m p sz lo l k,gP A esz k (.view m p sz lo l)=ma m p sz lo l esz k (fp (eZ p (A.o m))))∧(∀ A m p sz lo l,jz A (.view m p sz lo l)=some (.int .i64 l)) ∧
  (∀ A esz lo hi mx n p l0 k,oq A esz lo hi mx (.view n p esz l0 k)=ot n p esz l0 k esz lo hi mx (fp (eZ p (A.o n))))∧(∀ n p sz l0 k lo hi mx fs,ot n p sz l0 k sz lo hi mx (some fs)=gL n p sz l0 k fs.length lo hi mx) ∧
  (∀ esz z x rest A,bN A none (.je esz z x) rest=mQ A esz z (aA rest) (ab A x))∧(∀ rest A d esz,bN A d (.bs0 esz) rest=aA rest (A.aK d (.c0 esz))) :=
 ⟨ae4,afx,aio,aip,agk,fun _ _ _ _=>rfl⟩
theorem fD(rs:List a6)(post:cR)(A:ae):nk rs post .ret A=kQ rs post A:=rfl
theorem lI(rs:List a6)(post:cR)(A:ae):nk rs post .normal A=kQ rs post A:=rfl
theorem aF.hZ{ts:List (Nat×I)}{os0:List (Nat×ah)}(ns:List Nat)(d:Nat){x y:I}(hd:b9 ts d=x)(h:bg true (ar ts (iL ns os0)) x=some y)(ho:br (fun n => !ns.contains n) (cW ns os0)) :
  aF (ar ts os0) (ar ((d,y)::fV ns ts) (cW ns os0)):=by
 rintro c a w ⟨D,E,hs⟩;obtain ⟨D1,E1,hs1,hw⟩:=hs.CZ ns ho;have hu:eb (ar ts (iL ns os0)) (ar ts os0):=fun n z hz=>by
  simp only[ar,nS] at hz ⊢;split at hz
  ·exact hz
  ·cases hz
 have hx:x.cd=true:=by cases x <;>first | rfl | simp[bg] at h
 have hv:=hs.ea d;simp only[ar] at hv;rw[hd] at hv;have h1:aE w D E [x] [a.tmps.getD d undef]:=lL [x] _ (.cons hv .nil) (by intro z hz;simp only[List.mem_singleton] at hz;subst hz;exact hx);have h2:=lq (E':=E1) hs hu hw [x] [y] _ h1 (by simp only[bX,h]);have h3:aS w D1 E1 y (a.tmps.getD d undef):=by
  simp only[aE] at h2;obtain ⟨v',rest,cs,e,k1,k2,_⟩:=h2;simp only[List.cons.injEq] at e;obtain ⟨e1,_⟩:=e;rw[e1];exact mf k1 k2
 refine ⟨D1,E1,hs1.sz,hs1.eF,fun t =>?_,hs1.dK,hs1.cV,hs1.c9,hs1.bU,hs1.cM,hs1.dQ,hs1.eO,hs1.cG,hs1.eS,hs1.fq⟩;simp only[ar,b9];split
 ·rename_i ht;subst ht;exact h3
 ·exact hs1.ea t
theorem aF.nK{ts ts':List (Nat×I)}{os0 os':List (Nat×ah)}(ns:List Nat)(d:Nat){x y:I}(hd:b9 ts d=x)(h:bg true (ar ts (iL ns os0)) x=some y)(ho:br (fun n => !ns.contains n) (cW ns os0))
  (h1:aV ((d,y)::fV ns ts) ts') (h2:bO (cW ns os0) os') (h3:bM (aq os') ts') (h4:br (aq os') os'):aF (ar ts os0) (ar ts' os') :=
 (aF.hZ ns d hd h ho).trans (aF.bY h1 h2 h3 h4)
theorem U.yG{c:cI}{Q:Exit→ae→Prop}{A:ae}{x:aM}(T:ae)(h1:U c x (al (fun B=>aF B T) fun _ _=>False) A)(h2:∀ B,aF B T→Q .normal B):U c x Q A :=
 h1.mono fun e B hq=>by
  cases e <;>simp only[al] at hq <;>first
   |exact h2 B hq
   |exact hq.elim
def mL(w:World):aL:=fun b _=>b<w.heap.size
structure pY (P:Program) (t:TypeId) (α:Type) [Enc α]:Prop where
 cells:P.cellsOf t=Enc.sz α
 qL:0<Enc.sz α
 lD:∀ {H:Type} {enc0:TypeId×Value→H} {w:World} {fuel:Nat} {cs:List Value} {x:DataW H×List MemPlace},DataW.trod enc0 P w 0 (fun _=>true) true fuel t cs=some x→∃ a:α,af w (mL w) dL (enc a) cs
theorem ahk{P:Program}{t:TypeId}(ht:P.underlying t=some (.int .i64))(hc:P.cellsOf t=1):pY P t Int :=
 ⟨hc,by decide,fun h=>by
  obtain ⟨n,rfl,_,hw⟩:=DataW.trod_int ht h;refine ⟨n,?_⟩;rw[jx,af];simp only[Lit.wf,zz2,decide_eq_true_eq] at hw;exact ⟨rfl,hw.1,hw.2⟩⟩
theorem PD(a:Addr)(i j:Nat):(a.add i).add j=a.add (i+j):=by
 unfold Addr.add;by_cases hi:i=0 <;>by_cases hj:j=0 <;>simp[hi,hj,Nat.add_assoc]
end Go.Abs
namespace Go.Abs
open Go Go.RowKit Go.ChangeShapes
open Enc (enc)
def sE(P:Program)(t:TypeId)(l:List (TypeId×Nat)):Bool:=match P.underlying t with
 |some (.struct fs)=>fs.toList.map (fun f=>(f.type,f.offset))==l
 |_=>false
theorem ae6{P:Program}{t:TypeId}{l:List (TypeId×Nat)}(h:sE P t l=true):∃ fs,P.underlying t=some (.struct fs)∧fs.toList.map (fun f=>(f.type,f.offset))=l:=by
 unfold sE at h;split at h
 ·rename_i fs ht;exact ⟨fs,ht,by simpa using h⟩
 ·cases h
section
variable {P:Program} {t:TypeId} {α β γ:Type} [Enc α] [Enc β] [Enc γ] {H:Type} {enc0:TypeId×Value→H} {w:World} {fuel:Nat} {cs:List Value} {x:DataW H×List MemPlace}
theorem ahj{base:Nat}{v:Value}{d:DataW H}{p:List MemPlace}(ho:pY P t α)(hA:Enc.fI α=false)(hst:(match P.underlying t with | some (.slice _) | some (.int _) | some .bool=>true | _=>false)=true)(hv:Value.okWide P w .any base t v)
  (h:DataW.Trod enc0 P w 0 (fun _=>true) true t v d p):∃ (a:α) (cs:List Value),bG (enc a) v cs∧af w (mL w) dL (enc a) cs:=by
 obtain ⟨fuel,h⟩:=h;have hone:v.cells.toList=[v]:=by
  unfold Value.okWide at hv;split at hst
  ·rename_i e ht;rw[ht] at hv;simp only[Cell.okWide,ht] at hv;cases v <;>simp_all[Cell.ok,Value.cells]
  ·rename_i e ht;rw[ht] at hv;simp only[Cell.okWide,ht] at hv;cases v <;>simp_all[Cell.ok,Value.cells]
  ·rename_i ht;rw[ht] at hv;simp only[Cell.okWide,ht] at hv;cases v <;>simp_all[Cell.ok,Value.cells]
  ·cases hst
 rw[hone] at h;obtain ⟨a,ha⟩:=ho.lD h;exact ⟨a,[v],by simp[bG,Enc.agg,hA],ha⟩
end
theorem ahv{H:Type}{enc0:TypeId×Value→H}{P:Program}{f:Func}{s:ChangeSpec}{apart jU handsOn again:Bool}{W W':World}{args:Array Value}{v:Value}{ds gs:List (DataW H)}{before pa pv:List MemPlace}
  (hW:DataW.Whole enc0 P f.params.toList s.vars apart W args.toList ds gs before)
  (hres:∀ (b:Nat) (sp:Nat→Bool) (hd:Bool),DataW.TrodAll enc0 P W' b sp hd f.resultTypes.toList (v.resultList f.resultTypes.size) (s.fn H (ds++gs)).results [])
  (hargs:∀ sp:Nat→Bool,(∀ p∈before,sp p.block=true)→DataW.TrodAll enc0 P W' 0 sp true f.params.toList args.toList (s.fn H (ds++gs)).args pa)
  (hvars:∀ sp:Nat→Bool,(∀ p∈before,sp p.block=true)→DataW.TrodVars enc0 P W' sp s.vars (s.fn H (ds++gs)).vars pv)
  (hps:before=pa++pv) (hb:Below W.heap.size W W')
  (hok:∀ (j:Nat) (t:TypeId) (r:Value),f.resultTypes[j]?=some t→(v.resultList f.resultTypes.size)[j]?=some r→Value.okWide P W' .any 0 t r) :
  s.post enc0 P f apart jU handsOn again W args v W':=by
 have hlt:∀ p∈before,p.block<W.heap.size:=fun p hp=>by simpa using hW.lt p hp
 have hold:∀ p∈before,(fun b=>decide (b<W.heap.size)) p.block=true:=fun p hp=>by simpa using hlt p hp
 refine ⟨ds,gs,before,[],pa,pv,hW,hres _ _ _,hargs _ hold,hvars _ hold,World.keptBut_mono (fun p hp=>⟨hp,?_⟩) (hb.frame (· ∈ before)),fun _ =>?_⟩
 ·rw[hps,zy7] at hp;exact Or.inr hp
 ·obtain ⟨_,_,_,_,_,hz,hn⟩:=hW;refine ⟨hok,_,_,([]++pa)++pv,⟨[]++pa,pv,trodAll_append (hargs _ (fun _ _=>rfl)) (hres _ _ _),hvars _ (fun _ _=>rfl),rfl,?_,?_⟩,?_⟩
  ·intro b off hp;have hp':MemPlace.cell b off∈before:=by rw[hps];simpa using hp
   rw[hb.frozen (p:=⟨b,off,none⟩) (hlt _ hp')];exact hz b off hp'
  ·intro ha;have:=hn ha;rw[hps] at this;simpa using this
  ·intro p hp _;rw[hps];simpa using hp
end Go.Abs
