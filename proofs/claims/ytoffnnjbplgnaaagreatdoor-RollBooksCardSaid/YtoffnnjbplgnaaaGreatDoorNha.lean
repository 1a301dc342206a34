/-
  A part of the proof that the law RollBooks returns true for every input; five variables of Go's library start as the text lays them (the card ties them); conditions: none beyond the statement's own. (part 1 of 7)
-/
import Derived.WalkKit
import Derived.Orders
import Derived.Still
import Derived.RangeFuncSeq
import Derived.RangeFuncLeaves
import Derived.RangeFuncOwn
import Derived.Great.FillDense
import Derived.Great.BuildSlice
import Derived.Laws.CopyRow
import Derived.ChangeKeysEq
import Derived.Laws.AppendOwn
set_option linter.unusedSimpArgs false
set_option linter.unusedVariables false
set_option maxHeartbeats 16000000
set_option maxRecDepth 100000
namespace Go
theorem y6:type_of% @And.intro:=@And.intro
theorem v6:type_of% @Option.some.injEq:=@Option.some.injEq
theorem t7:type_of% @Nat.le_of_ble_eq_true:=@Nat.le_of_ble_eq_true
theorem t8:type_of% @Option.map_eq_some_iff:=@Option.map_eq_some_iff
theorem zz0:type_of% @Bool.and_eq_true:=@Bool.and_eq_true
theorem zz1:type_of% @List.length_append:=@List.length_append
theorem zz2:type_of% @List.length_map:=@List.length_map
theorem zz3:type_of% @Nat.zero_add:=@Nat.zero_add
theorem zz4:type_of% @Bool.false_eq_true:=@Bool.false_eq_true
theorem zz5:type_of% @List.getElem?_eq_getElem:=@List.getElem?_eq_getElem
theorem zz6:type_of% @List.getD_eq_getElem?_getD:=@List.getD_eq_getElem?_getD
theorem zz7:type_of% @List.map_cons:=@List.map_cons
theorem zz8:type_of% @Nat.le_refl:=@Nat.le_refl
theorem zz9:type_of% @List.getElem?_eq_some_iff:=@List.getElem?_eq_some_iff
theorem zy0:type_of% @List.length_take:=@List.length_take
theorem zy1:type_of% @Option.map_some:=@Option.map_some
theorem zy2:type_of% @List.cons_append:=@List.cons_append
theorem zy3:type_of% @List.append_assoc:=@List.append_assoc
theorem zy4:type_of% @List.nil_append:=@List.nil_append
theorem zy5:type_of% @Array.getElem?_eq_some_iff:=@Array.getElem?_eq_some_iff
theorem zy6:type_of% @List.cons.injEq:=@List.cons.injEq
theorem zy7:type_of% @Option.isSome_iff_exists:=@Option.isSome_iff_exists
theorem zy8:type_of% @Option.map_none:=@Option.map_none
theorem zy9:type_of% @List.map_nil:=@List.map_nil
theorem zx0:type_of% @Int.eq_ofNat_of_zero_le:=@Int.eq_ofNat_of_zero_le
theorem zx1:type_of% @List.mem_map:=@List.mem_map
theorem zx2:type_of% @List.getElem?_map:=@List.getElem?_map
theorem zx3:type_of% @List.all_eq_true:=@List.all_eq_true
theorem zx4:type_of% @List.map_append:=@List.map_append
theorem zx5:type_of% @List.length_drop:=@List.length_drop
theorem zx6:type_of% @Array.length_toList:=@Array.length_toList
theorem zx7:type_of% @List.take_succ_eq_append_getElem:=@List.take_succ_eq_append_getElem
theorem zx8:type_of% @List.getElem?_append_left:=@List.getElem?_append_left
theorem zx9:type_of% @List.length_nil:=@List.length_nil
theorem zw0:type_of% @List.length_cons:=@List.length_cons
theorem zw1:type_of% @List.mem_append:=@List.mem_append
theorem zw2:type_of% @List.eq_nil_of_length_eq_zero:=@List.eq_nil_of_length_eq_zero
theorem zw3:type_of% @List.getElem_mem:=@List.getElem_mem
theorem zw4:type_of% @Option.bind_eq_some_iff:=@Option.bind_eq_some_iff
theorem zw5:type_of% @List.mem_cons:=@List.mem_cons
theorem zw6:type_of% @Bool.false_and:=@Bool.false_and
theorem zw7:type_of% @Nat.zero_le:=@Nat.zero_le
theorem zw8:type_of% @Int.toNat_natCast:=@Int.toNat_natCast
end Go
namespace Go.Abs
open Go
inductive I where
 |undef | cV
 |bool (b:Bool)
 |int (k:IntKind) (n:Int)
 |ay (s:ByteArray)
 |nilp | cZ | cR
 |any
 |raw (v:Value)
 |nils (sz:Nat)
 |c0 (sz:Nat)
 |slice (sz:Nat) (es:List I)
 |agg (fs:List I)
 |tuple (fs:List I)
 |ref (c:I)
 |func (f:FuncId) (caps:List I)
 |iface (t:TypeId) (v:I)
 |ptr (n:Nat) (p:List Nat)
 |own (n:Nat) (k:Nat)
 |view (n:Nat) (p:List Nat) (sz lo k:Nat)
 |mref (n:Nat)
 |cU (n:Nat)
 |cu (ks vs:List I)
 deriving Inhabited
inductive bY where
 |one
 |ej (l:List bY)
 deriving Inhabited
mutual
def bY.size:bY→Nat
 | .one=>1
 | .ej l=>bY.sizes l
def bY.sizes:List bY→Nat
 | []=>0
 |s::l=>s.size+bY.sizes l
end
mutual
def I.aL:I→bY
 | .agg fs=>.ej (I.cI fs)
 |_=>.one
def I.cI:List I→List bY
 | []=>[]
 |f::fs=>f.aL::I.cI fs
end
mutual
def I.size:I→Nat
 | .agg fs=>I.sizes fs
 |_=>1
def I.sizes:List I→Nat
 | []=>0
 |f::fs=>f.size+I.sizes fs
end
def I.isAgg:I→Bool
 | .agg _=>true
 |_=>false
def bY.off:bY→List Nat→Option Nat
 |_,[]=>some 0
 | .one,_::_=>none
 | .ej l,i::p=>match l[i]? with
  |some s=>(s.off p).map (bY.sizes (l.take i) + ·)
  |none=>none
def bY.part:bY→List Nat→Option bY
 |s,[]=>some s
 | .one,_::_=>none
 | .ej l,i::p=>match l[i]? with
  |some s=>s.part p
  |none=>none
def I.at:I→List Nat→Option I
 |c,[]=>some c
 | .agg fs,i::p=>match fs[i]? with
  |some f=>f.at p
  |none=>none
 |_,_::_=>none
def I.dm:I→List Nat→I→I
 |_,[],v=>v
 | .agg fs,i::p,v=>match fs[i]? with
  |some f=>.agg (fs.set i (f.dm p v))
  |none=>.agg fs
 |c,_::_,_=>c
inductive bD where
 |aE (b:Nat) (aL:bY)
 |rw (aH:Option (Nat×Nat)) (len:Nat)
 |op (b:Nat)
 |b8 (b:Nat)
 |it (b:Nat)
def bD.dO:bD→Bool
 | .rw _ _=>false
 |_=>true
def bD.fA(e e':bD):Prop:=e'=e∨∃ aH l blk' l',e=.rw aH l∧e'=.rw blk' l'∧l≤l'∧(l'=l→blk'=aH)
theorem bD.fA.refl(e:bD):e.fA e:=.inl rfl
theorem bD.fA.eq{e e':bD}(h:e.fA e')(hf:e.dO=true):e'=e:=by
 rcases h with h | ⟨aH,l,blk',l',rfl,_⟩
 ·exact h
 ·cases hf
theorem bD.fA.trans{a b c:bD}(h:a.fA b)(k:b.fA c):a.fA c:=by
 rcases h with rfl | ⟨aH,l,blk',l',rfl,rfl,h1,h2⟩
 ·exact k
 ·rcases k with rfl | ⟨_,_,blk2,l2,e,rfl,h3,h4⟩
  ·exact .inr ⟨aH,l,blk',l',rfl,rfl,h1,h2⟩
  ·cases e;exact .inr ⟨aH,l,blk2,l2,rfl,rfl,by omega,fun e=>by rw[h4 (by omega),h2 (by omega)]⟩
abbrev aJ:=Nat→Nat→Prop
abbrev aO:=Nat→Option bD
def reads(w:World)(D:aJ)(b off:Nat)(cs:List Value):Prop :=
 ∀ j v,cs[j]?=some v→w.cell? ⟨b,off+j,none⟩=some v∧D b (off+j)
def nT(es:Array MapEntry)(clock:Nat):Prop:=(∀ x∈es.toList,x.born<clock)∧(es.toList.map (·.born)).Nodup
def nv(w:World)(D:aJ)(b:Nat)(es:Array MapEntry)(clock:Nat):Prop:=w.heap[b]?=some (.map es clock)∧D b 0∧nT es clock
def bd(e:I)(v:Value)(cs:List Value):Prop:=if e.isAgg then v=.agg cs.toArray else cs=[v]
def je(f:Nat)(vs:List Value):Value:=if f<1000000 then .func (.func f) #[] vs.toArray else .func (.func (f-1000000)) vs.toArray #[]
theorem lB{f:Nat}(h:f<1000000)(vs:List Value):je f vs=.func (.func f) #[] vs.toArray:=by simp only[je,if_pos h]
theorem qg(f:Nat)(vs:List Value):je (f+1000000) vs=.func (.func f) vs.toArray #[]:=by
 simp only[je,if_neg (show ¬ f+1000000<1000000 by omega),Nat.add_sub_cancel]
theorem Oz{f:Nat}{vs vs':List Value}(h:je f vs=je f vs'):vs=vs':=by
 rcases Nat.lt_or_ge f 1000000 with hf | hf
 ·rw[lB hf,lB hf] at h;simpa using h
 ·obtain ⟨g,rfl⟩:∃ g,f=g+1000000:=⟨f-1000000,by omega⟩
  rw[qg,qg] at h;simpa using h
theorem Bg(f:Nat)(vs:List Value):(je f vs).oneCell'=true:=by
 simp only[je];split <;>simp[Value.oneCell']
mutual
/-- These cells hold this value. -/
def ae(w:World)(D:aJ)(E:aO):I→List Value→Prop
 | .agg fs,cs=>aI w D E fs cs
 | .bool b,cs=>cs=[.bool b]
 | .int k n,cs=>cs=[.int k n]∧k.min≤n∧n≤k.max
 | .ay s,cs=>cs=[.string s]∧s.size≤maxLen
 | .nilp,cs=>cs=[.pointer none]
 | .cZ,cs=>cs=[.nilFunc]
 | .cR,cs=>cs=[.nilIface]
 | .any,cs=>∃ v:Value,cs=[v]∧v.oneCell'=true
 | .raw u,cs=>cs=[u]∧u.oneCell'=true
 | .nils _,cs=>cs=[.slice none 0 0]
 | .c0 _,cs=>∃ a,cs=[.slice a 0 0]
 | .slice sz es,cs=>∃ a cap,cs=[.slice a es.length cap]∧es.length≤cap∧cap≤maxLen ∧
   (es=[]∨∃ b off cs',a=some ⟨b,off,none⟩∧reads w D b off cs'∧aI w D E es cs')∧∀ e∈es,e.size=sz
 | .ref c,cs=>∃ b off cs',cs=[.pointer (some ⟨b,off,none⟩)]∧reads w D b off cs'∧ae w D E c cs'
 | .func f caps,cs=>∃ vs:List Value,cs=[je f vs]∧aB w D E caps vs
 | .iface t v,cs=>∃ u cs',cs=[.iface t u]∧bd v u cs'∧ae w D E v cs'
 | .ptr n p,cs=>∃ b aL off,E n=some (.aE b aL)∧aL.off p=some off∧cs=[.pointer (some ⟨b,off,none⟩)]
 | .own n k,cs=>∃ aH l,E n=some (.rw aH l)∧k≤l∧(∃ a m c,cs=[.slice a m c]) ∧
   (k=l→match aH with | none=>cs=[.slice none 0 0] | some (b,cap)=>cs=[.slice (some ⟨b,0,none⟩) k cap])
 | .view n p sz lo k,cs=>∃ b aL off l,E n=some (.aE b aL)∧aL.off p=some off∧aL.part p=some (.ej l)∧cs=[.slice (some ⟨b,off+lo*sz,none⟩) k (l.length-lo)]∧l.length≤maxLen∧lo+k≤l.length∧∀ s∈l,s.size=sz
 | .mref n,cs=>∃ b,E n=some (.b8 b)∧cs=[.map (some b)]
 | .cU n,cs=>∃ b,E n=some (.it b)∧cs=[.pointer (some ⟨b,0,none⟩)]
 | .cu ks vs,cs=>∃ b es clock,cs=[.map (some b)]∧nv w D b es clock∧aB w D E ks (es.toList.map (·.key))∧aB w D E vs (es.toList.map (·.val))
 | .undef,_ | .cV,_ | .tuple _,_=>False
def aI(w:World)(D:aJ)(E:aO):List I→List Value→Prop
 | [],cs=>cs=[]
 |e::es,cs=>∃ c1 c2,cs=c1++c2∧ae w D E e c1∧aI w D E es c2
def aB(w:World)(D:aJ)(E:aO):List I→List Value→Prop
 | [],vs=>vs=[]
 |e::es,vs=>∃ v rest cs,vs=v::rest∧bd e v cs∧ae w D E e cs∧aB w D E es rest
end
def aQ(w:World)(D:aJ)(E:aO)(x:I)(v:Value):Prop :=
 match x with
 | .undef=>v=undef
 | .cV=>True
 | .tuple fs=>∃ vs:List Value,v=.tuple vs.toArray∧aB w D E fs vs
 |x=>∃ cs,bd x v cs∧ae w D E x cs
structure da (w:World) (D:aJ) (E:aO) (w':World) (D':aJ) (E':aO):Prop where
 cO:∀ b o,D b o→D' b o
 cell:∀ b o v,D b o→w.cell? ⟨b,o,none⟩=some v→w'.cell? ⟨b,o,none⟩=some v
 aE:∀ n b aL,E n=some (.aE b aL)→E' n=some (.aE b aL)
 rw:∀ n aH l,E n=some (.rw aH l)→∃ blk' l',E' n=some (.rw blk' l')∧l≤l'∧(l'=l→blk'=aH)
 b8:∀ n b,E n=some (.b8 b)→E' n=some (.b8 b)
 it:∀ n b,E n=some (.it b)→E' n=some (.it b)
 iu:∀ b es ck,D b 0→w.heap[b]?=some (.map es ck)→w'.heap[b]?=some (.map es ck)
structure fS (w:World) (D:aJ) (w':World):Prop where
 cell:∀ b o v,D b o→w.cell? ⟨b,o,none⟩=some v→w'.cell? ⟨b,o,none⟩=some v
 iu:∀ b es ck,D b 0→w.heap[b]?=some (.map es ck)→w'.heap[b]?=some (.map es ck)
theorem fS.refl(w:World)(D:aJ):fS w D w:=⟨fun _ _ _ _ h=>h,fun _ _ _ _ h=>h⟩
theorem fS.trans{w w' w'':World}{D D':aJ}(h:fS w D w')(hD:∀ b o,D b o→D' b o)(k:fS w' D' w''):fS w D w'' :=
 ⟨fun b o v hd hv=>k.cell b o v (hD b o hd) (h.cell b o v hd hv),fun b es ck hd hm=>k.iu b es ck (hD b 0 hd) (h.iu b es ck hd hm)⟩
theorem da.fm{w w':World}{D D':aJ}{E E':aO}(h:da w D E w' D' E'):fS w D w':=⟨h.cell,h.iu⟩
theorem nv.later{w w':World}{D D':aJ}{E E':aO}(h:da w D E w' D' E'){b:Nat}{es:Array MapEntry}{clock:Nat}(hr:nv w D b es clock):nv w' D' b es clock :=
 ⟨h.iu _ _ _ hr.2.1 hr.1,h.cO _ _ hr.2.1,hr.2.2⟩
theorem reads.later{w w':World}{D D':aJ}{E E':aO}(h:da w D E w' D' E'){b off:Nat}{cs:List Value}(hr:reads w D b off cs):reads w' D' b off cs :=
 fun j v hj=>⟨h.cell _ _ _ (hr j v hj).2 (hr j v hj).1,h.cO _ _ (hr j v hj).2⟩
mutual
theorem ae.later{w w':World}{D D':aJ}{E E':aO}(h:da w D E w' D' E'):∀ (x:I) (cs:List Value),ae w D E x cs→ae w' D' E' x cs
 | .agg fs,cs,hr=>by simp only[ae] at *;exact aI.later h fs cs hr
 | .bool b,cs,hr=>by simpa only[ae] using hr
 | .int k n,cs,hr=>by simpa only[ae] using hr
 | .ay s,cs,hr=>by simpa only[ae] using hr
 | .nilp,cs,hr=>by simpa only[ae] using hr
 | .cZ,cs,hr=>by simpa only[ae] using hr
 | .cR,cs,hr | .any,cs,hr=>by simpa only[ae] using hr
 | .raw _,cs,hr=>by simpa only[ae] using hr
 | .nils _,cs,hr=>by simpa only[ae] using hr
 | .c0 _,cs,hr=>by simpa only[ae] using hr
 | .slice sz es,cs,hr=>by
  simp only[ae] at *;obtain ⟨a,cap,h1,h2,h3,h4,h5⟩:=hr;refine ⟨a,cap,h1,h2,h3,?_,h5⟩;rcases h4 with h4 | ⟨b,off,cs',h6,h7,h8⟩
  ·exact .inl h4
  ·exact .inr ⟨b,off,cs',h6,h7.later h,aI.later h es cs' h8⟩
 | .ref c,cs,hr=>by
  simp only[ae] at *;obtain ⟨b,off,cs',h1,h2,h3⟩:=hr;exact ⟨b,off,cs',h1,h2.later h,ae.later h c cs' h3⟩
 | .func f caps,cs,hr=>by
  simp only[ae] at *;obtain ⟨vs,h1,h2⟩:=hr;exact ⟨vs,h1,aB.later h caps vs h2⟩
 | .iface t v,cs,hr=>by
  simp only[ae] at *;obtain ⟨u,cs',h1,h2,h3⟩:=hr;exact ⟨u,cs',h1,h2,ae.later h v cs' h3⟩
 | .ptr n p,cs,hr=>by
  simp only[ae] at *;obtain ⟨b,aL,off,h1,h2,h3⟩:=hr;exact ⟨b,aL,off,h.aE _ _ _ h1,h2,h3⟩
 | .own n k,cs,hr=>by
  simp only[ae] at *;obtain ⟨aH,l,h1,h2,h3,h4⟩:=hr;obtain ⟨blk',l',h5,h6,h7⟩:=h.rw _ _ _ h1;refine ⟨blk',l',h5,Nat.le_trans h2 h6,h3,fun e =>?_⟩;have e1:l'=l:=by omega
  rw[h7 e1];exact h4 (by omega)
 | .view n p _ _ _,cs,hr=>by
  simp only[ae] at *;obtain ⟨b,aL,off,l,h1,h2⟩:=hr;exact ⟨b,aL,off,l,h.aE _ _ _ h1,h2⟩
 | .mref n,cs,hr=>by
  simp only[ae] at *;obtain ⟨b,h1,h2⟩:=hr;exact ⟨b,h.b8 _ _ h1,h2⟩
 | .cU n,cs,hr=>by
  simp only[ae] at *;obtain ⟨b,h1,h2⟩:=hr;exact ⟨b,h.it _ _ h1,h2⟩
 | .cu ks vs,cs,hr=>by
  simp only[ae] at *;obtain ⟨b,es,clock,h1,h2,h3,h4⟩:=hr;exact ⟨b,es,clock,h1,h2.later h,aB.later h ks _ h3,aB.later h vs _ h4⟩
 | .undef,_,hr=>by simp only[ae] at hr
 | .cV,_,hr=>by simp only[ae] at hr
 | .tuple _,_,hr=>by simp only[ae] at hr
theorem aI.later{w w':World}{D D':aJ}{E E':aO}(h:da w D E w' D' E'):∀ (xs:List I) (cs:List Value),aI w D E xs cs→aI w' D' E' xs cs
 | [],cs,hr=>by simpa only[aI] using hr
 |x::xs,cs,hr=>by
  simp only[aI] at *;obtain ⟨c1,c2,h1,h2,h3⟩:=hr;exact ⟨c1,c2,h1,ae.later h x c1 h2,aI.later h xs c2 h3⟩
theorem aB.later{w w':World}{D D':aJ}{E E':aO}(h:da w D E w' D' E'):∀ (xs:List I) (vs:List Value),aB w D E xs vs→aB w' D' E' xs vs
 | [],vs,hr=>by simpa only[aB] using hr
 |x::xs,vs,hr=>by
  simp only[aB] at *;obtain ⟨v,rest,cs,h1,h2,h3,h4⟩:=hr;exact ⟨v,rest,cs,h1,h2,ae.later h x cs h3,aB.later h xs rest h4⟩
end
theorem aQ.later{w w':World}{D D':aJ}{E E':aO}(h:da w D E w' D' E'){x:I}{v:Value}(hr:aQ w D E x v):aQ w' D' E' x v:=by
 cases x <;>simp only[aQ] at * <;>first
  |exact hr
  |(obtain ⟨vs,h1,h2⟩:=hr;exact ⟨vs,h1,aB.later h _ _ h2⟩)
  |(obtain ⟨cs,h1,h2⟩:=hr;exact ⟨cs,h1,ae.later h _ _ h2⟩)
mutual
theorem I.iC:∀ x:I,x.aL.size=x.size
 | .agg fs=>by simp only[I.aL,I.size,bY.size];exact I.lX fs
 | .undef | .cV | .bool _ | .int _ _ | .ay _ | .nilp | .cZ | .cR | .any | .raw _ | .nils _ | .c0 _ | .slice _ _ | .tuple _ | .ref _ | .func _ _ | .iface _ _ | .ptr _ _ | .own _ _ | .view _ _ _ _ _ | .mref _ | .cU _ | .cu _ _=>by simp only[I.aL,I.size,bY.size]
theorem I.lX:∀ xs:List I,bY.sizes (I.cI xs)=I.sizes xs
 | []=>by simp only[I.cI,I.sizes,bY.sizes]
 |x::xs=>by simp only[I.cI,I.sizes,bY.sizes];rw[I.iC x,I.lX xs]
end
mutual
theorem ae.length{w:World}{D:aJ}{E:aO} : ∀ (x:I) (cs:List Value),ae w D E x cs→cs.length=x.size
 | .agg fs,cs,hr=>by simp only[ae,I.size] at *;exact aI.length fs cs hr
 | .bool b,cs,hr=>by simp only[ae] at hr;simp[hr,I.size]
 | .int k n,cs,hr=>by simp only[ae] at hr;simp[hr.1,I.size]
 | .ay s,cs,hr=>by simp only[ae] at hr;simp[hr.1,I.size]
 | .nilp,cs,hr=>by simp only[ae] at hr;simp[hr,I.size]
 | .cZ,cs,hr=>by simp only[ae] at hr;simp[hr,I.size]
 | .cR,cs,hr=>by simp only[ae] at hr;simp[hr,I.size]
 | .any,cs,hr=>by simp only[ae] at hr;obtain ⟨v,rfl,_⟩:=hr;simp[I.size]
 | .raw u,cs,hr=>by simp only[ae] at hr;simp[hr.1,I.size]
 | .nils _,cs,hr=>by simp only[ae] at hr;simp[hr,I.size]
 | .c0 _,cs,hr=>by simp only[ae] at hr;obtain ⟨a,rfl⟩:=hr;simp[I.size]
 | .slice sz es,cs,hr=>by simp only[ae] at hr;obtain ⟨a,cap,rfl,_⟩:=hr;simp[I.size]
 | .ref c,cs,hr=>by simp only[ae] at hr;obtain ⟨b,off,cs',rfl,_⟩:=hr;simp[I.size]
 | .func f caps,cs,hr=>by simp only[ae] at hr;obtain ⟨vs,rfl,_⟩:=hr;simp[I.size]
 | .iface t v,cs,hr=>by simp only[ae] at hr;obtain ⟨u,cs',rfl,_⟩:=hr;simp[I.size]
 | .ptr n p,cs,hr=>by simp only[ae] at hr;obtain ⟨b,aL,off,_,_,rfl⟩:=hr;simp[I.size]
 | .own n k,cs,hr=>by simp only[ae] at hr;obtain ⟨aH,l,_,_,⟨a,m,c,rfl⟩,_⟩:=hr;simp[I.size]
 | .view n p _ _ _,cs,hr=>by simp only[ae] at hr;obtain ⟨b,aL,off,l,_,_,_,rfl,_⟩:=hr;simp[I.size]
 | .mref n,cs,hr=>by simp only[ae] at hr;obtain ⟨b,_,rfl⟩:=hr;simp[I.size]
 | .cU n,cs,hr=>by simp only[ae] at hr;obtain ⟨b,_,rfl⟩:=hr;simp[I.size]
 | .cu ks vs,cs,hr=>by simp only[ae] at hr;obtain ⟨b,es,ck,rfl,_⟩:=hr;simp[I.size]
 | .undef,_,hr=>by simp only[ae] at hr
 | .cV,_,hr=>by simp only[ae] at hr
 | .tuple _,_,hr=>by simp only[ae] at hr
theorem aI.length{w:World}{D:aJ}{E:aO} : ∀ (xs:List I) (cs:List Value),aI w D E xs cs→cs.length=I.sizes xs
 | [],cs,hr=>by simp only[aI] at hr;simp[hr,I.sizes]
 |x::xs,cs,hr=>by
  simp only[aI] at hr;obtain ⟨c1,c2,rfl,h1,h2⟩:=hr;simp only[zz1,I.sizes,ae.length x c1 h1,aI.length xs c2 h2]
end
mutual
theorem ae.kL{w:World}{D:aJ}{E:aO} : ∀ (x:I) (cs:List Value),ae w D E x cs→∀ v∈cs,v.oneCell'=true
 | .agg fs,cs,hr=>by simp only[ae] at hr;exact aI.kL fs cs hr
 | .bool b,cs,hr=>by simp only[ae] at hr;simp[hr,Value.oneCell']
 | .int k n,cs,hr=>by simp only[ae] at hr;simp[hr.1,Value.oneCell']
 | .ay s,cs,hr=>by simp only[ae] at hr;simp[hr.1,Value.oneCell']
 | .nilp,cs,hr=>by simp only[ae] at hr;simp[hr,Value.oneCell']
 | .cZ,cs,hr=>by simp only[ae] at hr;simp[hr,Value.oneCell']
 | .cR,cs,hr=>by simp only[ae] at hr;simp[hr,Value.oneCell']
 | .any,cs,hr=>by simp only[ae] at hr;obtain ⟨v,rfl,h⟩:=hr;simpa using h
 | .raw u,cs,hr=>by simp only[ae] at hr;simpa[hr.1] using hr.2
 | .nils _,cs,hr=>by simp only[ae] at hr;simp[hr,Value.oneCell']
 | .c0 _,cs,hr=>by simp only[ae] at hr;obtain ⟨a,rfl⟩:=hr;simp[Value.oneCell']
 | .slice sz es,cs,hr=>by simp only[ae] at hr;obtain ⟨a,cap,rfl,_⟩:=hr;simp[Value.oneCell']
 | .ref c,cs,hr=>by simp only[ae] at hr;obtain ⟨b,off,cs',rfl,_⟩:=hr;simp[Value.oneCell']
 | .func f caps,cs,hr=>by simp only[ae] at hr;obtain ⟨vs,rfl,_⟩:=hr;simp only[je];split <;>simp[Value.oneCell']
 | .iface t v,cs,hr=>by simp only[ae] at hr;obtain ⟨u,cs',rfl,_⟩:=hr;simp[Value.oneCell']
 | .ptr n p,cs,hr=>by simp only[ae] at hr;obtain ⟨b,aL,off,_,_,rfl⟩:=hr;simp[Value.oneCell']
 | .own n k,cs,hr=>by simp only[ae] at hr;obtain ⟨aH,l,_,_,⟨a,m,c,rfl⟩,_⟩:=hr;simp[Value.oneCell']
 | .view n p _ _ _,cs,hr=>by simp only[ae] at hr;obtain ⟨b,aL,off,l,_,_,_,rfl,_⟩:=hr;simp[Value.oneCell']
 | .mref n,cs,hr=>by simp only[ae] at hr;obtain ⟨b,_,rfl⟩:=hr;simp[Value.oneCell']
 | .cU n,cs,hr=>by simp only[ae] at hr;obtain ⟨b,_,rfl⟩:=hr;simp[Value.oneCell']
 | .cu ks vs,cs,hr=>by simp only[ae] at hr;obtain ⟨b,es,ck,rfl,_⟩:=hr;simp[Value.oneCell']
 | .undef,_,hr=>by simp only[ae] at hr
 | .cV,_,hr=>by simp only[ae] at hr
 | .tuple _,_,hr=>by simp only[ae] at hr
theorem aI.kL{w:World}{D:aJ}{E:aO} : ∀ (xs:List I) (cs:List Value),aI w D E xs cs→∀ v∈cs,v.oneCell'=true
 | [],cs,hr=>by simp only[aI] at hr;simp[hr]
 |x::xs,cs,hr=>by
  simp only[aI] at hr;obtain ⟨c1,c2,rfl,h1,h2⟩:=hr;intro v hv;rcases zw1.1 hv with h | h
  ·exact ae.kL x c1 h1 v h
  ·exact aI.kL xs c2 h2 v h
end
theorem bd.cells{x:I}{v:Value}{cs:List Value}{w:World}{D:aJ}{E:aO}(h:bd x v cs)(hr:ae w D E x cs):v.cells.toList=cs:=by
 unfold bd at h;split at h
 ·rw[h];simp[Value.cells]
 ·subst h;have:=ae.kL x _ hr v (by simp);cases v <;>simp[Value.cells,Value.oneCell'] at *
theorem lM{w:World}{D:aJ}{E:aO} : ∀ (xs:List I) (cs:List Value) (i:Nat) (x:I),aI w D E xs cs→xs[i]?=some x →
  ∃ c1 c2 c3,cs=c1++c2++c3∧c1.length=I.sizes (xs.take i)∧aI w D E (xs.take i) c1∧ae w D E x c2∧aI w D E (xs.drop (i+1)) c3
 | [],_,i,x,_,h=>by simp at h
 |y::ys,cs,0,x,hr,h=>by
  simp only[List.getElem?_cons_zero,v6] at h;subst h;simp only[aI] at hr;obtain ⟨c1,c2,rfl,h1,h2⟩:=hr;exact ⟨[],c1,c2,by simp,by simp[I.sizes],by simp[aI],h1,by simpa using h2⟩
 |y::ys,cs,i+1,x,hr,h=>by
  simp only[List.getElem?_cons_succ] at h;simp only[aI] at hr;obtain ⟨c0,c',rfl,h1,h2⟩:=hr;obtain ⟨c1,c2,c3,rfl,h3,h4,h5,h6⟩:=lM ys c' i x h2 h;refine ⟨c0++c1,c2,c3,by simp,?_,?_,h5,by simpa using h6⟩
  ·simp only[zz1,List.take_succ_cons,I.sizes,h3,ae.length y c0 h1]
  ·simp only[List.take_succ_cons,aI];exact ⟨c0,c1,rfl,h1,h4⟩
theorem jq{w:World}{D:aJ}{E:aO} : ∀ (xs ys:List I) (cs ds:List Value),aI w D E xs cs→aI w D E ys ds→aI w D E (xs++ys) (cs++ds)
 | [],ys,cs,ds,h,k=>by simp only[aI] at h;subst h;simpa using k
 |x::xs,ys,cs,ds,h,k=>by
  simp only[aI,zy2] at *;obtain ⟨c1,c2,rfl,h1,h2⟩:=h;exact ⟨c1,c2++ds,by simp,h1,jq xs ys c2 ds h2 k⟩
theorem I.gv{sz:Nat} : ∀ (xs:List I),(∀ x∈xs,x.size=sz)→I.sizes xs=xs.length*sz
 | [],_=>by simp[I.sizes]
 |x::xs,h=>by
  simp only[I.sizes,zw0];rw[h x (by simp),I.gv xs (fun y hy=>h y (by simp[hy])),Nat.add_mul];omega
theorem I.cM:∀ xs:List I,I.cI xs=xs.map I.aL
 | []=>by simp[I.cI]
 |x::xs=>by simp[I.cI,I.cM xs]
theorem wR{w:World}{D:aJ}{E:aO} : ∀ (p:List Nat) (c x:I) (cs:List Value),ae w D E c cs→c.at p=some x →
  ∃ off c1 c2 c3,c.aL.off p=some off∧cs=c1++c2++c3∧c1.length=off∧ae w D E x c2
 | [],c,x,cs,hr,h=>by
  simp only[I.at,v6] at h;subst h;exact ⟨0,[],cs,[],by cases c.aL <;>simp[bY.off],by simp,rfl,hr⟩
 |i::p,.agg fs,x,cs,hr,h=>by
  simp only[I.at] at h;simp only[ae] at hr;cases hf:fs[i]? with
  |none=>simp[hf] at h
  |some f =>
   simp only[hf] at h;obtain ⟨c1,c2,c3,rfl,h1,_,h3,_⟩:=lM fs cs i f hr hf;obtain ⟨off,d1,d2,d3,h4,rfl,h6,h7⟩:=wR p f x c2 h3 h;refine ⟨I.sizes (fs.take i)+off,c1++d1,d2,d3++c3,?_,by simp,by simp[h1,h6],h7⟩;simp only[I.aL,bY.off,I.cM,zx2,hf,zy1,h4];rw[←List.map_take,←I.cM,I.lX]
 |_::_,.undef,_,_,_,h | _::_,.cV,_,_,_,h | _::_,.bool _,_,_,_,h | _::_,.int _ _,_,_,_,h | _::_,.ay _,_,_,_,h | _::_,.nilp,_,_,_,h
 |_::_,.cZ,_,_,_,h | _::_,.cR,_,_,_,h | _::_,.any,_,_,_,h | _::_,.raw _,_,_,_,h | _::_,.nils _,_,_,_,h | _::_,.c0 _,_,_,_,h | _::_,.slice _ _,_,_,_,h | _::_,.tuple _,_,_,_,h
 |_::_,.ref _,_,_,_,h | _::_,.func _ _,_,_,_,h | _::_,.iface _ _,_,_,_,h | _::_,.ptr _ _,_,_,_,h | _::_,.own _ _,_,_,_,h | _::_,.view _ _ _ _ _,_,_,_,h | _::_,.mref _,_,_,_,h | _::_,.cU _,_,_,_,h | _::_,.cu _ _,_,_,_,h=>by simp[I.at] at h
theorem tI{w:World}{D:aJ}{E:aO} : ∀ (p:List Nat) (c x y:I) (cs ds:List Value),ae w D E c cs→c.at p=some x→ae w D E y ds→y.aL=x.aL →
  ∃ off,c.aL.off p=some off∧off+ds.length≤cs.length∧ae w D E (c.dm p y) (cs.take off++ds++cs.drop (off+ds.length))∧(c.dm p y).aL=c.aL
 | [],c,x,y,cs,ds,hr,h,hy,hs=>by
  simp only[I.at,v6] at h;subst h;have hl:ds.length=cs.length:=by rw[ae.length _ _ hy,ae.length _ _ hr,←I.iC,←I.iC,hs]
  refine ⟨0,by cases c.aL <;>simp[bY.off],by omega,?_,by simpa[I.dm] using hs⟩;simpa[I.dm,hl] using hy
 |i::p,.agg fs,x,y,cs,ds,hr,h,hy,hs=>by
  simp only[I.at] at h;simp only[ae] at hr;cases hf:fs[i]? with
  |none=>simp[hf] at h
  |some f =>
   simp only[hf] at h;obtain ⟨c1,c2,c3,rfl,h1,h2,h3,h3'⟩:=lM fs cs i f hr hf;obtain ⟨off,h4,h5,h6,h7⟩:=tI p f x y c2 ds h3 h hy hs;have hi:i<fs.length:=(zz9.1 hf).1;have hfi:fs[i]=f:=(zz9.1 hf).2;refine ⟨I.sizes (fs.take i)+off,?_,?_,?_,?_⟩
   ·simp only[I.aL,bY.off,I.cM,zx2,hf,zy1,h4];rw[←List.map_take,←I.cM,I.lX]
   ·simp only[zz1,h1];omega
   ·simp only[I.dm,hf,ae];have e1:fs.set i (f.dm p y)=fs.take i++f.dm p y::fs.drop (i+1):=by rw[List.set_eq_take_append_cons_drop];simp[hi]
    rw[e1];have e2:(c1++c2++c3).take (I.sizes (fs.take i)+off)++ds++(c1++c2++c3).drop (I.sizes (fs.take i)+off+ds.length)=c1++((c2.take off++ds++c2.drop (off+ds.length))++c3):=by
     rw[←h1,zy3 c1 c2 c3,List.take_length_add_append,Nat.add_assoc,List.drop_length_add_append,List.take_append_of_le_length (by omega),List.drop_append_of_le_length (by omega)];simp
    rw[e2];refine jq _ _ _ _ h2 ?_;simp only[aI];exact ⟨_,_,rfl,h6,h3'⟩
   ·simp only[I.dm,hf,I.aL,I.cM,List.map_set,h7,bY.ej.injEq];apply List.ext_getElem?;intro k;rw[List.getElem?_set];split
    ·rename_i hk;subst hk;simp[hi,hfi]
    ·rfl
 |_::_,.undef,_,_,_,_,_,h,_,_ | _::_,.cV,_,_,_,_,_,h,_,_ | _::_,.bool _,_,_,_,_,_,h,_,_ | _::_,.int _ _,_,_,_,_,_,h,_,_ | _::_,.ay _,_,_,_,_,_,h,_,_ | _::_,.nilp,_,_,_,_,_,h,_,_
 |_::_,.cZ,_,_,_,_,_,h,_,_ | _::_,.cR,_,_,_,_,_,h,_,_ | _::_,.any,_,_,_,_,_,h,_,_ | _::_,.raw _,_,_,_,_,_,h,_,_ | _::_,.nils _,_,_,_,_,_,h,_,_ | _::_,.c0 _,_,_,_,_,_,h,_,_ | _::_,.slice _ _,_,_,_,_,_,h,_,_ | _::_,.tuple _,_,_,_,_,_,h,_,_
 |_::_,.ref _,_,_,_,_,_,h,_,_ | _::_,.func _ _,_,_,_,_,_,h,_,_ | _::_,.iface _ _,_,_,_,_,_,h,_,_ | _::_,.ptr _ _,_,_,_,_,_,h,_,_ | _::_,.own _ _,_,_,_,_,_,h,_,_ | _::_,.view _ _ _ _ _,_,_,_,_,_,h,_,_ | _::_,.mref _,_,_,_,_,_,h,_,_ | _::_,.cU _,_,_,_,_,_,h,_,_ | _::_,.cu _ _,_,_,_,_,_,h,_,_=>by simp[I.at] at h
theorem lW:∀ (p:List Nat) (c x:I),c.at p=some x→c.aL.part p=some x.aL
 | [],c,x,h=>by simp only[I.at,v6] at h;subst h;cases c.aL <;>rfl
 |i::p,.agg fs,x,h=>by
  simp only[I.at] at h;cases hf:fs[i]? with
  |none=>simp[hf] at h
  |some f =>
   simp only[hf] at h;simp only[I.aL,bY.part,I.cM,zx2,hf,zy1];exact lW p f x h
 |_::_,.undef,_,h | _::_,.cV,_,h | _::_,.bool _,_,h | _::_,.int _ _,_,h | _::_,.ay _,_,h | _::_,.nilp,_,h
 |_::_,.cZ,_,h | _::_,.cR,_,h | _::_,.any,_,h | _::_,.raw _,_,h | _::_,.nils _,_,h | _::_,.c0 _,_,h | _::_,.slice _ _,_,h | _::_,.tuple _,_,h
 |_::_,.ref _,_,h | _::_,.func _ _,_,h | _::_,.iface _ _,_,h | _::_,.ptr _ _,_,h | _::_,.own _ _,_,h | _::_,.view _ _ _ _ _,_,h | _::_,.mref _,_,h | _::_,.cU _,_,h | _::_,.cu _ _,_,h=>by simp[I.at] at h
end Go.Abs
namespace Go.Abs
open Go Go.RowKit
inductive ai where
 |box (c:I)
 |bM (T:TypeId) (sz:Nat) (es:List I)
 |cz (o:Obj)
 |b8 (ks vs:List I)
 |it (ks vs:List I) (left:List Nat) (cur:Option Nat)
 |dL (T:TypeId) (xs:List Int)
 deriving Inhabited
def ai.dO:ai→Bool
 | .it _ _ _ _=>false
 |_=>true
structure ab where
 t:Nat→I
 o:Nat→Option ai
def ab.put(A:ab)(d:Nat)(v:I):ab:=⟨fun k=>if k=d then v else A.t k,A.o⟩
def ab.aP(A:ab)(d:Option Nat)(v:I):ab:=match d with | some d=>A.put d v | none=>A
def ab.aN(A:ab)(n:Nat)(x:ai):ab:=⟨A.t,fun k=>if k=n then some x else A.o k⟩
def cw:List (Nat×I)→Nat→I
 | [],_=>.cV
 |(k,v)::r,t=>if t=k then v else cw r t
def aG:List (Nat×ai)→Nat→Option ai
 | [],_=>none
 |(k,v)::r,t=>if t=k then some v else aG r t
def al(ts:List (Nat×I))(os:List (Nat×ai)):ab:=⟨cw ts,aG os⟩
def aw(os:List (Nat×ai))(n:Nat):Bool:=(aG os n).isSome
abbrev cd:=I→List (Nat×ai)→Prop
structure ct where
 P:Program
 cS:World
 bC:aJ
 n:Nat
 own:Nat→Prop
 cA:aO
 Y:Value→List I→List (Nat×ai)→cd→Prop
 pf:Option Nat
 dV:Option (List Deferred):=none
def e8:Value→List I→List (Nat×ai)→cd→Prop:=fun _ _ _ _=>False
def ct.bj(c:ct):Fence:=match c.pf with
 |none=>Fence.wide
 |some l=>Fence.wide.inRound l
def ct.ez(c:ct)(b:Nat):Prop:=c.cS.heap.size≤b∨c.own b
structure eb (M:Nat→Prop) (w w':World):Prop where
 os:w'.os=w.os
 tape:w'.tape=w.tape
 output:w'.output=w.output
 size:w.heap.size≤w'.heap.size
 block:∀ k,¬ M k→w'.heap[k]?=w.heap[k]?
theorem eb.refl(M:Nat→Prop)(w:World):eb M w w:=⟨rfl,rfl,rfl,zz8 _,fun _ _=>rfl⟩
theorem eb.trans{M:Nat→Prop}{a b c:World}(h:eb M a b)(k:eb M b c):eb M a c :=
 ⟨k.os.trans h.os,k.tape.trans h.tape,k.output.trans h.output,Nat.le_trans h.size k.size,fun i hi=>(k.block i hi).trans (h.block i hi)⟩
theorem eb.grow{M:Nat→Prop}{w w':World}{B:Nat}(h:Below B w w')(hB:∀ k,B≤k→M k):eb M w w' :=
 ⟨h.os,h.tape,h.output,h.size,fun k hk=>h.block k (Nat.lt_of_not_le fun hle=>hk (hB k hle))⟩
theorem eb.HX{M:Nat→Prop}{w w':World}{B:Nat}(h:eb M w w')(hB:∀ k,k<B→¬ M k):Below B w w' :=
 ⟨h.os,h.tape,h.output,h.size,fun k hk=>h.block k (hB k hk)⟩
def bD.aH:bD→Option Nat
 | .aE b _=>some b
 | .rw (some (b,_)) _=>some b
 | .rw none _=>none
 | .op b=>some b
 | .b8 b=>some b
 | .it b=>some b
def bD.eI:bD→Bool
 | .op _ | .b8 _ | .it _=>true
 |_=>false
def mB:Obj→Bool
 | .loop _=>true
 |_=>false
def tk:Obj→Bool
 | .deferred _=>false
 |_=>true
theorem ZB{o:Obj}(h:mB o=true):tk o=true:=by cases o <;>first | rfl | cases h
def nu(es:Array MapEntry)(seen:Array Nat):List Nat:=(List.range es.size).filter fun i=>match es[i]? with
 |some e => !seen.contains e.born
 |none=>false
def bY.Cc:bY→Bool
 | .one=>true
 | .ej _=>false
def bY.flat:bY→Bool
 | .one=>false
 | .ej l=>l.all bY.Cc
def ea(w:World)(b:Nat)(cs:Array Value)(T:TypeId)(s:bY):Prop:=∃ fz:Nat×Nat,w.heap[b]?=some (.cells cs T fz)∧(fz=(0,0)∨(fz.1=cs.size∧s.flat=true))
section
variable {w w':World} {b:Nat} {cs cs':Array Value} {T:TypeId} {s:bY}
theorem ea.aai(h:w.heap[b]?=some (.cells cs T (0,0))):ea w b cs T s:=⟨_,h,.inl rfl⟩
theorem ea.lt(h:ea w b cs T s):b<w.heap.size:=by obtain ⟨_,h,_⟩:=h;exact (zy5.1 h).1
theorem ea.aak(h:ea w b cs T s)(k:w'.heap[b]?=w.heap[b]?):ea w' b cs T s:=by obtain ⟨fz,h,hf⟩:=h;exact ⟨fz,k.trans h,hf⟩
theorem ea.CN(h:ea w b cs T s){q:Option (List Deferred)}(k:w.heap[b]?=some (.deferred q)):False:=by obtain ⟨_,h,_⟩:=h;rw[h] at k;cases k
theorem ea.bx(h:ea w b cs T s):∃ o,w.heap[b]?=some o∧tk o=true:=by obtain ⟨_,h,_⟩:=h;exact ⟨_,h,rfl⟩
theorem ea.setRow(h:ea w b cs T s)(hs:cs'.size=cs.size):ea (w.setRow b cs') b cs' T s:=by
 obtain ⟨fz,h,hf⟩:=h;exact ⟨fz,setRow_heap w b cs cs' T _ h,hf.imp id fun k=>⟨k.1.trans hs.symm,k.2⟩⟩
theorem ea.aL{s':bY}(h:ea w b cs T s)(e:s'=s):ea w b cs T s':=e▸h
theorem ea.OB(h:ea w b cs T s){o:Nat}(ho:o<cs.size):w.frozen? ⟨b,o,none⟩=false:=by
 obtain ⟨⟨z1,z2⟩,h,hf⟩:=h;cases hq:w.frozen? ⟨b,o,none⟩ with
 |false=>rfl
 |true =>
  simp only[World.frozen?,h,zz0,decide_eq_true_eq] at hq;rcases hf with hf | hf
  ·simp only[Prod.mk.injEq] at hf;omega
  ·have:=hf.1;simp only at this;omega
theorem ea.plain(h:ea w b cs T s)(hs:s.flat=false):w.heap[b]?=some (.cells cs T (0,0)):=by
 obtain ⟨fz,h,hf | hf⟩:=h
 ·rw[←hf];exact h
 ·rw[hs] at hf;cases hf.2
end
def cY(M:Nat→Prop)(w:World)(D:aJ)(E:aO)(n:Nat):Option ai→Prop
 |none=>E n=none
 |some (.box x)=>∃ b cs T,E n=some (.aE b x.aL)∧M b∧ea w b cs T x.aL∧ae w D E x cs.toList∧∀ o,¬ D b o
 |some (.bM T sz es)=>∃ aH,E n=some (.rw aH es.length)∧(∀ e∈es,e.size=sz)∧match aH with
  |none=>es=[]
  |some (b,cap)=>∃ cs pre rest,M b∧w.heap[b]?=some (.cells cs T (0,0))∧cs.toList=pre++rest∧aI w D E es pre ∧
    cs.size=cap*sz∧es.length≤cap∧cap≤maxLen∧∀ o,D b o→o<pre.length
 |some (.cz x)=>∃ b,E n=some (.op b)∧M b∧w.heap[b]?=some x∧mB x=true∧∀ o,¬ D b o
 |some (.b8 ks vs)=>∃ b es clock,E n=some (.b8 b)∧M b∧w.heap[b]?=some (.map es clock)∧nT es clock∧aB w D E ks (es.toList.map (·.key))∧aB w D E vs (es.toList.map (·.val))∧∀ o,¬ D b o
 |some (.it ks vs left cur)=>∃ r b es clock since seen last,E n=some (.it r)∧M r∧w.heap[r]?=some (.mapIter (some b) since seen last)∧nv w D b es clock∧aB w D E ks (es.toList.map (·.key))∧aB w D E vs (es.toList.map (·.val)) ∧
   (∀ x∈es.toList,x.born<since)∧(since≤last∧since≤clock)∧left=nu es seen∧(∀ i,cur=some i→∃ e,es[i]?=some e∧seen.back?=some e.born∧last=clock)∧∀ o,¬ D r o
 |some (.dL T xs)=>∃ aH,E n=some (.rw aH xs.length)∧(∀ x∈xs,IntKind.i64.min≤x∧x≤IntKind.i64.max)∧match aH with
  |none=>xs=[]
  |some (b,cap)=>∃ cs m,M b∧w.heap[b]?=some (.cells cs T (0,0))∧cs.toList=(xs++List.replicate m 0).map (Value.int .i64)∧xs≠[]∧xs.length+m=cap∧cap≤maxLen∧∀ o,¬ D b o
def bU(E:aO)(b:Nat):Prop:=∃ n e,E n=some e∧e.aH=some b
structure iX (M:Nat→Prop) (w:World) (D:aJ) (E:aO) (o:Nat→Option ai):Prop where
 bx:∀ n,cY M w D E n (o n)
 cG:∀ n m e e' b,E n=some e→E m=some e'→e.aH=some b→e'.aH=some b→n=m
def me(run:Array Value→World→(Ending→World→Prop)→Prop)(since:World→aJ→aO→Prop)(args:List I)(os:List (Nat×ai))(post:cd):Prop :=
 ∀ (w:World) (D:aJ) (E:aO) (vs:List Value),since w D E→(∀ b o,D b o→b<w.heap.size)→iX (fun _=>True) w D E (aG os)→aB w D E args vs →
  run vs.toArray w fun e w'=>∃ v D' E' r os',e=.returned v∧post r os'∧aQ w' D' E' r v∧iX (fun b=>w.heap.size≤b∨bU E b) w' D' E' (aG os') ∧
   eb (fun b=>w.heap.size≤b∨bU E b) w w'∧(∀ b o,D b o→D' b o)∧(∀ b o,D' b o→b<w'.heap.size)∧(∀ b o,D' b o→b<w.heap.size→¬ bU E b→D b o) ∧
   (∀ n e,E n=some e→aw os' n=true→∃ e',E' n=some e'∧e.fA e')∧fS w D w'
def sO : String := "internal/strconv.uint64pow10"
def Ci:Array Value:=(((List.range 20).map fun i=>((10^i:Nat):Int)).map fun z=>Value.int .u64 z).toArray
inductive uB where
 |tE | int | oG
def sP:uB→Array Value→Prop
 | .tE,v=>v=Ci
 | .int,v=>∃ m:Int,v = #[.int .i64 m]
 | .oG,v=>∃ t p,v = #[.iface t p]
def nt : List (String × uB) := [(sO, .tE), ("internal/bytealg.MaxLen", .int), ("strconv.ErrSyntax", .oG), ("strconv.ErrRange", .oG)]
def eK(P:Program)(w:World)(own:Nat→Prop):Prop :=
 ∀ q∈nt,∀ g,P.globalNamed q.1=some g→¬ own g∧∃ v,w.var? P q.1=some v∧sP q.2 v
theorem eK.sT{P:Program}{w:World}{own own':Nat→Prop}(h:eK P w own)(ho:∀ b,own' b→own b):eK P w own':=fun q hq g hg=>⟨fun k=>(h q hq g hg).1 (ho g k),(h q hq g hg).2⟩
theorem eK.Cg{P:Program}{w w':World}{own own' M:Nat→Prop}(h:eK P w own)(hk:eb M w w')(hM:∀ b,M b→w.heap.size≤b∨own b)(ho:∀ b,own' b→M b):eK P w' own':=fun q hq g hg=>by
 obtain ⟨h1,v,h2,hv⟩:=h q hq g hg;have h3:=h2;unfold World.var? at h2;rw[hg] at h2;simp only[Option.bind_some] at h2;have hlt:g<w.heap.size:=by
  rcases Nat.lt_or_ge g w.heap.size with h | h
  ·exact h
  ·rw[Array.getElem?_eq_none h] at h2;cases h2
 have hn:¬ M g:=fun hm=>by
  rcases hM g hm with h | h
  ·omega
  ·exact h1 h
 refine ⟨fun k=>hn (ho g k),v,?_,hv⟩;unfold World.var?;rw[hg];simp only[Option.bind_some];rw[hk.block g hn];exact h2
theorem eK.sx{P:Program}{w:World}{own:Nat→Prop}(h:eK P w own){n:String}{k:uB}(hm:(n,k)∈nt){g:Nat}(hg:P.globalNamed n=some g):∃ v,w.var? P n=some v∧sP k v:=(h _ hm g hg).2
structure yk (c:ct) (w:World) (D:aJ) (E:aO):Prop where
 c8:eb c.ez c.cS w
 cE:∀ b o,c.bC b o→D b o
 cO:∀ b o,D b o→¬ c.ez b→c.bC b o
 df:∀ n e,c.cA n=some e→E n=none∨∃ e',E n=some e'∧e.fA e'
 fm:fS c.cS c.bC w
 oR:eK c.P w (bU E)
def rM(P:Program)(v:Value)(vs:Array Value)(w:World)(R:Ending→World→Prop):Prop :=
 ∃ l,v=.func (.yield l) #[] #[]∧YieldAt Fence.wide 9 P l vs w R
def mg(c:ct):Prop:=eK c.P c.cS c.own∧∀ v args os post,c.Y v args os post→me (rM c.P v) (yk c) args os post
def mW(dV:Option (List Deferred))(cS:World)(ds:List Deferred)(w:World):Prop:=match dV with
 |none=>∃ Bs:List Nat,ds=Bs.map (fun B => { target:=.collected B,args := #[] })∧Bs.Nodup∧∀ B∈Bs,cS.heap.size≤B∧w.heap[B]?=some (.deferred (some []))
 |some l=>ds=l
theorem mW.mono{dV:Option (List Deferred)}{cS w w':World}{ds:List Deferred}(h:mW dV cS ds w)(hk:∀ B,cS.heap.size≤B→w.heap[B]?=some (.deferred (some []))→w'.heap[B]?=some (.deferred (some []))):mW dV cS ds w':=by
 cases dV with
 |none =>
  obtain ⟨Bs,h1,h2,h3⟩:=h;exact ⟨Bs,h1,h2,fun B hB=>⟨(h3 B hB).1,hk B (h3 B hB).1 (h3 B hB).2⟩⟩
 |some l=>exact h
theorem mW.grow{dV:Option (List Deferred)}{cS w w':World}{ds:List Deferred}(h:mW dV cS ds w)(hk:Below w.heap.size w w'):mW dV cS ds w' :=
 h.mono fun B _ hB=>(hk.block B (zy5.1 hB).1).trans hB
structure aM (c:ct) (A:ab) (a:Act) (w:World) (D:aJ) (E:aO):Prop where
 sz:a.tmps.size=c.n
 ef:mW c.dV c.cS a.defers w
 dn:∀ t,aQ w D E (A.t t) (a.tmps.getD t undef)
 c8:eb c.ez c.cS w
 cO:∀ b o,D b o→¬ c.ez b→c.bC b o
 cQ:∀ b o,D b o→b<w.heap.size
 bx:∀ n,cY c.ez w D E n (A.o n)
 cG:∀ n m e e' b,E n=some e→E m=some e'→e.aH=some b→e'.aH=some b→n=m
 df:∀ n e,c.cA n=some e→E n=none∨∃ e',E n=some e'∧e.fA e'
 eO:∀ n,c.cA n≠none→c.n≤n∧1000000≤n
 cE:∀ b o,c.bC b o→D b o
 fh:mg c
 fm:fS c.cS c.bC w
def bG(c:ct)(A:ab)(a:Act)(w:World):Prop:=∃ D E,aM c A a w D E
section
variable {c:ct} {A:ab} {a:Act} {w:World} {D:aJ} {E:aO}
theorem aM.kl(h:aM c A a w D E){w':World}{D':aJ}{E':aO}(hl:da w D E w' D' E'):fS c.cS c.bC w':=h.fm.trans h.cE hl.fm
theorem aM.qf(h:aM c A a w D E){n:Nat}{e:bD}(hn:c.cA n=some e)(hf:e.dO=true):E n=none∨E n=some e:=by
 rcases h.df n e hn with k | ⟨e',k,hle⟩
 ·exact .inl k
 ·rw[hle.eq hf] at k;exact .inr k
theorem mI{M:Nat→Prop}{n:Nat}{x:ai}(h:cY M w D E n (some x)):E n≠none:=by
 cases x with
 |box x=>obtain ⟨b,cs,T,h1,_⟩:=h;rw[h1];simp
 |bM T sz es=>obtain ⟨aH,h1,_⟩:=h;rw[h1];simp
 |cz o=>obtain ⟨b,h1,_⟩:=h;rw[h1];simp
 |b8 ks vs=>obtain ⟨b,es,ck,h1,_⟩:=h;rw[h1];simp
 |it ks vs left=>obtain ⟨r,b,es,ck,dS,se,la,h1,_⟩:=h;rw[h1];simp
 |dL T xs=>obtain ⟨aH,h1,_⟩:=h;rw[h1];simp
theorem eY{w:World}{b:Nat}{o:Obj}(h:w.heap[b]?=some o):b<w.heap.size:=(zy5.1 h).1
theorem aM.fy(h:aM c A a w D E){n:Nat}{e:bD}{b:Nat}(he:E n=some e)(hb:e.aH=some b):b<w.heap.size:=by
 have:=h.bx n;unfold cY at this;split at this
 ·simp[this] at he
 ·obtain ⟨b',cs,T,h1,h2,h3,_⟩:=this;rw[h1,v6] at he;subst he;simp only[bD.aH,v6] at hb;subst hb;exact h3.lt
 ·obtain ⟨aH,h1,h2,h3⟩:=this;rw[h1,v6] at he;subst he;split at h3
  ·simp[bD.aH] at hb
  ·obtain ⟨cs,pre,rest,h4,h5,_⟩:=h3;simp only[bD.aH,v6] at hb;subst hb;exact eY h5
 ·obtain ⟨b',h1,h2,h3,_⟩:=this;rw[h1,v6] at he;subst he;simp only[bD.aH,v6] at hb;subst hb;exact eY h3
 ·obtain ⟨b',es,ck,h1,h2,h3,_⟩:=this;rw[h1,v6] at he;subst he;simp only[bD.aH,v6] at hb;subst hb;exact eY h3
 ·obtain ⟨r,b',es,ck,dS,se,la,h1,h2,h3,_⟩:=this;rw[h1,v6] at he;subst he;simp only[bD.aH,v6] at hb;subst hb;exact eY h3
 ·obtain ⟨aH,h1,h2,h3⟩:=this;rw[h1,v6] at he;subst he;split at h3
  ·simp[bD.aH] at hb
  ·obtain ⟨cs,m,h4,h5,_⟩:=h3;simp only[bD.aH,v6] at hb;subst hb;exact eY h5
theorem aM.wE(h:aM c A a w D E){n b:Nat}{e:bD}(he:E n=some e)(ho:e.eI=true)(hb:e.aH=some b):∀ o,¬ D b o:=by
 have:=h.bx n;unfold cY at this;split at this
 ·rw[this] at he;cases he
 ·obtain ⟨b',cs,T,h1,_⟩:=this;rw[h1] at he;cases he;cases ho
 ·obtain ⟨aH,h1,_⟩:=this;rw[h1] at he;cases he;cases ho
 ·obtain ⟨b',h1,_,_,_,h5⟩:=this;rw[h1] at he;cases he;cases hb;exact h5
 ·obtain ⟨b',es,ck,h1,_,_,_,_,_,h5⟩:=this;rw[h1] at he;cases he;cases hb;exact h5
 ·obtain ⟨r,b',es,ck,dS,se,la,h1,_,_,_,_,_,_,_,_,_,h5⟩:=this;rw[h1] at he;cases he;cases hb;exact h5
 ·obtain ⟨aH,h1,_⟩:=this;rw[h1] at he;cases he;cases ho
theorem cY.later{M:Nat→Prop}{w':World}{D':aJ}{E':aO}{n:Nat}{x:Option ai}(h:cY M w D E n x)(hl:da w D E w' D' E')(az:E' n=E n)
  (hheap:∀ e b,E n=some e→e.aH=some b→w'.heap[b]?=w.heap[b]?∧∀ o,D' b o→D b o):cY M w' D' E' n x:=by
 unfold cY at *;split
 ·rw[az];exact h
 ·obtain ⟨b,cs,T,h1,h2,h3,h4,h5⟩:=h;obtain ⟨k1,k2⟩:=hheap _ b h1 rfl;exact ⟨b,cs,T,az.trans h1,h2,h3.aak k1,ae.later hl _ _ h4,fun o ho=>h5 o (k2 o ho)⟩
 ·obtain ⟨aH,h1,h2,h3⟩:=h;refine ⟨aH,az.trans h1,h2,?_⟩;split
  ·exact h3
  ·rename_i b cap;obtain ⟨cs,pre,rest,h4,h5,h6,h7,h8,h9,h10,h11⟩:=h3;obtain ⟨k1,k2⟩:=hheap _ b h1 rfl;exact ⟨cs,pre,rest,h4,k1.trans h5,h6,aI.later hl _ _ h7,h8,h9,h10,fun o ho=>h11 o (k2 o ho)⟩
 ·obtain ⟨b,h1,h2,h3,h4,h5⟩:=h;obtain ⟨k1,k2⟩:=hheap _ b h1 rfl;exact ⟨b,az.trans h1,h2,k1.trans h3,h4,fun o ho=>h5 o (k2 o ho)⟩
 ·obtain ⟨b,es,ck,h1,h2,h3,h4,h5,h6,h7⟩:=h;obtain ⟨k1,k2⟩:=hheap _ b h1 rfl;exact ⟨b,es,ck,az.trans h1,h2,k1.trans h3,h4,aB.later hl _ _ h5,aB.later hl _ _ h6,fun o ho=>h7 o (k2 o ho)⟩
 ·obtain ⟨r,b,es,ck,dS,se,la,h1,h2,h3,h4,h5,h6,h7,h8,h9,h9',h10⟩:=h;obtain ⟨k1,k2⟩:=hheap _ r h1 rfl;exact ⟨r,b,es,ck,dS,se,la,az.trans h1,h2,k1.trans h3,h4.later hl,aB.later hl _ _ h5,aB.later hl _ _ h6,h7,h8,h9,h9',fun o ho=>h10 o (k2 o ho)⟩
 ·obtain ⟨aH,h1,h2,h3⟩:=h;refine ⟨aH,az.trans h1,h2,?_⟩;split
  ·exact h3
  ·rename_i b cap;obtain ⟨cs,m,h4,h5,h6,h7,h8,h9,h10⟩:=h3;obtain ⟨k1,k2⟩:=hheap _ b h1 rfl;exact ⟨cs,m,h4,k1.trans h5,h6,h7,h8,h9,fun o ho=>h10 o (k2 o ho)⟩
theorem da.grow{w':World}{D':aJ}(hb:Below w.heap.size w w')(hD:∀ b o,D b o→D' b o):da w D E w' D' E:=by
 refine ⟨hD,fun b o v _ hv =>?_,fun _ _ _ h=>h,fun _ aH l h=>⟨aH,l,h,zz8 _,fun _=>rfl⟩,fun _ _ h=>h,fun _ _ h=>h,fun b es ck _ hm=>(hb.block b (eY hm)).trans hm⟩;rw[hb.cell (World.block_lt_of_cell? w _ hv)];exact hv
theorem aM.BU(h:aM c A a w D E){w':World}(hb:Below w.heap.size w w'):eb c.ez w w':=eb.grow hb fun k hk=>.inl (Nat.le_trans h.c8.size hk)
theorem aM.old(h:aM c A a w D E){b:Nat}(hm:¬ c.ez b):b<w.heap.size :=
 Nat.lt_of_lt_of_le (Nat.lt_of_not_le fun hle=>hm (.inl hle)) h.c8.size
theorem aM.jf(h:aM c A a w D E){d:Nat}(hd:d<c.n∨d<1000000):c.cA d=none:=by
 cases hh:c.cA d with
 |none=>rfl
 |some e=>have:=h.eO d (by rw[hh];simp);omega
theorem aM.grow(h:aM c A a w D E){w':World}{D':aJ}(hb:Below w.heap.size w w')(hD:∀ b o,D b o→D' b o)
  (hold:∀ b o,D' b o→b<w.heap.size→D b o) (hlive:∀ b o,D' b o→b<w'.heap.size):aM c A a w' D' E:=by
 have hl:da w D E w' D' E:=da.grow hb hD;refine ⟨h.sz,h.ef.grow hb,fun t=>aQ.later hl (h.dn t),h.c8.trans (h.BU hb),fun b o hd hm=>h.cO b o (hold b o hd (h.old hm)) hm,hlive,
  fun n=>(h.bx n).later hl rfl (fun e b he hb'=>⟨hb.block b (h.fy he hb'),fun o ho=>hold b o ho (h.fy he hb')⟩),h.cG,h.df,h.eO,fun b o hd=>hD b o (h.cE b o hd),h.fh,h.kl hl⟩
theorem aM.F7(h:aM c A a w D E){D':aJ}(hD:∀ b o,D b o→D' b o)
  (hold:∀ b o,D' b o→¬ c.ez b→c.bC b o) (hlive:∀ b o,D' b o→b<w.heap.size)
  (hbox:∀ n x b,A.o n=some (.box x)→E n=some (.aE b x.aL)→∀ o,¬ D' b o)
  (hrow:∀ n T sz es b cap,A.o n=some (.bM T sz es)→E n=some (.rw (some (b,cap)) es.length)→∀ o,D' b o→o<es.length*sz)
  (hui:∀ n T xs b cap,A.o n=some (.dL T xs)→E n=some (.rw (some (b,cap)) xs.length)→∀ o,¬ D' b o)
  (hopq:∀ n e b,E n=some e→e.eI=true→e.aH=some b→∀ o,¬ D' b o):aM c A a w D' E:=by
 have hl:da w D E w D' E:=⟨hD,fun _ _ _ _ h=>h,fun _ _ _ h=>h,fun _ aH l h=>⟨aH,l,h,zz8 _,fun _=>rfl⟩,fun _ _ h=>h,fun _ _ h=>h,fun _ _ _ _ h=>h⟩
 refine ⟨h.sz,h.ef,fun t=>aQ.later hl (h.dn t),h.c8,hold,hlive,fun n =>?_,h.cG,h.df,h.eO,fun b o hd=>hD b o (h.cE b o hd),h.fh,h.fm⟩;have ho:=h.bx n;cases hx:A.o n with
 |none=>rw[hx] at ho;exact ho
 |some x =>
  cases x with
  |box x =>
   rw[hx] at ho;obtain ⟨b,cs,T,h1,h2,h3,h4,h5⟩:=ho;exact ⟨b,cs,T,h1,h2,h3,ae.later hl _ _ h4,hbox n x b hx h1⟩
  |bM T sz es =>
   rw[hx] at ho;obtain ⟨aH,h1,h2,h3⟩:=ho;refine ⟨aH,h1,h2,?_⟩;cases aH with
   |none=>exact h3
   |some bc =>
    obtain ⟨b,cap⟩:=bc;obtain ⟨cs,pre,rest,h4,h5,h6,h7,h8,h9,h10,h11⟩:=h3;refine ⟨cs,pre,rest,h4,h5,h6,aI.later hl _ _ h7,h8,h9,h10,fun o hd =>?_⟩;rw[aI.length _ _ h7,I.gv _ h2];exact hrow n T sz es b cap hx h1 o hd
  |cz x =>
   rw[hx] at ho;obtain ⟨b,h1,h2,h3,h4,h5⟩:=ho;exact ⟨b,h1,h2,h3,h4,hopq n _ b h1 rfl rfl⟩
  |b8 ks vs =>
   rw[hx] at ho;obtain ⟨b,es,ck,h1,h2,h3,h4,h5,h6,h7⟩:=ho;exact ⟨b,es,ck,h1,h2,h3,h4,aB.later hl _ _ h5,aB.later hl _ _ h6,hopq n _ b h1 rfl rfl⟩
  |it ks vs left cur =>
   rw[hx] at ho;obtain ⟨r,b,es,ck,dS,se,la,h1,h2,h3,h4,h5,h6,h7,h8,h9,h9',h10⟩:=ho;exact ⟨r,b,es,ck,dS,se,la,h1,h2,h3,h4.later hl,aB.later hl _ _ h5,aB.later hl _ _ h6,h7,h8,h9,h9',hopq n _ r h1 rfl rfl⟩
  |dL T xs =>
   rw[hx] at ho;obtain ⟨aH,h1,h2,h3⟩:=ho;refine ⟨aH,h1,h2,?_⟩;cases aH with
   |none=>exact h3
   |some bc =>
    obtain ⟨b,cap⟩:=bc;obtain ⟨cs,m,h4,h5,h6,h7,h8,h9,h10⟩:=h3;exact ⟨cs,m,h4,h5,h6,h7,h8,h9,hui n T xs b cap hx h1⟩
theorem XR(a:Act)(d:Nat)(v:Value)(t:Nat)(hd:d<a.tmps.size):(a.put (some d) v).tmps.getD t undef=if t=d then v else a.tmps.getD t undef:=by
 simp only[Act.put,Array.getD_eq_getD_getElem?,Array.getElem?_setIfInBounds];by_cases h:t=d
 ·subst h;simp[hd]
 ·simp[h,Ne.symm h]
theorem aM.put(h:aM c A a w D E){d:Nat}{x:I}{v:Value}(hd:d<c.n)(hv:aQ w D E x v):aM c (A.put d x) (a.put (some d) v) w D E:=by
 refine ⟨by simp[Act.put,h.sz],by exact h.ef,fun t =>?_,h.c8,h.cO,h.cQ,h.bx,h.cG,h.df,h.eO,h.cE,h.fh,h.fm⟩;rw[XR a d v t (by rw[h.sz];exact hd)];simp only[ab.put];split
 ·exact hv
 ·exact h.dn t
theorem aM.aP(h:aM c A a w D E){d:Option Nat}{x:I}{v:Value}(hd:∀ k,d=some k→k<c.n)(hv:aQ w D E x v):aM c (A.aP d x) (a.put d v) w D E:=by
 cases d with
 |none=>exact h
 |some d=>exact h.put (hd d rfl) hv
theorem jB(w:World)(o:Obj):Below w.heap.size w (w.alloc o):=(Below.refl _ _).alloc (zz8 _) o
theorem Fi{w:World}{D:aJ}{E:aO} : ∀ {xs:List I} {vs:List Value},aB w D E xs vs→vs.length=xs.length
 | [],vs,h=>by simp only[aB] at h;subst h;rfl
 |x::xs,vs,h=>by
  simp only[aB] at h;obtain ⟨v,rest,cs,rfl,_,_,h3⟩:=h;simp[Fi h3]
theorem aM.qH(h:aM c A a w D E){d:Nat}{x:ai}{o':Obj}{e:bD}(hdn:d<c.n∨d<1000000)(hd:A.o d=none)(heb:e.aH=some w.heap.size)
  (hx:da w D E (w.alloc o') D (fun n=>if n=d then some e else E n)→(∀ o,¬ D w.heap.size o)→cY c.ez (w.alloc o') D (fun n=>if n=d then some e else E n) d (some x)) :
  aM c (A.aN d x) a (w.alloc o') D (fun n=>if n=d then some e else E n):=by
 have hEd:E d=none:=by have:=h.bx d;rw[hd] at this;exact this
 have hne:∀ {n:Nat} {e:bD},E n=some e→n≠d:=fun he e'=>by rw[e',hEd] at he;cases he
 have hl:da w D E (w.alloc o') D (fun n=>if n=d then some e else E n):=by
  refine ⟨fun _ _ h=>h,fun b o v _ hv =>?_,fun n b aL he =>?_,fun n aH l he =>?_,fun n b he =>?_,fun n b he =>?_,fun b es ck _ hm=>(Below.heap_alloc w _ b (eY hm)).trans hm⟩
  ·rw[World.cell?_alloc_lt _ _ _ (World.block_lt_of_cell? w _ hv)];exact hv
  ·simp only[if_neg (hne he)];exact he
  ·exact ⟨aH,l,by simp only[if_neg (hne he)];exact he,zz8 _,fun _=>rfl⟩
  ·simp only[if_neg (hne he)];exact he
  ·simp only[if_neg (hne he)];exact he
 refine ⟨h.sz,h.ef.grow (jB w _),fun t=>aQ.later hl (h.dn t),h.c8.trans (h.BU (jB w _)),h.cO,fun b o hd'=>by have:=h.cQ b o hd';simp;omega,fun n =>?_,?_,fun n e' hn =>?_,h.eO,h.cE,h.fh,h.kl hl⟩
 ·simp only[ab.aN];by_cases hn:n=d
  ·subst hn;simp only[if_true];exact hx hl fun o ho=>Nat.lt_irrefl _ (h.cQ _ o ho)
  ·simp only[if_neg hn];exact (h.bx n).later hl (by simp only[if_neg hn]) fun e b he hb=>⟨Below.heap_alloc w _ b (h.fy he hb),fun _ ho=>ho⟩
 ·intro n m e1 e2 b h1 h2 h3 h4;by_cases hn:n=d <;>by_cases hm:m=d
  ·rw[hn,hm]
  ·simp only[if_pos hn,v6] at h1;simp only[if_neg hm] at h2;subst h1;rw[heb] at h3;cases h3;have:=h.fy h2 h4;omega
  ·simp only[if_neg hn] at h1;simp only[if_pos hm,v6] at h2;subst h2;rw[heb] at h4;cases h4;have:=h.fy h1 h3;omega
  ·simp only[if_neg hn] at h1;simp only[if_neg hm] at h2;exact h.cG n m e1 e2 b h1 h2 h3 h4
 ·have hnd:n≠d:=fun e=>by rw[e,h.jf hdn] at hn;cases hn
  simp only[if_neg hnd];exact h.df n e' hn
theorem aM.qG(h:aM c A a w D E){d:Nat}{x:I}{cs:Array Value}{T:TypeId}(hdn:d<c.n∨d<1000000)(hd:A.o d=none)(hx:ae w D E x cs.toList) :
  aM c (A.aN d (.box x)) a (w.alloc (.cells cs T)) D (fun n=>if n=d then some (.aE w.heap.size x.aL) else E n) :=
 h.qH hdn hd rfl fun hl hno=>⟨w.heap.size,cs,T,by simp,.inl h.c8.size,.aai (heap_alloc_new w _),ae.later hl _ _ hx,hno⟩
theorem aM.Zx(h:aM c A a w D E){d:Nat}(hdn:d<c.n∨d<1000000)(hd:A.o d=none) :
  aM c (A.aN d (.b8 [] [])) a (w.alloc (.map #[] 0)) D (fun n=>if n=d then some (.b8 w.heap.size) else E n) :=
 h.qH hdn hd rfl fun _ hno=>⟨w.heap.size,#[],0,by simp,.inl h.c8.size,heap_alloc_new w _,⟨by simp,by simp⟩,by simp[aB],by simp[aB],hno⟩
theorem aM.Zw(h:aM c A a w D E){d b clock:Nat}{ks vs:List I}{es:Array MapEntry}(hdn:d<c.n∨d<1000000)(hd:A.o d=none)(hm:nv w D b es clock)(hk:aB w D E ks (es.toList.map (·.key)))(hv:aB w D E vs (es.toList.map (·.val))) :
  aM c (A.aN d (.it ks vs (List.range ks.length) none)) a (w.alloc (.mapIter (some b) clock #[] clock)) D (fun n=>if n=d then some (.it w.heap.size) else E n) :=
 h.qH hdn hd rfl fun hl hno=>⟨w.heap.size,b,es,clock,clock,#[],clock,by simp,.inl h.c8.size,heap_alloc_new w _,hm.later hl,aB.later hl _ _ hk,aB.later hl _ _ hv,hm.2.2.1,⟨zz8 _,zz8 _⟩,by
  have e:ks.length=es.size:=by have:=Fi hk;simpa using this.symm
  rw[e];unfold nu;exact (List.filter_eq_self.2 fun i hi=>by
   have hi':i<es.size:=by simpa using hi
   simp[Array.getElem?_eq_getElem hi']).symm,(fun i hi=>by cases hi),hno⟩
theorem u5(w:World)(g:Nat)(cs:Array Value)(p:Addr)(h:p.block≠g):(w.setRow g cs).cell? p=w.cell? p :=
 World.cell?_of_block (setRow_other w g p.block cs h)
theorem vV{M:Nat→Prop}{cS w:World}(h:eb M cS w){g:Nat}(hg:M g)(cs:Array Value):eb M cS (w.setRow g cs) :=
 h.trans ⟨rfl,rfl,rfl,by simp[World.setRow],fun k hk=>setRow_other w g k cs (fun e=>hk (e▸hg))⟩
theorem aM.xh(h:aM c A a w D E){n b:Nat}{x y:I}{cs':Array Value}(hn:A.o n=some (.box x))(az:E n=some (.aE b x.aL))(hs:y.aL=x.aL)(hy:ae w D E y cs'.toList) :
  aM c (A.aN n (.box y)) a (w.setRow b cs') D E:=by
 have ho:=h.bx n;rw[hn] at ho;obtain ⟨b',cs,T,h1,h2,h3,h4,h5⟩:=ho;rw[az] at h1;simp only[v6,bD.aE.injEq,and_true] at h1;subst h1;have hl:da w D E (w.setRow b cs') D E:=by
  refine ⟨fun _ _ h=>h,fun b1 o v hd hv =>?_,fun _ _ _ h=>h,fun _ aH l h=>⟨aH,l,h,zz8 _,fun _=>rfl⟩,fun _ _ h=>h,fun _ _ h=>h,fun b1 es ck hd hm=>(setRow_other w b b1 _ (fun e=>h5 0 (by rw[←e];exact hd))).trans hm⟩;rw[u5 _ _ _ _ (fun e=>h5 o (by rw[←e];exact hd))];exact hv
 refine ⟨h.sz,h.ef.mono fun B _ hB=>(setRow_other w b B cs' (fun e=>h3.CN (by rw[←e];exact hB))).trans hB,fun t=>aQ.later hl (h.dn t),vV h.c8 h2 _,h.cO,fun b1 o hd=>by have:=h.cQ b1 o hd;simpa[World.setRow] using this,fun m =>?_,h.cG,h.df,h.eO,h.cE,h.fh,h.kl hl⟩;simp only[ab.aN];by_cases hm:m=n
 ·subst hm;simp only[if_true,cY];exact ⟨b,cs',T,by rw[hs];exact az,h2,ea.aL (h3.setRow (by have a1:=ae.length _ _ hy;have a2:=ae.length _ _ h4;rw[←I.iC,hs,I.iC,←a2] at a1;simpa using a1)) hs,ae.later hl _ _ hy,h5⟩
 ·simp only[if_neg hm];refine (h.bx m).later hl rfl fun e b1 he hb=>⟨setRow_other w b b1 cs' (fun e1=>hm (h.cG m n e _ b he az (by rw[hb,e1]) rfl)),fun _ ho=>ho⟩
theorem u6{w:World}{B:Nat}{o o':Obj}(h:w.heap[B]?=some o)(ho:o.isCells=false){b off:Nat}{v:Value}(hv:w.cell? ⟨b,off,none⟩=some v):(w.putObj B o').cell? ⟨b,off,none⟩=some v:=by
 have hne:b≠B:=fun e=>by
  obtain ⟨o2,h2,h3⟩:=cells_of_cell hv;simp only at h2;rw[e,h] at h2;cases h2;rw[ho] at h3;cases h3
 rw[World.cell?_of_block (w:=w) (World.putObj_heap_other hne)];exact hv
theorem aM.xi(h:aM c A a w D E){n b:Nat}{e:bD}{x:ai}{o0 o':Obj}(az:E n=some e)(ho:e.eI=true)(hb:e.aH=some b)(hw:w.heap[b]?=some o0)(hnc:o0.isCells=false)(hnd:∀ q,o0≠.deferred q)(hmine:c.ez b)
  (hx:da w D E (w.putObj b o') D E→(w.putObj b o').heap[b]?=some o'→(∀ o,¬ D b o)→cY c.ez (w.putObj b o') D E n (some x)):aM c (A.aN n x) a (w.putObj b o') D E:=by
 have hno:=h.wE az ho hb;have hlt:b<w.heap.size:=eY hw;have hl:da w D E (w.putObj b o') D E:=⟨fun _ _ h=>h,fun b1 o1 v _ hv=>u6 hw hnc hv,fun _ _ _ h=>h,fun _ aH l h=>⟨aH,l,h,zz8 _,fun _=>rfl⟩,fun _ _ h=>h,fun _ _ h=>h,
  fun b1 es ck hd hm=>(World.putObj_heap_other (fun e1=>hno 0 (by rw[←e1];exact hd))).trans hm⟩
 refine ⟨h.sz,h.ef.mono fun B _ hB=>(World.putObj_heap_other (fun e1=>by rw[e1,hw] at hB;exact hnd _ (Option.some.inj hB))).trans hB,fun t=>aQ.later hl (h.dn t),h.c8.trans ⟨rfl,rfl,rfl,by simp,fun k hk=>World.putObj_heap_other (fun e1=>hk (e1▸hmine))⟩,h.cO,
  fun b1 o1 hd=>by have:=h.cQ b1 o1 hd;simpa using this,fun m =>?_,h.cG,h.df,h.eO,h.cE,h.fh,h.kl hl⟩
 simp only[ab.aN];by_cases hm:m=n
 ·subst hm;simp only[if_true];exact hx hl (World.putObj_heap_same hlt) hno
 ·simp only[if_neg hm];exact (h.bx m).later hl rfl fun e' b1 he hb'=>⟨World.putObj_heap_other (fun e1=>hm (h.cG m n e' _ b1 he az hb' (by rw[e1];exact hb))),fun _ ho=>ho⟩
end
inductive aF where
 |t (n:Nat)
 |c (x:I)
 deriving Inhabited
inductive cm where
 |i (k:IntKind)
 |b
 |s
 |aS (l:List cm)
 |mj (n:Nat) (e:cm)
 deriving Inhabited
mutual
def cm.size:cm→Nat
 | .i _ | .b | .s=>1
 | .aS l=>cm.sizes l
 | .mj n e=>n*e.size
def cm.sizes:List cm→Nat
 | []=>0
 |t::ts=>t.size+cm.sizes ts
end
inductive uD where
 |dS
 |ss (lo hi:Bool)
 |ny (neg:Bool)
 |min2
 |mF (T:TypeId)
 |kO
 deriving Inhabited,DecidableEq
inductive bz where
 |mv (x:aF)
 |pick (c a b:aF)
 |bin (op:BinOp) (x y:aF)
 |eqv (ty:cm) (neg:Bool) (x y:aF)
 |nilS (neg:Bool) (x:aF)
 |conv (k:IntKind) (x:aF)
 |un (op:UnOp) (x:aF)
 |ld (s:Option Nat) (x:aF)
 |fa (f off:Nat) (x:aF)
 |fl (f off:Nat) (s:Option Nat) (x:aF)
 |ia (n esz:Nat) (x i:aF)
 |is (esz:Nat) (x i:aF)
 |ix (n esz:Nat) (s:Option Nat) (x i:aF)
 |len (x:aF)
 |lenT (x:aF)
 |va (n esz:Nat) (x:aF)
 |sl (esz:Nat) (x:aF) (lo hi mx:Option aF)
 |bld (zs:List I) (parts:List (Nat×aF))
 |bs (T esz:Nat) (parts:List aF)
 |ext (x:aF) (i:Nat)
 |mk (f:FuncId) (caps:List aF)
 |alloc (z:I)
 |box (x:aF)
 |aS (s:Option Nat) (x v:aF)
 |du (e:TypeId) (esz bytes:Nat) (z:I) (s x:aF)
 |jU (e:TypeId) (esz bytes:Nat) (z:I) (s n:aF)
 |cap (x:aF)
 |bs0 (esz:Nat)
 |jc (esz:Nat) (z:I) (x:aF)
 |gl (esz:Nat) (x y:aF)
 |call (f:FuncId) (args:List aF)
 |eV (x:aF) (args:List aF)
 |gK (f:FuncId) (args:List aF)
 |nilC (x:aF)
 |ptrE (neg:Bool) (x y:aF)
 |max2 (x y:aF)
 |prim (p:uD) (xs:List aF)
 |b2s (x:aF)
 |eT (x:aF)
 |jl (e:TypeId) (bytes:Nat) (z:I) (n:aF)
 |jK
 |lI (e:TypeId) (sz:Nat)
 |lk (ty:cm) (z:I) (ok:Bool) (m k:aF)
 |jm (ty:cm) (m k v:aF)
 |lH (ty:cm) (m k:aF)
 |kh (x:aF)
 |j8 (x:aF)
 |ent (x:aF)
 deriving Inhabited
def rZ(sz:Nat):Value→Option I
 | .bool b=>some (.bool b)
 | .int k n=>if k.min≤n∧n≤k.max then some (.int k n) else none
 | .string s=>if s.size≤1000000 then some (.ay s) else none
 | .pointer none=>some .nilp
 | .slice none 0 0=>some (.nils sz)
 | .nilFunc=>some .cZ
 | .nilIface=>some .cR
 | .map none=>some (.raw (.map none))
 |_=>none
theorem Is{sz:Nat}{v:Value}{x:I}(h:rZ sz v=some x)(w:World)(D:aJ)(E:aO):aQ w D E x v:=by
 unfold rZ at h;split at h
 case h_2 =>
  split at h
  ·rename_i hh;simp only[v6] at h;subst h;exact ⟨_,by simp[bd,I.isAgg];rfl,by simp only[ae,true_and];exact hh⟩
  ·simp at h
 case h_3 =>
  split at h
  ·rename_i hh;simp only[v6] at h;subst h;exact ⟨_,by simp[bd,I.isAgg];rfl,by simp only[ae,true_and];unfold maxLen;omega⟩
  ·simp at h
 case h_9=>simp at h
 all_goals
  simp only[v6] at h;subst h;exact ⟨_,by simp[bd,I.isAgg];rfl,by simp[ae,Value.oneCell']⟩
def NX(P:Program)(t:TypeId):Nat:=match P.underlying t with | some (.slice e)=>P.cellsOf e | _=>0
def aX(P:Program)(t:TypeId):Operand→Option aF
 | .tmp n=>some (.t n)
 | .const v=>(rZ (NX P t) v).map .c
 | .func f=>if f<1000000 then some (.c (.func f [])) else none
 | .global _=>none
def af(A:ab):aF→I
 | .t n=>A.t n
 | .c x=>x
section
variable {c:ct} {A:ab} {a:Act} {w:World} {D:aJ} {E:aO}
theorem br(h:aM c A a w D E){P:Program}{t:TypeId}{x:Operand}{y:aF}(hc:aX P t x=some y):aQ w D E (af A y) (a.eval x):=by
 cases x with
 |tmp n=>simp only[aX,v6] at hc;subst hc;exact h.dn n
 |const v =>
  simp only[aX,t8] at hc;obtain ⟨z,hz,rfl⟩:=hc;exact Is hz w D E
 |global g=>simp[aX] at hc
 |func f =>
  simp only[aX] at hc;split at hc
  case isFalse=>cases hc
  rename_i hf;simp only[v6] at hc;subst hc;exact ⟨[.func (.func f) #[] #[]],by simp[bd,I.isAgg,af,Act.eval],by simp only[ae,af,aB];exact ⟨[],by rw[lB hf],rfl⟩⟩
theorem kR{b:Bool}{v:Value}(h:aQ w D E (.bool b) v):v=.bool b:=by
 obtain ⟨cs,h1,h2⟩:=h;simp only[ae] at h2;simp[bd,I.isAgg,h2] at h1;exact h1.symm
theorem dh{k:IntKind}{n:Int}{v:Value}(h:aQ w D E (.int k n) v):v=.int k n∧k.min≤n∧n≤k.max:=by
 obtain ⟨cs,h1,h2⟩:=h;simp only[ae] at h2;simp[bd,I.isAgg,h2.1] at h1;exact ⟨h1.symm,h2.2⟩
theorem gb{s:ByteArray}{v:Value}(h:aQ w D E (.ay s) v):v=.string s∧s.size≤maxLen:=by
 obtain ⟨cs,h1,h2⟩:=h;simp only[ae] at h2;simp[bd,I.isAgg,h2.1] at h1;exact ⟨h1.symm,h2.2⟩
theorem CJ{x:I}{v:Value}(hx:x.isAgg=false)(h:ae w D E x [v]):aQ w D E x v:=by
 cases x <;>simp only[ae] at h <;>first | (simp[I.isAgg] at hx;done) | exact ⟨[v],by simp[bd,I.isAgg],by simpa only[ae] using h⟩
theorem iS{fs:List I}{v:Value}(h:aQ w D E (.agg fs) v):∃ cs:List Value,v=.agg cs.toArray∧aI w D E fs cs:=by
 obtain ⟨cs,h1,h2⟩:=h;simp only[ae] at h2;exact ⟨cs,by simpa[bd,I.isAgg] using h1,h2⟩
theorem CI{fs:List I}{cs:List Value}(h:aI w D E fs cs):aQ w D E (.agg fs) (.agg cs.toArray):=⟨cs,by simp[bd,I.isAgg],by simpa only[ae] using h⟩
theorem kK(b:Bool):aQ w D E (.bool b) (.bool b):=⟨[.bool b],by simp[bd,I.isAgg],by simp[ae]⟩
theorem iv{k:IntKind}{n:Int}(h:k.min≤n∧n≤k.max):aQ w D E (.int k n) (.int k n):=⟨[.int k n],by simp[bd,I.isAgg],by simp only[ae,true_and];exact h⟩
theorem kS{n:Nat}{p:List Nat}{v:Value}(h:aQ w D E (.ptr n p) v):∃ b aL off,E n=some (.aE b aL)∧aL.off p=some off∧v=.pointer (some ⟨b,off,none⟩):=by
 obtain ⟨cs,h1,h2⟩:=h;simp only[ae] at h2;obtain ⟨b,aL,off,h3,h4,h5⟩:=h2;exact ⟨b,aL,off,h3,h4,by simpa[bd,I.isAgg,h5] using h1.symm⟩
theorem pg{x:I}{v:Value}(h:aQ w D E (.ref x) v):∃ b off cs,v=.pointer (some ⟨b,off,none⟩)∧reads w D b off cs∧ae w D E x cs:=by
 obtain ⟨cs,h1,h2⟩:=h;simp only[ae] at h2;obtain ⟨b,off,cs',h3,h4,h5⟩:=h2;exact ⟨b,off,cs',by simpa[bd,I.isAgg,h3] using h1.symm,h4,h5⟩
theorem ta{x:I}{b off:Nat}{cs:List Value}(h1:reads w D b off cs)(h2:ae w D E x cs):aQ w D E (.ref x) (.pointer (some ⟨b,off,none⟩)) :=
 ⟨_,by simp[bd,I.isAgg];rfl,by simp only[ae];exact ⟨b,off,cs,rfl,h1,h2⟩⟩
theorem kT{sz:Nat}{es:List I}{v:Value}(h:aQ w D E (.slice sz es) v):∃ ad cap,v=.slice ad es.length cap∧es.length≤cap∧cap≤maxLen ∧
  (es=[]∨∃ b off cs,ad=some ⟨b,off,none⟩∧reads w D b off cs∧aI w D E es cs)∧∀ e∈es,e.size=sz:=by
 obtain ⟨cs,h1,h2⟩:=h;simp only[ae] at h2;obtain ⟨ad,cap,h3,h4⟩:=h2;exact ⟨ad,cap,by simpa[bd,I.isAgg,h3] using h1.symm,h4⟩
theorem tc{sz:Nat}{es:List I}{ad:Option Addr}{n cap:Nat}(hn:n=es.length)(h1:n≤cap)(h2:cap≤maxLen)
  (h3:es=[]∨∃ b off cs,ad=some ⟨b,off,none⟩∧reads w D b off cs∧aI w D E es cs) (h4:∀ e∈es,e.size=sz):aQ w D E (.slice sz es) (.slice ad n cap):=by
 subst hn;exact ⟨_,by simp[bd,I.isAgg];rfl,by simp only[ae];exact ⟨ad,cap,rfl,h1,h2,h3,h4⟩⟩
end
def bS(op:BinOp)(x y:I):Option I :=
 match x,y with
 | .int k a,.int k' b =>
  match op with
  | .shl=>if 0≤b then some (.int k (k.wrap (a*2^(min b.toNat k.bits)))) else none
  | .shr=>if 0≤b then some (.int k (a.fdiv (2^(min b.toNat k.bits)))) else none
  |op=>if k=k' then
   match op with
   | .add=>some (.int k (k.wrap (a+b)))
   | .sub=>some (.int k (k.wrap (a-b)))
   | .mul=>some (.int k (k.wrap (a*b)))
   | .quo=>if b=0 then none else some (.int k (k.wrap (a.tdiv b)))
   | .rem=>if b=0 then none else some (.int k (a.tmod b))
   | .and=>some (.int k (k.wrap ((BitVec.ofInt k.bits a &&& BitVec.ofInt k.bits b).toNat:Int)))
   | .or=>some (.int k (k.wrap ((BitVec.ofInt k.bits a ||| BitVec.ofInt k.bits b).toNat:Int)))
   | .xor=>some (.int k (k.wrap ((BitVec.ofInt k.bits a ^^^ BitVec.ofInt k.bits b).toNat:Int)))
   | .andNot=>some (.int k (k.wrap ((BitVec.ofInt k.bits a &&& ~~~ BitVec.ofInt k.bits b).toNat:Int)))
   | .eql=>some (.bool (a==b))
   | .neq=>some (.bool (a != b))
   | .lss=>some (.bool (decide (a<b)))
   | .leq=>some (.bool (decide (a≤b)))
   | .gtr=>some (.bool (decide (a>b)))
   | .geq=>some (.bool (decide (a≥b)))
   |_=>none
   else none
 | .ay s,.ay t =>
  match op with
  | .eql=>some (.bool (s.toList==t.toList))
  | .neq=>some (.bool (!(s.toList==t.toList)))
  | .lss=>some (.bool (Op.bytesLess s.toList t.toList))
  | .leq=>some (.bool (Op.bytesLess s.toList t.toList||s.toList==t.toList))
  | .gtr=>some (.bool (!(Op.bytesLess s.toList t.toList||s.toList==t.toList)))
  | .geq=>some (.bool (!(Op.bytesLess s.toList t.toList)))
  | .add=>if s.size+t.size≤9223372036854775807 then some (.ay (s++t)) else none
  |_=>none
 |_,_=>none
theorem pA(k:IntKind)(n:Int):k.min≤k.wrap n∧k.wrap n≤k.max:=by
 cases k <;>simp only[IntKind.min,IntKind.max,IntKind.wrap,IntKind.bits,IntKind.signed] <;>simp <;>(try split) <;>omega
theorem ack(a b:Int):(0≤a→0≤a.tmod b∧a.tmod b≤a)∧(a<0→a≤a.tmod b∧a.tmod b≤0):=by
 have key:∀ n:Nat,0≤(n:Int).tmod b∧(n:Int).tmod b≤n:=by
  intro n;cases b with
  |ofNat m=>show 0≤((n%m:Nat):Int)∧((n%m:Nat):Int)≤n;have:=Nat.mod_le n m;omega
  |negSucc m=>show 0≤((n%(m+1):Nat):Int)∧((n%(m+1):Nat):Int)≤n;have:=Nat.mod_le n (m+1);omega
 refine ⟨fun h =>?_,fun h =>?_⟩
 ·obtain ⟨n,rfl⟩:=zx0 h;exact key n
 ·obtain ⟨n,hn⟩:=zx0 (show 0≤-a by omega);have:=key n;rw[←hn,Int.neg_tmod] at this;omega
theorem acm(k:IntKind)(a b:Int)(h:k.min≤a∧a≤k.max):k.min≤a.tmod b∧a.tmod b≤k.max:=by
 have h0:k.min≤0∧0≤k.max:=by cases k <;>simp[IntKind.min,IntKind.max,IntKind.bits,IntKind.signed]
 have:=ack a b;omega
theorem Od(a:Int)(m:Int)(hm:0<m):(0≤a→0≤a.fdiv m∧a.fdiv m≤a)∧(a<0→a≤a.fdiv m∧a.fdiv m≤0):=by
 rw[Int.fdiv_eq_ediv_of_nonneg _ (by omega)];have h1:=Int.mul_ediv_add_emod a m;have h2:=Int.emod_nonneg a (show m≠0 by omega);refine ⟨fun h=>⟨Int.ediv_nonneg h (by omega),Int.ediv_le_self _ h⟩,fun h=>⟨?_,?_⟩⟩
 ·rw[Int.le_ediv_iff_mul_le hm];have:a*m≤a*1:=Int.mul_le_mul_of_nonpos_left (by omega) (by omega);omega
 ·have:=Int.ediv_neg_of_neg_of_pos h hm;omega
theorem Oe(k:IntKind)(a:Int)(n:Nat)(h:k.min≤a∧a≤k.max):k.min≤a.fdiv (2^n)∧a.fdiv (2^n)≤k.max:=by
 have h0:k.min≤0∧0≤k.max:=by cases k <;>simp[IntKind.min,IntKind.max,IntKind.bits,IntKind.signed]
 have:=Od a (2^n) (Int.pow_pos (by omega));omega
def b6(A:ab):I→Option I
 | .ref x=>some x
 | .ptr n p=>match A.o n with
  |some (.box x)=>x.at p
  |_=>none
 |_=>none
mutual
def I.bw:I→Bool
 | .agg fs=>I.b7 fs
 | .slice _ es=>I.b7 es
 | .ref x=>x.bw
 | .func _ caps=>I.b7 caps
 | .iface _ v=>v.bw
 | .cu ks vs=>I.b7 ks&&I.b7 vs
 | .ptr _ _ | .own _ _ | .view _ _ _ _ _ | .mref _ | .cU _ | .undef | .cV | .tuple _=>false
 | .bool _ | .int _ _ | .ay _ | .nilp | .cZ | .cR | .any | .raw _ | .nils _ | .c0 _=>true
def I.b7:List I→Bool
 | []=>true
 |x::xs=>x.bw&&I.b7 xs
end
def gq(f:I→Option I):List I→Option (List I)
 | []=>some []
 |x::xs=>match f x,gq f xs with
  |some y,some ys=>some (y::ys)
  |_,_=>none
def fI(A:ab):Nat→I→Option I
 |0,_=>none
 |k+1,x=>if x.bw then some x else match x with
  | .agg fs=>(gq (fI A k) fs).map .agg
  | .func f caps=>if f<1000000 then (gq (fI A k) caps).map (.func f) else some .any
  | .ptr n p=>match b6 A (.ptr n p) with
   |some y=>(fI A k y).map .ref
   |none=>none
  | .view n p sz lo l=>match b6 A (.ptr n p) with
   |some (.agg fs)=>if I.b7 ((fs.drop lo).take l)=true then some (.slice sz ((fs.drop lo).take l)) else none
   |_=>none
  | .mref n=>match A.o n with
   |some (.b8 ks vs)=>if I.b7 ks=true then (gq (fI A k) vs).map (.cu ks) else none
   |_=>none
  | .own n l=>match A.o n with
   |some (.bM _ sz es)=>if l=es.length∧I.b7 es=true then some (.slice sz es) else none
   |_=>none
  |_=>none
mutual
/-- The value for others to hold: pointers to the frame's own variables and rows become what they hold. -/
def bf(aE:Bool)(A:ab):I→Option I
 | .ptr n p=>if aE then (match b6 A (.ptr n p) with | some x=>if x.bw then some (.ref x) else (fI A 9 x).map .ref | none=>none) else none
 | .own n k=>match A.o n with
  |some (.bM _ sz es)=>if k=es.length∧I.b7 es=true then some (.slice sz es) else none
  |_=>none
 | .view n p sz lo k=>if aE then (match b6 A (.ptr n p) with
  |some (.agg fs)=>if I.b7 ((fs.drop lo).take k)=true then some (.slice sz ((fs.drop lo).take k)) else none
  |_=>none) else none
 | .mref n=>if aE then (match A.o n with
  |some (.b8 ks vs)=>if I.b7 ks=true then (gq (fI A 9) vs).map (.cu ks) else none
  |_=>none) else none
 | .cU _=>none
 | .cu ks vs=>if I.b7 ks&&I.b7 vs then some (.cu ks vs) else none
 | .nils sz=>some (.slice sz [])
 | .c0 sz=>some (.slice sz [])
 | .func f caps=>if f<1000000 then (bL aE A caps).map (.func f) else some .any
 | .agg fs=>(bL aE A fs).map .agg
 | .tuple _=>none
 | .undef=>none
 | .cV=>none
 | .bool b=>some (.bool b)
 | .int k n=>some (.int k n)
 | .ay s=>some (.ay s)
 | .nilp=>some .nilp
 | .cZ=>some .cZ
 | .cR=>some .cR
 | .any=>some .any
 | .raw u=>some (.raw u)
 | .slice sz es=>if I.b7 es then some (.slice sz es) else none
 | .ref x=>if x.bw then some (.ref x) else none
 | .iface t v=>if v.bw then some (.iface t v) else none
def bL(aE:Bool)(A:ab):List I→Option (List I)
 | []=>some []
 |x::xs=>match bf aE A x,bL aE A xs with
  |some y,some ys=>some (y::ys)
  |_,_=>none
end
def bT(s:Option Nat)(x:I):Bool:=match s with
 |none => !x.isAgg
 |some n=>x.isAgg&&x.size==n
def I.cn:I→Bool
 | .undef | .cV | .tuple _=>false
 |_=>true
def gQ(n esz:Nat)(fs:List I):Bool:=fs.length==n&&fs.all fun f=>f.size==esz
def fG(zs:List I):List (Nat×I)→Option (List I)
 | []=>some zs
 |(i,v)::rest=>match zs[i]? with
  |some z=>if v.cn=true∧v.size=z.size then fG (zs.set i v) rest else none
  |none=>none
def gy(x:Option I)(d:Int):Option Int:=match x with
 |none=>some d
 |some (.int _ n)=>some n
 |_=>none
def hJ(sz:Nat)(es:List I)(lo hi mx:Option I):Option I :=
 match gy hi es.length with
 |none=>none
 |some h=>match gy mx es.length with
  |none=>none
  |some m=>match gy lo 0 with
   |none=>none
   |some l=>if 0≤l∧l≤h∧h≤m∧m≤es.length then
     (if mx.isSome∧m=l then some (.c0 sz) else some (.slice sz ((es.take h.toNat).drop l.toNat))) else none
def iU(n:Nat)(p:List Nat)(sz lo k total:Nat)(lo' hi' mx':Option I):Option I :=
 match gy hi' k with
 |none=>none
 |some h=>match gy lo' 0 with
  |none=>none
  |some l=>match mx' with
   |none=>if 0≤l∧l≤h∧h≤((total-lo:Nat):Int) then (if l=((total-lo:Nat):Int) then some (.c0 sz) else some (.view n p sz (lo+l.toNat) (h.toNat-l.toNat))) else none
   |some (.int _ m)=>if 0≤l∧l≤h∧h≤m∧m≤((total-lo:Nat):Int) then some .cV else none
   |_=>none
def ib(a b:Option Bool):Option Bool:=match a,b with
 |some x,some y=>some (x&&y)
 |_,_=>none
mutual
/-- '==',part by part. -/
def bV:cm→I→I→Option Bool
 | .i k,x,y=>match x,y with
  | .int k1 a,.int k2 b=>if k1=k∧k2=k then some (a==b) else none
  |_,_=>none
 | .b,x,y=>match x,y with
  | .bool a,.bool b=>some (a==b)
  |_,_=>none
 | .s,x,y=>match x,y with
  | .ay a,.ay b=>some (a.toList==b.toList)
  |_,_=>none
 | .aS l,x,y=>match x,y with
  | .agg fs,.agg gs=>gB l fs gs
  |_,_=>none
 | .mj n e,x,y=>match x,y with
  | .agg fs,.agg gs=>if fs.length=n∧gs.length=n then (fs.zip gs).foldr (fun p acc=>ib (bV e p.1 p.2) acc) (some true) else none
  |_,_=>none
def gB:List cm→List I→List I→Option Bool
 | [],fs,gs=>match fs,gs with
  | [],[]=>some true
  |_,_=>none
 |t::ts,fs,gs=>match fs,gs with
  |f::fs,g::gs=>ib (bV t f g) (gB ts fs gs)
  |_,_=>none
end
def oy(k:IntKind)(n:Int):Int:=k.wrap ((BitVec.ofInt k.bits (if k.signed then -1 else k.max) ^^^ BitVec.ofInt k.bits n).toNat:Int)
def gC(ty:cm)(k:I):List I→Nat→Option (Option Nat)
 | [],_=>some none
 |x::xs,i=>match bV ty k x with
  |some true=>some (some i)
  |some false=>gC ty k xs (i+1)
  |none=>none
def fY(A:ab):I→Option (List I×List I)
 | .cu ks vs=>some (ks,vs)
 | .mref n=>match A.o n with
  |some (.b8 ks vs)=>some (ks,vs)
  |_=>none
 | .raw (.map none)=>some ([],[])
 |_=>none
def jI(ty:cm)(z k:I)(ks vs:List I):Option (I×Bool) :=
 if (bV ty k k).isSome then (match gC ty k ks 0 with
  |some (some i)=>(vs[i]?).map fun v=>(v,true)
  |some none=>some (z,false)
  |none=>none) else none
def ir:I→Option Bool
 | .nilp=>some true
 | .ptr _ _=>some false
 | .ref _=>some false
 |_=>none
def lJ(ty:cm)(k v:I)(ks vs:List I):Option (List I×List I) :=
 if (bV ty k k).isSome=true∧k.cn=true∧v.cn=true then (match gC ty k ks 0 with
  |some (some i)=>some (ks,vs.set i v)
  |some none=>some (ks++[k],vs++[v])
  |none=>none) else none
def wc(ty:cm)(k:I)(ks vs:List I):Option (List I×List I) :=
 if (bV ty k k).isSome=true then (match gC ty k ks 0 with
  |some (some i)=>some (ks.eraseIdx i,vs.eraseIdx i)
  |some none=>some (ks,vs)
  |none=>none) else none
def nw:I→Option I
 | .ptr n p=>some (.ptr n p)
 | .ref x=>some (.ref x)
 |_=>none
def wm:I→I→Option I
 | .int k a,.int k2 b=>if k=k2 then some (.int k (if b>a then b else a)) else none
 |_,_=>none
def mO(neg:Bool):Option Bool→Option Bool→Option I
 |some a,some b=>if a||b then some (.bool (if neg then !(a&&b) else (a&&b))) else none
 |_,_=>none
def qC(ok:Bool):Option (I×Bool)→Option I
 |some (v,b)=>some (if ok then .tuple [v,.bool b] else v)
 |none=>none
def qB(ty:cm)(z:I)(ok:Bool)(k:I):Option (List I×List I)→Option I
 |some (ks,vs)=>qC ok (jI ty z k ks vs)
 |none=>none
def sa(ks vs:List I):Option Nat→Option I
 |some i=>match ks[i]?,vs[i]? with
  |some k,some v=>some (.tuple [k,v])
  |_,_=>none
 |none=>none
def nc:List I→Option (List UInt8)
 | []=>some []
 |x::xs=>match x,nc xs with
  | .int .u8 n,some l=>some (UInt8.ofNat n.toNat::l)
  |_,_=>none
def cT(A:ab)(sz:Nat):I→Option (List I)
 | .slice z es=>if z=sz then some es else none
 | .nils _=>some []
 | .c0 _=>some []
 | .own n l=>match A.o n with
  |some (.bM _ z es)=>if l=es.length∧z=sz then some es else none
  |_=>none
 | .view n p z lo k=>match b6 A (.ptr n p) with
  |some (.agg fs)=>if lo+k≤fs.length∧z=sz then some ((fs.drop lo).take k) else none
  |_=>none
 |_=>none
def eC:uD→List I→Option I
 | .dS,[.ay s,.int _ i]=>if 0≤i then (s.data.toList[i.toNat]?).map fun b=>.int .u8 b.toNat else none
 | .ss false true,[.ay s,.int _ h]=>if 0≤h∧h≤s.size then some (.ay (s.extract 0 h.toNat)) else none
 | .ss true false,[.ay s,.int _ l]=>if 0≤l∧l≤s.size then some (.ay (s.extract l.toNat s.size)) else none
 | .ss true true,[.ay s,.int _ l,.int _ h]=>if 0≤l∧l≤h∧h≤s.size then some (.ay (s.extract l.toNat h.toNat)) else none
 | .ny neg,[.cR]=>some (.bool (!neg))
 | .ny neg,[.iface _ _]=>some (.bool neg)
 | .min2,[.int k a,.int k2 b]=>if k=k2 then some (.int k (if b<a then b else a)) else none
 | .mF T,[x]=>if x.bw=true∧x.cn=true then some (.iface T x) else none
 |_,_=>none
def lj:Option (List I)→Option I
 |some es=>(nc es).map fun l=>.ay ⟨l.toArray⟩
 |none=>none
def kj(A:ab)(sz:Nat):I→Option (List I)
 | .ay s=>if sz=1 then some (s.data.toList.map fun b=>.int .u8 b.toNat) else none
 |x=>cT A sz x
def lT:I→Option (List I)
 | .ay s=>some (s.data.toList.map fun b=>.int .u8 b.toNat)
 |_=>none
def aZ(A:ab):bz→Option I
 | .mv x=>some (af A x)
 | .pick c a b=>match af A c with | .bool t=>some (if t then af A a else af A b) | _=>none
 | .bin op x y=>bS op (af A x) (af A y)
 | .eqv ty neg x y=>(bV ty (af A x) (af A y)).map fun b=>.bool (if neg then !b else b)
 | .nilS neg x=>match af A x with
  | .nils _=>some (.bool (!neg))
  | .slice _ es=>if es.isEmpty then none else some (.bool neg)
  | .view _ _ _ _ _=>some (.bool neg)
  |_=>none
 | .conv k x=>match af A x with | .int _ n=>some (.int k (k.wrap n)) | _=>none
 | .un op x=>match op,af A x with
  | .not,.bool b=>some (.bool !b)
  | .neg,.int k n=>some (.int k (k.wrap (0-n)))
  | .xor,.int k n=>some (.int k (oy k n))
  |_,_=>none
 | .ld s x=>match b6 A (af A x) with | some v=>if bT s v then some v else none | none=>none
 | .fa f off x=>match af A x with
  | .ref (.agg fs)=>match fs[f]? with | some v=>if I.sizes (fs.take f)=off then some (.ref v) else none | none=>none
  | .ptr n p=>match b6 A (.ptr n p) with | some (.agg fs)=>if f<fs.length∧I.sizes (fs.take f)=off then some (.ptr n (p++[f])) else none | _=>none
  |_=>none
 | .fl f off s x=>match af A x with
  | .agg fs=>match fs[f]? with | some v=>if I.sizes (fs.take f)=off∧bT s v=true then some v else none | none=>none
  |_=>none
 | .ia n esz x i=>match af A i with
  | .int _ k=>if 0≤k∧k<n then (match af A x with
   | .ref (.agg fs)=>if gQ n esz fs then (fs[k.toNat]?).map .ref else none
   | .ptr m p=>match b6 A (.ptr m p) with | some (.agg fs)=>if gQ n esz fs then some (.ptr m (p++[k.toNat])) else none | _=>none
   |_=>none) else none
  |_=>none
 | .is esz x i=>match af A i with
  | .int _ k=>match af A x with
   | .slice sz es=>if sz=esz∧0≤k∧k<es.length then (es[k.toNat]?).map .ref else none
   | .own m l=>match A.o m with | some (.bM _ sz es)=>if l=es.length∧sz=esz∧0≤k∧k<es.length then (es[k.toNat]?).map .ref else none | _=>none
   | .view m p sz lo l=>match b6 A (.ptr m p) with | some (.agg _)=>if sz=esz∧0≤k∧k<l then some (.ptr m (p++[lo+k.toNat])) else none | _=>none
   |_=>none
  |_=>none
 | .ix n esz s x i=>match af A i with
  | .int _ k=>if 0≤k∧k<n then (match af A x with
   | .agg fs=>if gQ n esz fs then (match fs[k.toNat]? with | some v=>if bT s v then some v else none | none=>none) else none
   |_=>none) else none
  |_=>none
 | .len x=>match af A x with
  | .slice _ es=>some (.int .i64 es.length)
  | .nils _ | .c0 _=>some (.int .i64 0)
  | .own m l=>match A.o m with | some (.bM _ _ es)=>if l=es.length then some (.int .i64 es.length) else none | _=>none
  | .view _ _ _ _ k=>some (.int .i64 k)
  |_=>none
 | .cap x=>match af A x with
  | .nils _ | .c0 _=>some (.int .i64 ((0:Nat):Int))
  | .view n p _ lo _=>match b6 A (.ptr n p) with | some (.agg fs)=>some (.int .i64 ((fs.length-lo:Nat):Int)) | _=>none
  |_=>none
 | .bs0 esz=>some (.c0 esz)
 | .lenT x=>match af A x with
  | .ay s=>some (.int .i64 s.size)
  |_=>none
 | .va n esz x=>match af A x with
  | .ptr m p=>match b6 A (.ptr m p) with | some (.agg fs)=>if gQ n esz fs=true∧n≤maxLen∧n≠0 then some (.view m p esz 0 n) else none | _=>none
  | .ref (.agg fs)=>if gQ n esz fs=true∧n≤maxLen∧n≠0 then some (.slice esz fs) else none
  |_=>none
 | .sl esz x lo hi mx=>match af A x with
  | .slice sz es=>if sz=esz then hJ sz es (lo.map (af A)) (hi.map (af A)) (mx.map (af A)) else none
  | .nils sz=>if sz=esz then hJ sz [] (lo.map (af A)) (hi.map (af A)) (mx.map (af A)) else none
  | .c0 sz=>if sz=esz then hJ sz [] (lo.map (af A)) (hi.map (af A)) (mx.map (af A)) else none
  | .view n p sz l0 k=>match b6 A (.ptr n p) with | some (.agg fs)=>if sz=esz then iU n p sz l0 k fs.length (lo.map (af A)) (hi.map (af A)) (mx.map (af A)) else none | _=>none
  |_=>none
 | .bld zs parts=>(fG zs (parts.map fun p=>(p.1,af A p.2))).map .agg
 | .nilC x=>nw (af A x)
 | .max2 x y=>wm (af A x) (af A y)
 | .prim p xs=>eC p (xs.map (af A))
 | .b2s x=>lj (cT A 1 (af A x))
 | .ptrE neg x y=>mO neg (ir (af A x)) (ir (af A y))
 | .lk ty z ok m k=>qB ty z ok (af A k) (fY A (af A m))
 | .ent x=>match af A x with
  | .cU n=>match A.o n with
   |some (.it ks vs _ cur)=>sa ks vs cur
   |_=>none
  |_=>none
 | .bs _ esz parts=>match bL false A (parts.map (af A)) with
  |some es=>if (es.all fun e=>e.size==esz)∧I.b7 es then some (.slice esz es) else none
  |none=>none
 | .ext x i=>match af A x with | .tuple fs=>fs[i]? | _=>none
 | .mk f caps=>if ((caps.map (af A)).all fun y=>y.cn)=true then some (.func f (caps.map (af A))) else none
 |_=>none
mutual
theorem ae.ft{w:World}{D D':aJ}{E E':aO}(hD:∀ b o,D b o→D' b o):∀ (x:I) (cs:List Value),x.bw=true→ae w D E x cs→ae w D' E' x cs
 | .agg fs,cs,hc,hr=>by simp only[ae,I.bw] at *;exact aI.ft hD fs cs hc hr
 | .bool b,cs,_,hr=>by simpa only[ae] using hr
 | .int k n,cs,_,hr=>by simpa only[ae] using hr
 | .ay s,cs,_,hr=>by simpa only[ae] using hr
 | .nilp,cs,_,hr=>by simpa only[ae] using hr
 | .cZ,cs,_,hr=>by simpa only[ae] using hr
 | .cR,cs,_,hr | .any,cs,_,hr=>by simpa only[ae] using hr
 | .raw _,cs,_,hr=>by simpa only[ae] using hr
 | .nils _,cs,_,hr=>by simpa only[ae] using hr
 | .c0 _,cs,_,hr=>by simpa only[ae] using hr
 | .slice sz es,cs,hc,hr=>by
  simp only[ae,I.bw] at *;obtain ⟨a,cap,h1,h2,h3,h4,h5⟩:=hr;refine ⟨a,cap,h1,h2,h3,?_,h5⟩;rcases h4 with h4 | ⟨b,off,cs',h6,h7,h8⟩
  ·exact .inl h4
  ·exact .inr ⟨b,off,cs',h6,fun j v hj=>⟨(h7 j v hj).1,hD _ _ (h7 j v hj).2⟩,aI.ft hD es cs' hc h8⟩
 | .ref x,cs,hc,hr=>by
  simp only[ae,I.bw] at *;obtain ⟨b,off,cs',h1,h2,h3⟩:=hr;exact ⟨b,off,cs',h1,fun j v hj=>⟨(h2 j v hj).1,hD _ _ (h2 j v hj).2⟩,ae.ft hD x cs' hc h3⟩
 | .func f caps,cs,hc,hr=>by
  simp only[ae,I.bw] at *;obtain ⟨vs,h1,h2⟩:=hr;exact ⟨vs,h1,aB.ft hD caps vs hc h2⟩
 | .iface t v,cs,hc,hr=>by
  simp only[ae,I.bw] at *;obtain ⟨u,cs',h1,h2,h3⟩:=hr;exact ⟨u,cs',h1,h2,ae.ft hD v cs' hc h3⟩
 | .ptr n p,_,hc,_=>by simp[I.bw] at hc
 | .own n k,_,hc,_=>by simp[I.bw] at hc
 | .view n p _ _ _,_,hc,_=>by simp[I.bw] at hc
 | .mref n,_,hc,_=>by simp[I.bw] at hc
 | .cU n,_,hc,_=>by simp[I.bw] at hc
 | .cu ks vs,cs,hc,hr=>by
  simp only[ae,I.bw,zz0] at *;obtain ⟨b,es,ck,h1,h2,h3,h4⟩:=hr;exact ⟨b,es,ck,h1,⟨h2.1,hD _ _ h2.2.1,h2.2.2⟩,aB.ft hD ks _ hc.1 h3,aB.ft hD vs _ hc.2 h4⟩
 | .undef,_,hc,_=>by simp[I.bw] at hc
 | .cV,_,hc,_=>by simp[I.bw] at hc
 | .tuple _,_,hc,_=>by simp[I.bw] at hc
theorem aI.ft{w:World}{D D':aJ}{E E':aO}(hD:∀ b o,D b o→D' b o):∀ (xs:List I) (cs:List Value),I.b7 xs=true→aI w D E xs cs→aI w D' E' xs cs
 | [],cs,_,hr=>by simpa only[aI] using hr
 |x::xs,cs,hc,hr=>by
  simp only[aI,I.b7,zz0] at *;obtain ⟨c1,c2,h1,h2,h3⟩:=hr;exact ⟨c1,c2,h1,ae.ft hD x c1 hc.1 h2,aI.ft hD xs c2 hc.2 h3⟩
theorem aB.ft{w:World}{D D':aJ}{E E':aO}(hD:∀ b o,D b o→D' b o):∀ (xs:List I) (vs:List Value),I.b7 xs=true→aB w D E xs vs→aB w D' E' xs vs
 | [],vs,_,hr=>by simpa only[aB] using hr
 |x::xs,vs,hc,hr=>by
  simp only[aB,I.b7,zz0] at *;obtain ⟨v,rest,cs,h1,h2,h3,h4⟩:=hr;exact ⟨v,rest,cs,h1,h2,ae.ft hD x cs hc.1 h3,aB.ft hD xs rest hc.2 h4⟩
end
theorem tN{w:World}{D:aJ}{b:Nat}{cs:Array Value}{T:TypeId}{fz:Nat×Nat}(hb:w.heap[b]?=some (.cells cs T fz)){c1 c2 c3:List Value}(hc:cs.toList=c1++c2++c3)
  (hD:∀ o,o<c1.length+c2.length→D b o):reads w D b c1.length c2:=by
 intro j v hj;have hjl:j<c2.length:=(zz9.1 hj).1;refine ⟨?_,hD _ (by omega)⟩;have e:cs[c1.length+j]?=some v:=by
  rw[←Array.getElem?_toList,hc,zy3,List.getElem?_append_right (by omega),Nat.add_sub_cancel_left,zx8 (by omega)];exact hj
 simp[World.cell?,hb,e]
theorem tW(P:Program)(g o:Nat)(t:TypeId){s:bY} : ∀ (vs:List Value) (i:Nat) (cur:Array Value) (w:World),ea w g cur t s→o+i+vs.length≤cur.size→(∀ v∈vs,v.oneCell'=true) →
  (storeCells ⟨g,o,none⟩ vs i).run P w=.ok () (w.setRow g (cur.toList.take (o+i)++vs++cur.toList.drop (o+i+vs.length)).toArray)
 | [],i,cur,w,hg,_,_=>by
  obtain ⟨fz,hg,_⟩:=hg;simp only[storeCells,List.append_nil,zx9,Nat.add_zero,List.take_append_drop,Array.toArray_toList];rw[setRow_self w g cur t fz hg];rfl
 |v::rest,i,cur,w,hg,hl,h1=>by
  have hi:o+i<cur.size:=by simp at hl;omega
  have hg2:=hg.setRow (cs':=cur.setIfInBounds (o+i) v) (by simp);have hfro:=hg.OB hi;obtain ⟨fz,hg,_⟩:=hg;have hadd:(⟨g,o,none⟩:Addr).add i=⟨g,o+i,none⟩:=by unfold Addr.add;split <;>simp_all
  have hcell:w.cell? ⟨g,o+i,none⟩=some cur[o+i]:=by simp[World.cell?,hg,hi]
  have hst:(store ((⟨g,o,none⟩:Addr).add i) v).run P w=.ok () (w.setRow g (cur.setIfInBounds (o+i) v)):=by
   rw[hadd,run_store P w _ v _ (h1 v (by simp)),hcell];simp[hfro,setCell_eq_setRow w g (o+i) cur t fz v hg]
  have ih:=tW P g o t rest (i+1) (cur.setIfInBounds (o+i) v) (w.setRow g (cur.setIfInBounds (o+i) v)) hg2 (by simp at hl ⊢;omega) (fun x hx=>h1 x (by simp[hx]));simp only[storeCells,Sem.run_bind,hst,Result.andThen_ok,ih,setRow_setRow]
  congr 3
  have e:=list_seg_step cur.toList (o+i) v rest (by simp at hl ⊢;omega);simpa[Array.toList_setIfInBounds,Nat.add_assoc] using e
theorem tM{w:World}{D:aJ}{b:Nat}{cs:Array Value}{T:TypeId}{s:bY}(hb:ea w b cs T s){c1 c2 c3:List Value}(hc:cs.toList=c1++c2++c3)
  (hD:∀ o,o<c1.length+c2.length→D b o):reads w D b c1.length c2:=by
 obtain ⟨_,hb,_⟩:=hb;exact tN hb hc hD
section
variable {c:ct} {A:ab} {a:Act} {w:World} {D:aJ} {E:aO}
theorem aM.box(h:aM c A a w D E){n:Nat}{x:I}(hn:A.o n=some (.box x)) :
  ∃ b cs T,E n=some (.aE b x.aL)∧c.ez b∧ea w b cs T x.aL∧ae w D E x cs.toList∧∀ o,¬ D b o:=by
 have:=h.bx n;rw[hn] at this;exact this
theorem aM.bM(h:aM c A a w D E){n sz:Nat}{T:TypeId}{es:List I}(hn:A.o n=some (.bM T sz es)) :
  ∃ aH,E n=some (.rw aH es.length)∧(∀ e∈es,e.size=sz)∧match aH with
  |none=>es=[]
  |some (b,cap)=>∃ cs pre rest,c.ez b∧w.heap[b]?=some (.cells cs T (0,0))∧cs.toList=pre++rest∧aI w D E es pre ∧
    cs.size=cap*sz∧es.length≤cap∧cap≤maxLen∧∀ o,D b o→o<pre.length:=by
 have:=h.bx n;rw[hn] at this;exact this
theorem aM.xH(h:aM c A a w D E){n:Nat}{T:TypeId}{xs:List Int}(hn:A.o n=some (.dL T xs)) :
  ∃ aH,E n=some (.rw aH xs.length)∧(∀ x∈xs,IntKind.i64.min≤x∧x≤IntKind.i64.max)∧match aH with
  |none=>xs=[]
  |some (b,cap)=>∃ cs m,c.ez b∧w.heap[b]?=some (.cells cs T (0,0))∧cs.toList=(xs++List.replicate m 0).map (Value.int .i64)∧xs≠[]∧xs.length+m=cap∧cap≤maxLen∧∀ o,¬ D b o:=by
 have:=h.bx n;rw[hn] at this;exact this
theorem aM.map(h:aM c A a w D E){n:Nat}{ks vs:List I}(hn:A.o n=some (.b8 ks vs)) :
  ∃ b es clock,E n=some (.b8 b)∧c.ez b∧w.heap[b]?=some (.map es clock)∧nT es clock∧aB w D E ks (es.toList.map (·.key))∧aB w D E vs (es.toList.map (·.val))∧∀ o,¬ D b o:=by
 have:=h.bx n;rw[hn] at this;exact this
theorem aM.at(h:aM c A a w D E){n:Nat}{p:List Nat}{x:I}(hx:b6 A (.ptr n p)=some x) :
  ∃ y b cs T off c1 c2 c3,A.o n=some (.box y)∧E n=some (.aE b y.aL)∧c.ez b∧ea w b cs T y.aL∧y.at p=some x∧y.aL.off p=some off ∧
   cs.toList=c1++c2++c3∧c1.length=off∧ae w D E x c2∧ae w D E y cs.toList∧∀ o,¬ D b o:=by
 simp only[b6] at hx;split at hx
 ·rename_i y hn;obtain ⟨b,cs,T,h1,h2,h3,h4,h5⟩:=h.box hn;obtain ⟨off,c1,c2,c3,h6,h7,h8,h9⟩:=wR p y x _ h4 hx;exact ⟨y,b,cs,T,off,c1,c2,c3,hn,h1,h2,h3,hx,h6,h7,h8,h9,h4,h5⟩
 ·cases hx
theorem aM.yG(h:aM c A a w D E){x y:I}{v:Value}(hv:aQ w D E x v)(hx:b6 A x=some y) :
  ∃ b off cs,v=.pointer (some ⟨b,off,none⟩)∧(∀ j u,cs[j]?=some u→w.cell? ⟨b,off+j,none⟩=some u)∧ae w D E y cs:=by
 cases x with
 |ref z =>
  simp only[b6,v6] at hx;subst hx;obtain ⟨b,off,cs,h1,h2,h3⟩:=pg hv;exact ⟨b,off,cs,h1,fun j u hj=>(h2 j u hj).1,h3⟩
 |ptr n p =>
  obtain ⟨b,aL,off,h1,h2,h3⟩:=kS hv;obtain ⟨z,b',cs,T,off',c1,c2,c3,k1,k2,_,k3,_,k5,k6,k7,k8,_,_⟩:=h.at hx;rw[k2] at h1;simp only[v6,bD.aE.injEq] at h1;obtain ⟨rfl,rfl⟩:=h1;rw[k5,v6] at h2;subst h2;refine ⟨b',off',c2,h3,fun j u hj =>?_,k8⟩;have:=tM (D:=fun _ _=>True) k3 k6 (fun _ _=>trivial);rw[k7] at this;exact (this j u hj).1
 |_=>simp[b6] at hx
theorem tK{w:World}{D:aJ}{E:aO} : ∀ (xs ys:List I) (cs:List Value),aI w D E (xs++ys) cs→∃ c1 c2,cs=c1++c2∧aI w D E xs c1∧aI w D E ys c2
 | [],ys,cs,hr=>⟨[],cs,rfl,by simp[aI],hr⟩
 |x::xs,ys,cs,hr=>by
  simp only[zy2,aI] at hr;obtain ⟨d1,d2,rfl,k1,k2⟩:=hr;obtain ⟨e1,e2,rfl,k3,k4⟩:=tK xs ys d2 k2;exact ⟨d1++e1,e2,by simp,by simp only[aI];exact ⟨d1,e1,rfl,k1,k3⟩,k4⟩
theorem FA{fs:List I}{sz:Nat}(h:∀ s∈I.cI fs,s.size=sz):∀ f∈fs,f.size=sz:=by
 intro f hf;rw[←I.iC];exact h _ (by rw[I.cM];exact zx1.2 ⟨f,hf,rfl⟩)
theorem tL{w:World}{D:aJ}{E:aO}{fs:List I}{cs:List Value}{sz:Nat}(hr:aI w D E fs cs)(hev:∀ f∈fs,f.size=sz)(lo k:Nat)(h:lo+k≤fs.length) :
  ∃ d1 d2 d3,cs=d1++(d2++d3)∧d1.length=lo*sz∧aI w D E ((fs.drop lo).take k) d2∧aI w D E ((fs.drop lo).drop k) d3:=by
 have e1:fs=fs.take lo++((fs.drop lo).take k++(fs.drop lo).drop k):=by rw[List.take_append_drop,List.take_append_drop]
 rw[e1] at hr;obtain ⟨d1,d',rfl,q1,q2⟩:=tK _ _ _ hr;obtain ⟨d2,d3,rfl,q3,q4⟩:=tK _ _ _ q2;refine ⟨d1,d2,d3,rfl,?_,q3,q4⟩;rw[aI.length _ _ q1,I.gv _ (fun x hx=>hev x (List.mem_of_mem_take hx)),zy0]
 congr 1
 omega
structure gL (aE:Bool) (A:ab) (D:aJ) (E:aO) (D':aJ):Prop where
 cO:∀ b o,D b o→D' b o
 bM:∀ n T sz es b cap,A.o n=some (.bM T sz es)→E n=some (.rw (some (b,cap)) es.length)→∀ o,o<es.length*sz→D' b o
 box:aE=true→∀ n x b aL,A.o n=some (.box x)→E n=some (.aE b aL)→∀ o,o<x.size→D' b o
 map:aE=true→∀ n ks vs b,A.o n=some (.b8 ks vs)→E n=some (.b8 b)→D' b 0
def dq(A A':ab):Prop:=∀ n x,A.o n=some x→A'.o n=some x
theorem iK{A A':ab}(hu:dq A A'){x v:I}(h:b6 A x=some v):b6 A' x=some v:=by
 cases x <;>simp only[b6] at h ⊢ <;>try exact h
 rename_i n p;cases ho:A.o n with
 |none=>rw[ho] at h;cases h
 |some y=>rw[ho] at h;rw[hu n y ho];exact h
theorem AG{A0 A:ab}(hu:dq A0 A){n:Nat}{p:List Nat}{x z:I}(h:b6 A0 (.ptr n p)=some x)(hz:A.o n=some (.box z)):A0.o n=some (.box z):=by
 simp only[b6] at h;split at h
 ·rename_i y hy;have:=hu n _ hy;rw[hz] at this;rw[hy,←this]
 ·cases h
theorem aM.EW(h:aM c A a w D E){A0:ab}(hu:dq A0 A){D':aJ}(hw:gL true A0 D E D'){n:Nat}{p:List Nat}{x:I}{cs:List Value}(hx:b6 A0 (.ptr n p)=some x)(hr:ae w D E (.ptr n p) cs) :
  ∃ b off c2,cs=[.pointer (some ⟨b,off,none⟩)]∧reads w D' b off c2∧ae w D E x c2:=by
 obtain ⟨z,b',cs',T,off',c1,c2,c3,k1,k2,_,k3,k4,k5,k6,k7,k8,k9,_⟩:=h.at (iK hu hx);have k1:=AG hu hx k1;simp only[ae] at hr;obtain ⟨b,aL,off,h1,h2,h3⟩:=hr;rw[k2] at h1;simp only[v6,bD.aE.injEq] at h1;obtain ⟨rfl,rfl⟩:=h1;rw[k5,v6] at h2;subst h2;have hsz:=ae.length z _ k9;rw[k6] at hsz;simp only[zz1] at hsz;refine ⟨b',off',c2,h3,?_,k8⟩;rw[←k7];exact tM k3 k6 (fun o ho=>hw.box rfl n z b' _ k1 k2 o (by omega))
theorem aM.hJ(h:aM c A a w D E){A0:ab}(hu:dq A0 A){D':aJ}{E':aO}(hw:gL true A0 D E D'){n:Nat}{p:List Nat}{sz lo k:Nat}{fs:List I}{cs:List Value}(hx:b6 A0 (.ptr n p)=some (.agg fs))(hr:ae w D E (.view n p sz lo k) cs)
  (hcl:I.b7 ((fs.drop lo).take k)=true):ae w D' E' (.slice sz ((fs.drop lo).take k)) cs:=by
 obtain ⟨z,b',cs',T,off',c1,c2,c3,k1,k2,_,k3,k4,k5,k6,k7,k8,k9,_⟩:=h.at (iK hu hx);have k1:=AG hu hx k1;simp only[ae] at hr k8 ⊢;obtain ⟨b,aL,off,l,h1,h2,h3,h4,h5,h6,h7⟩:=hr;rw[k2] at h1;simp only[v6,bD.aE.injEq] at h1;obtain ⟨rfl,rfl⟩:=h1;rw[k5,v6] at h2;subst h2;rw[lW p z _ k4] at h3;simp only[I.aL,v6,bY.ej.injEq] at h3;subst h3;have hsz:=ae.length z _ k9;rw[k6] at hsz;rw[I.cM,zz2] at h4 h5 h6;have hev:=FA h7;obtain ⟨d1,d2,d3,rfl,q1,q2,q3⟩:=tL k8 hev lo k h6;simp only[zz1] at hsz;have hlen:((fs.drop lo).take k).length=k:=by rw[zy0,zx5];omega
 refine ⟨some ⟨b',off'+lo*sz,none⟩,fs.length-lo,by rw[hlen];exact h4,by rw[hlen];omega,by omega,.inr ⟨b',off'+lo*sz,d2,rfl,?_,aI.ft hw.cO _ d2 hcl q2⟩,?_⟩
 ·have:=tM (D:=D') (c1:=c1++d1) (c2:=d2) (c3:=d3++c3) k3 (by rw[k6];simp) (fun o ho=>hw.box rfl n z b' _ k1 k2 o (by rw[zz1] at ho;omega));rw[zz1,k7,q1] at this;exact this
 ·intro e he;exact hev e (List.mem_of_mem_drop (List.mem_of_mem_take he))
theorem aM.E9(h:aM c A a w D E){aE:Bool}{A0:ab}(hu:dq A0 A){D':aJ}{E':aO}(hw:gL aE A0 D E D'){n k T sz:Nat}{es:List I}{cs:List Value}(hn:A0.o n=some (.bM T sz es))(hcl:I.b7 es=true)(hk:k=es.length)(hr:ae w D E (.own n k) cs):ae w D' E' (.slice sz es) cs:=by
 subst hk;simp only[ae] at hr;obtain ⟨aH,l,h1,h2,_,h4⟩:=hr;obtain ⟨blk',k1,k2,k3⟩:=h.bM (hu n _ hn);rw[k1] at h1;simp only[v6,bD.rw.injEq] at h1;obtain ⟨rfl,rfl⟩:=h1;have h4:=h4 rfl;cases blk' with
 |none =>
  simp only at k3 h4;subst k3;simp only[ae];exact ⟨none,0,by simpa using h4,by simp,by simp[maxLen],by simp,by simp⟩
 |some bc =>
  obtain ⟨b,cap⟩:=bc;simp only at h4;obtain ⟨cs',pre,rest,k4,k5,k6,k7,k8,k9,k10,k11⟩:=k3;simp only[ae];refine ⟨some ⟨b,0,none⟩,cap,h4,k9,k10,.inr ⟨b,0,pre,rfl,?_,aI.ft hw.cO es pre hcl k7⟩,k2⟩;have hp:pre.length=es.length*sz:=by rw[aI.length _ _ k7,I.gv _ k2]
  have:=tN (D:=D') (c1:=[]) k5 (by simpa using k6) (fun o ho=>hw.bM n T sz es b cap hn k1 o (by simp at ho;omega));simpa using this
theorem CE{w:World}{D D':aJ}{E E':aO}{f:I→Option I}(hf:∀ x y cs,ae w D E x cs→f x=some y→ae w D' E' y cs):∀ (xs ys:List I) (cs:List Value),aI w D E xs cs→gq f xs=some ys→aI w D' E' ys cs
 | [],ys,cs,hr,h=>by simp only[gq,v6] at h;subst h;simpa only[aI] using hr
 |x::xs,ys,cs,hr,h=>by
  simp only[gq] at h;split at h
  ·rename_i y ys' h1 h2;simp only[v6] at h;subst h;simp only[aI] at *;obtain ⟨c1,c2,e,k1,k2⟩:=hr;exact ⟨c1,c2,e,hf x y c1 k1 h1,CE hf xs ys' c2 k2 h2⟩
  ·cases h
theorem sY{w:World}{D D':aJ}{E E':aO}{f:I→Option I}(hf:∀ x y cs,ae w D E x cs→f x=some y→ae w D' E' y cs)(hp:∀ x y,f x=some y→y.isAgg=x.isAgg):∀ (xs ys:List I) (vs:List Value),aB w D E xs vs→gq f xs=some ys→aB w D' E' ys vs
 | [],ys,cs,hr,h=>by simp only[gq,v6] at h;subst h;simpa only[aB] using hr
 |x::xs,ys,cs,hr,h=>by
  simp only[gq] at h;split at h
  ·rename_i y ys' h1 h2;simp only[v6] at h;subst h;simp only[aB] at *;obtain ⟨v,rest,c1,e,k1,k2,k3⟩:=hr;refine ⟨v,rest,c1,e,?_,hf x y c1 k2 h1,sY hf hp xs ys' rest k3 h2⟩;unfold bd at *;rw[hp x y h1];exact k1
  ·cases h
theorem vv{A0:ab} : ∀ {k:Nat} {x y:I},fI A0 k x=some y→y.isAgg=x.isAgg
 |0,_,_,h=>by simp[fI] at h
 |k+1,x,y,h=>by
  simp only[fI] at h;split at h
  ·simp only[v6] at h;rw[h]
  ·cases x <;>simp only[] at h <;>first
    |(cases h;done)
    |(split at h <;>first | (simp only[t8] at h;obtain ⟨z,_,rfl⟩:=h;rfl) | (simp only[v6] at h;subst h;rfl);done)
    |(simp only[t8] at h;obtain ⟨z,_,rfl⟩:=h;rfl)
    |((repeat' split at h) <;>first | (cases h;done) | (simp only[v6] at h;subst h;rfl) | (simp only[t8] at h;obtain ⟨z,_,rfl⟩:=h;rfl))
theorem vx(h:aM c A a w D E){A0:ab}(hu:dq A0 A){D':aJ}{E':aO}(hw:gL true A0 D E D'):∀ (k:Nat) (x y:I) (cs:List Value),ae w D E x cs→fI A0 k x=some y→ae w D' E' y cs
 |0,_,_,_,_,hf=>by simp[fI] at hf
 |k+1,x,y,cs,hr,hf=>by
  have ih:=vx h hu (E':=E') hw k;simp only[fI] at hf;split at hf
  ·rename_i hcl;simp only[v6] at hf;subst hf;exact ae.ft hw.cO x cs hcl hr
  ·rename_i hcl;cases x <;>simp only[] at hf <;>try (cases hf;done)
   case agg fs =>
    simp only[t8] at hf;obtain ⟨ys,hy,rfl⟩:=hf;simp only[ae] at *;exact CE ih fs ys cs hr hy
   case func f caps =>
    split at hf
    case isFalse =>
     simp only[v6] at hf;subst hf;simp only[ae] at *;obtain ⟨vs,h1,h2⟩:=hr;exact ⟨_,h1,Bg f vs⟩
    simp only[t8] at hf;obtain ⟨ys,hy,rfl⟩:=hf;simp only[ae] at *;obtain ⟨vs,h1,h2⟩:=hr;exact ⟨vs,h1,sY ih (fun x y hxy=>vv hxy) caps ys vs h2 hy⟩
   case ptr n p =>
    split at hf
    case h_2=>cases hf
    rename_i z hz;simp only[t8] at hf;obtain ⟨y',hy,rfl⟩:=hf;obtain ⟨b,off,c2,k1,k2,k3⟩:=h.EW hu hw hz hr;simp only[ae];exact ⟨b,off,c2,k1,k2,ih z y' c2 k3 hy⟩
   case view n p sz lo l =>
    split at hf
    case h_2=>cases hf
    rename_i fs hx;split at hf
    case isFalse=>cases hf
    rename_i hc;simp only[v6] at hf;subst hf;exact h.hJ hu hw hx hr hc
   case mref n =>
    split at hf
    case h_2=>cases hf
    rename_i ks vs hn;split at hf
    case isFalse=>cases hf
    rename_i hc;simp only[t8] at hf;obtain ⟨ys,hy,rfl⟩:=hf;simp only[ae] at hr ⊢;obtain ⟨b,h1,h2⟩:=hr;obtain ⟨b',es,ck,k1,k2,k3,k4,k5,k6,k7⟩:=h.map (hu n _ hn);rw[k1] at h1;cases h1;exact ⟨b,es,ck,h2,⟨k3,hw.map rfl n ks vs b hn k1,k4⟩,aB.ft hw.cO ks _ hc k5,sY ih (fun x y hxy=>vv hxy) vs ys _ k6 hy⟩
   case own n l =>
    split at hf
    case h_2=>cases hf
    rename_i T sz es hn;split at hf
    case isFalse=>cases hf
    rename_i hk;simp only[v6] at hf;subst hf;exact h.E9 hu hw hn hk.2 hk.1 hr
mutual
theorem A8(h:aM c A a w D E){aE:Bool}{A0:ab}(hu:dq A0 A){D':aJ}{E':aO}(hw:gL aE A0 D E D'):∀ (x y:I) (cs:List Value),ae w D E x cs→bf aE A0 x=some y→ae w D' E' y cs
 | .ptr n p,y,cs,hr,hf=>by
  simp only[bf] at hf;split at hf
  case isFalse=>cases hf
  rename_i hbx;subst hbx;split at hf
  case h_2=>cases hf
  rename_i x hx;obtain ⟨b,off,c2,k1,k2,k3⟩:=h.EW hu hw hx hr;split at hf
  ·rename_i hcl;simp only[v6] at hf;subst hf;simp only[ae];exact ⟨b,off,c2,k1,k2,ae.ft hw.cO x c2 hcl k3⟩
  ·simp only[t8] at hf;obtain ⟨y',hy,rfl⟩:=hf;simp only[ae];exact ⟨b,off,c2,k1,k2,vx h hu hw 9 x y' c2 k3 hy⟩
 | .mref n,y,cs,hr,hf=>by
  simp only[bf] at hf;split at hf
  case isFalse=>cases hf
  rename_i hbx;subst hbx;split at hf
  case h_2=>cases hf
  rename_i ks vs hn;split at hf
  case isFalse=>cases hf
  rename_i hc;simp only[t8] at hf;obtain ⟨ys,hy,rfl⟩:=hf;simp only[ae] at hr ⊢;obtain ⟨b,h1,h2⟩:=hr;obtain ⟨b',es,ck,k1,k2,k3,k4,k5,k6,k7⟩:=h.map (hu n _ hn);rw[k1] at h1;cases h1;exact ⟨b,es,ck,h2,⟨k3,hw.map rfl n ks vs b hn k1,k4⟩,aB.ft hw.cO ks _ hc k5,sY (vx h hu hw 9) (fun x y hxy=>vv hxy) vs ys _ k6 hy⟩
 | .cU _,_,_,_,hf=>by simp[bf] at hf
 | .cu ks vs,y,cs,hr,hf=>by
  simp only[bf] at hf;split at hf
  ·rename_i hc;simp only[v6] at hf;subst hf;exact ae.ft hw.cO _ cs (by simpa[I.bw] using hc) hr
  ·cases hf
 | .own n k,y,cs,hr,hf=>by
  simp only[bf] at hf;split at hf
  case h_2=>cases hf
  rename_i T sz es hn;split at hf
  case isFalse=>cases hf
  rename_i hk;simp only[v6] at hf;subst hf;exact h.E9 hu hw hn hk.2 hk.1 hr
 | .view n p sz lo k,y,cs,hr,hf=>by
  simp only[bf] at hf;split at hf
  case isFalse=>cases hf
  rename_i hbx;subst hbx;split at hf
  case h_2=>cases hf
  rename_i fs hx;split at hf
  case isFalse=>cases hf
  rename_i hcl;simp only[v6] at hf;subst hf;exact h.hJ hu hw hx hr hcl
 | .nils sz,y,cs,hr,hf=>by
  simp only[bf,v6] at hf;subst hf;simp only[ae] at *;exact ⟨none,0,by simpa using hr,by simp,by simp[maxLen],by simp,by simp⟩
 | .c0 sz,y,cs,hr,hf=>by
  simp only[bf,v6] at hf;subst hf;simp only[ae] at *;obtain ⟨ad,hr⟩:=hr;exact ⟨ad,0,by simpa using hr,by simp,by simp[maxLen],by simp,by simp⟩
 | .func f caps,y,cs,hr,hf=>by
  simp only[bf] at hf;split at hf
  case isFalse =>
   simp only[v6] at hf;subst hf;simp only[ae] at *;obtain ⟨vs,h1,h2⟩:=hr;exact ⟨_,h1,Bg f vs⟩
  simp only[t8] at hf;obtain ⟨ys,hy,rfl⟩:=hf;simp only[ae] at *;obtain ⟨vs,h1,h2⟩:=hr;exact ⟨vs,h1,lA h hu hw caps ys vs h2 hy⟩
 | .agg fs,y,cs,hr,hf=>by
  simp only[bf,t8] at hf;obtain ⟨ys,hy,rfl⟩:=hf;simp only[ae] at *;exact A9 h hu hw fs ys cs hr hy
 | .tuple _,_,_,_,hf=>by simp[bf] at hf
 | .undef,_,_,_,hf=>by simp[bf] at hf
 | .cV,_,_,_,hf=>by simp[bf] at hf
 | .bool b,y,cs,hr,hf=>by simp only[bf,v6] at hf;subst hf;simpa only[ae] using hr
 | .int k n,y,cs,hr,hf=>by simp only[bf,v6] at hf;subst hf;simpa only[ae] using hr
 | .ay s,y,cs,hr,hf=>by simp only[bf,v6] at hf;subst hf;simpa only[ae] using hr
 | .nilp,y,cs,hr,hf=>by simp only[bf,v6] at hf;subst hf;simpa only[ae] using hr
 | .cZ,y,cs,hr,hf=>by simp only[bf,v6] at hf;subst hf;simpa only[ae] using hr
 | .cR,y,cs,hr,hf | .any,y,cs,hr,hf=>by simp only[bf,v6] at hf;subst hf;simpa only[ae] using hr
 | .raw _,y,cs,hr,hf=>by simp only[bf,v6] at hf;subst hf;simpa only[ae] using hr
 | .slice sz es,y,cs,hr,hf=>by
  simp only[bf] at hf;split at hf
  ·rename_i hc;simp only[v6] at hf;subst hf;exact ae.ft hw.cO _ cs (by simpa[I.bw] using hc) hr
  ·cases hf
 | .ref x,y,cs,hr,hf=>by
  simp only[bf] at hf;split at hf
  ·rename_i hc;simp only[v6] at hf;subst hf;exact ae.ft hw.cO _ cs (by simpa[I.bw] using hc) hr
  ·cases hf
 | .iface t v,y,cs,hr,hf=>by
  simp only[bf] at hf;split at hf
  ·rename_i hc;simp only[v6] at hf;subst hf;exact ae.ft hw.cO _ cs (by simpa[I.bw] using hc) hr
  ·cases hf
theorem A9(h:aM c A a w D E){aE:Bool}{A0:ab}(hu:dq A0 A){D':aJ}{E':aO}(hw:gL aE A0 D E D'):∀ (xs ys:List I) (cs:List Value),aI w D E xs cs→bL aE A0 xs=some ys→aI w D' E' ys cs
 | [],ys,cs,hr,hf=>by simp only[bL,v6] at hf;subst hf;simpa only[aI] using hr
 |x::xs,ys,cs,hr,hf=>by
  simp only[bL] at hf;split at hf
  ·rename_i y ys' h1 h2;simp only[v6] at hf;subst hf;simp only[aI] at *;obtain ⟨c1,c2,e,k1,k2⟩:=hr;exact ⟨c1,c2,e,A8 h hu hw x y c1 k1 h1,A9 h hu hw xs ys' c2 k2 h2⟩
  ·cases hf
theorem lA(h:aM c A a w D E){aE:Bool}{A0:ab}(hu:dq A0 A){D':aJ}{E':aO}(hw:gL aE A0 D E D'):∀ (xs ys:List I) (vs:List Value),aB w D E xs vs→bL aE A0 xs=some ys→aB w D' E' ys vs
 | [],ys,cs,hr,hf=>by simp only[bL,v6] at hf;subst hf;simpa only[aB] using hr
 |x::xs,ys,cs,hr,hf=>by
  simp only[bL] at hf;split at hf
  ·rename_i y ys' h1 h2;simp only[v6] at hf;subst hf;simp only[aB] at *;obtain ⟨v,rest,c1,e,k1,k2,k3⟩:=hr;refine ⟨v,rest,c1,e,?_,A8 h hu hw x y c1 k2 h1,lA h hu hw xs ys' rest k3 h2⟩;have:y.isAgg=x.isAgg:=by
    cases x <;>simp only[bf] at h1 <;>first
     |(simp at h1;done)
     |(simp only[v6] at h1;subst h1;rfl)
     |(simp only[t8] at h1;obtain ⟨z,_,rfl⟩:=h1;rfl)
     |((repeat' split at h1) <;>first | (simp at h1;done) | (simp only[v6] at h1;subst h1;rfl) | (simp only[t8] at h1;obtain ⟨z,_,rfl⟩:=h1;rfl))
   unfold bd at *;rw[this];exact k1
  ·cases hf
end
end
def fu(P:Program)(t:TypeId):Option (Option Nat):=match P.underlying t with
 |some (.struct _) | some (.array _ _)=>some (some (P.cellsOf t))
 |some _=>some none
 |none=>none
def xL(P:Program):Nat→TypeId→Option I
 |0,_=>none
 |d+1,t=>match P.underlying t with
  |some .bool=>some (.bool false)
  |some (.int k)=>some (.int k 0)
  |some .string=>some (.ay ByteArray.empty)
  |some (.pointer _)=>some .nilp
  |some (.slice e)=>some (.nils (P.cellsOf e))
  |some (.func _ _ _)=>some .cZ
  |some (.interface _)=>some .cR
  |some (.map _ _)=>some (.raw (.map none))
  |some (.struct fs)=>(fs.toList.mapM fun f=>xL P d f.type).map .agg
  |some (.array n e)=>(xL P d e).map fun z=>.agg (List.replicate n z)
  |_=>none
def ky:I→Value→Bool
 | .bool b,.bool b'=>b==b'
 | .int k n,.int k' n'=>k==k'&&n==n'&&decide (k.min≤n∧n≤k.max)
 | .ay s,.string t=>s.size==0&&t.size==0
 | .nilp,.pointer none=>true
 | .nils _,.slice none 0 0=>true
 | .cZ,.nilFunc=>true
 | .cR,.nilIface=>true
 | .raw (.map none),.map none=>true
 |_,_=>false
mutual
def mb:I→List Value→Option (List Value)
 | .agg fs,cs=>rC fs cs
 | .bool b,v::cs=>if ky (.bool b) v then some cs else none
 | .int k n,v::cs=>if ky (.int k n) v then some cs else none
 | .ay s,v::cs=>if ky (.ay s) v then some cs else none
 | .nilp,v::cs=>if ky .nilp v then some cs else none
 | .nils z,v::cs=>if ky (.nils z) v then some cs else none
 | .cZ,v::cs=>if ky .cZ v then some cs else none
 | .cR,v::cs=>if ky .cR v then some cs else none
 | .raw u,v::cs=>if ky (.raw u) v then some cs else none
 |_,_=>none
def rC:List I→List Value→Option (List Value)
 | [],cs=>some cs
 |x::xs,cs=>match mb x cs with
  |some r=>rC xs r
  |none=>none
end
theorem ByteArray.NW{s t:ByteArray}(hs:s.size=0)(ht:t.size=0):s=t:=by
 cases s with | mk a=>cases t with | mk b =>
 have ha:a = #[]:=Array.eq_empty_of_size_eq_zero hs;have hb:b = #[]:=Array.eq_empty_of_size_eq_zero ht;rw[ha,hb]
theorem Lb{x:I}{v:Value}(h:ky x v=true)(w:World)(D:aJ)(E:aO):ae w D E x [v]:=by
 unfold ky at h;split at h
 case h_9=>cases h
 case h_1=>simp only[beq_iff_eq] at h;subst h;simp[ae]
 case h_2 =>
  simp only[zz0,beq_iff_eq,decide_eq_true_eq] at h;obtain ⟨⟨rfl,rfl⟩,h⟩:=h;simp only[ae,true_and];exact h
 case h_3 =>
  simp only[zz0,beq_iff_eq] at h;have e:=ByteArray.NW h.1 h.2;subst e;simp only[ae,true_and];rw[h.1];exact zw7 _
 all_goals simp[ae,Value.oneCell']
mutual
theorem Gc:∀ (x:I) (cs r:List Value),mb x cs=some r→∃ c1,cs=c1++r∧∀ w D E,ae w D E x c1
 | .agg fs,cs,r,h=>by
  simp only[mb] at h;obtain ⟨c1,h1,h2⟩:=Gd fs cs r h;exact ⟨c1,h1,fun w D E=>by simp only[ae];exact h2 w D E⟩
 | .bool b,v::cs,r,h | .int k n,v::cs,r,h | .ay s,v::cs,r,h | .nilp,v::cs,r,h | .nils z,v::cs,r,h | .cZ,v::cs,r,h | .cR,v::cs,r,h | .raw u,v::cs,r,h=>by
  simp only[mb] at h;split at h
  ·rename_i hh;simp only[v6] at h;subst h;exact ⟨[v],rfl,fun w D E=>Lb hh w D E⟩
  ·cases h
 | .bool b,[],r,h | .int k n,[],r,h | .ay s,[],r,h | .nilp,[],r,h | .nils z,[],r,h | .cZ,[],r,h | .cR,[],r,h | .raw _,[],r,h=>by simp[mb] at h
 | .any,_,_,h | .undef,_,_,h | .cV,_,_,h | .c0 _,_,_,h | .slice _ _,_,_,h | .tuple _,_,_,h | .ref _,_,_,h | .func _ _,_,_,h | .iface _ _,_,_,h | .ptr _ _,_,_,h | .own _ _,_,_,h | .view _ _ _ _ _,_,_,h | .mref _,_,_,h | .cU _,_,_,h | .cu _ _,_,_,h=>by simp[mb] at h
theorem Gd:∀ (xs:List I) (cs r:List Value),rC xs cs=some r→∃ c1,cs=c1++r∧∀ w D E,aI w D E xs c1
 | [],cs,r,h=>by
  simp only[rC,v6] at h;exact ⟨[],by simp[h],fun w D E=>by simp[aI]⟩
 |x::xs,cs,r,h=>by
  simp only[rC] at h;split at h
  ·rename_i r' hx;obtain ⟨c1,h1,h2⟩:=Gc x cs r' hx;obtain ⟨c2,h3,h4⟩:=Gd xs r' r h;exact ⟨c1++c2,by rw[h1,h3,zy3],fun w D E=>by simp only[aI];exact ⟨c1,c2,rfl,h2 w D E,h4 w D E⟩⟩
  ·cases h
end
def fx(P:Program)(t:TypeId):Option I :=
 match (P.info? t).bind (·.zero),xL P 12 t with
 |some z,some x=>match mb x z.cells.toList with
  |some []=>some x
  |_=>none
 |_,_=>none
theorem km{P:Program}{t:TypeId}{x:I}(h:fx P t=some x):∃ i z,P.info? t=some i∧i.zero=some z∧∀ w D E,ae w D E x z.cells.toList:=by
 unfold fx at h;split at h
 ·rename_i z x' hz hx;split at h
  ·rename_i hk;simp only[v6] at h;subst h;obtain ⟨i,hi,hz'⟩:=zw4.1 hz;obtain ⟨c1,h1,h2⟩:=Gc _ _ _ hk;rw[List.append_nil] at h1;exact ⟨i,z,hi,hz',fun w D E=>by rw[h1];exact h2 w D E⟩
  ·cases h
 ·cases h
def kP:Nat→List I→List (Nat×Nat)
 |_,[]=>[]
 |k,x::xs=>(k,x.size)::kP (k+x.size) xs
theorem Dj:∀ (xs:List I) (k i:Nat),(kP k xs)[i]?=(xs[i]?).map fun x=>(k+I.sizes (xs.take i),x.size)
 | [],k,i=>by simp[kP]
 |x::xs,k,0=>by simp[kP,I.sizes]
 |x::xs,k,i+1=>by
  simp only[kP,List.getElem?_cons_succ,Dj xs,List.take_succ_cons,I.sizes];cases xs[i]? <;>simp;omega
def dH (P : Program) (f : FuncId) : Bool := Nat.blt f 1000000 && (P.funcs[f]?).any fun fn => fn.name != "runtime.NumGoroutine" && fn.body.isSome
def kv(P:Program)(ps:List (Nat×Operand)):Option (List (Nat×aF)):=ps.mapM fun p=>(aX P 0 p.2).map fun x=>(p.1,x)
def ig(P:Program):Option Operand→Option (Option aF)
 |none=>some none
 |some x=>(aX P 0 x).map some
def jX(P:Program):List Operand→List TypeId→Option (List aF)
 | [],_=>some []
 |x::xs,ts=>match aX P (ts.headD 0) x,jX P xs ts.tail with
  |some y,some ys=>some (y::ys)
  |_,_=>none
def oZ(P:Program):Nat→List Field→Bool
 |_,[]=>true
 |k,f::fs=>f.offset==k&&oZ P (k+P.cellsOf f.type) fs
def fW(P:Program):Nat→TypeId→Option cm
 |0,_=>none
 |d+1,t=>match P.underlying t with
  |some (.int k)=>some (.i k)
  |some .bool=>some .b
  |some .string=>some .s
  | some (.struct fs) => if P.stoodInHeld t = false ∧ (fs.toList.all fun f => f.name != "_") = true ∧ oZ P 0 fs.toList = true then
    (fs.toList.mapM fun (f:Field)=>match fW P d f.type with
     |some ty=>if ty.size=P.cellsOf f.type then some ty else none
     |none=>none).map .aS else none
  |some (.array n e)=>match fW P d e with
   |some ty=>if ty.size=P.cellsOf e∧(P.info? e).isSome=true then some (.mj n ty) else none
   |none=>none
  |_=>none
def qt:Option TypeDesc→Bool
 |some (.int _)=>true
 |_=>false
def vS:cm→Bool
 | .i _=>true
 |_=>false
def jF(P:Program)(t:TypeId):Option cm:=match P.underlying t with
 |some (.int k)=>some (.i k)
 |some (.struct fs)=>match fW P 12 t with
  |some (.aS l)=>if l.all vS=true∧(fs.all fun f=>qt (P.underlying f.type))=true then some (.aS l) else none
  |_=>none
 |_=>none
def uk(P:Program)(t:TypeId)(z:I):Bool:=match (P.info? t).bind (·.zero) with
 |some (.agg _)=>z.isAgg
 |some _ => !z.isAgg
 |none=>false
def uo:Operand→Operand→Option Nat
 | .const (.int _ l),.const (.int _ c)=>if l=0∧0≤c∧c≤1000000 then some c.toNat else none
 |_,_=>none
theorem acB{x y:Operand}{m:Nat}(h:uo x y=some m):m≤1000000∧∃ k k',x=.const (.int k 0)∧y=.const (.int k' (m:Int)):=by
 unfold uo at h;split at h
 ·rename_i k l k' c;split at h
  ·rename_i hc;simp only[v6] at h;subst h;refine ⟨by omega,k,k',by rw[hc.1],?_⟩;rw[show ((c.toNat:Nat):Int)=c by omega]
  ·cases h
 ·cases h
def xf:Operand→Operand→Bool
 | .tmp a,.tmp b=>a==b
 |_,_=>false
theorem abL{x y:Operand}(h:xf x y=true):y=x:=by
 unfold xf at h;split at h
 ·simp only[beq_iff_eq] at h;rw[h]
 ·cases h
def YG:Option TypeDesc→Bool
 |some .string=>true
 |_=>false
def As:Option TypeDesc→Bool
 |some (.interface _)=>false
 |some _=>true
 |none=>false
def cF(P:Program)(o:Oper):Option bz :=
 match o.op with
 | .move x | .assign x=>(aX P o.type x).map .mv
 | .pick c a b=>match aX P 0 c,aX P o.type a,aX P o.type b with
  |some c,some a,some b=>some (.pick c a b)
  |_,_,_=>none
 | .binOp op t x y _=>match P.underlying t,aX P 0 x,aX P 0 y with
  |some (.int _),some x,some y | some .string,some x,some y=>some (.bin op x y)
  |some (.slice _),some x,some y=>match y with
   | .c (.nils _)=>if op=.eql∨op=.neq then some (.nilS (op==.neq) x) else none
   |_=>none
  |some (.pointer _),some x,some y=>if op=.eql∨op=.neq then some (.ptrE (op==.neq) x y) else none
  |some (.interface _),some x,some y=>match y with
   | .c .cR=>if op=.eql∨op=.neq then some (.prim (.ny (op==.neq)) [x]) else none
   |_=>none
  |some _,some x,some y=>if (op=.eql∨op=.neq)∧P.eqGuardType P.depth t=false then (fW P 12 t).map fun ty=>.eqv ty (op==.neq) x y else none
  |_,_,_=>none
 | .unOp op _ x=>(aX P 0 x).map (.un op)
 | .nilCheck x=>(aX P 0 x).map .nilC
 | .makeMap _ none=>some .jK
 | .lookup t m k ok=>match P.underlying t,aX P 0 m,aX P 0 k with
  |some (.map kt et),some m,some k=>match jF P kt,fx P et with
   |some ty,some z=>if uk P et z=true then some (.lk ty z ok m k) else none
   |_,_=>none
  |_,_,_=>none
 | .mapUpdate t m k v | .insert t m k v=>match P.underlying t,aX P 0 m,aX P 0 k with
  |some (.map kt et),some m,some k=>match jF P kt,aX P et v with
   |some ty,some v=>some (.jm ty m k v)
   |_,_=>none
  |_,_,_=>none
 | .makeSlice t l l'=>match P.underlying t,aX P 0 l with
  |some (.slice e),some n=>match fx P e with
   |some z=>if xf l l'=true∧z.size=1∧P.cellsOf e=1 then some (.jl e (P.bytesOf e) z n) else
    match uo l l' with
    |some m=>if m*P.bytesOf e≤281474976710656 then some (.lI e (P.cellsOf e)) else none
    |none=>none
   |none=>none
  |_,_=>none
 | .range t x=>match P.underlying t with
  |some (.map _ _)=>(aX P 0 x).map .kh
  |_=>none
 | .next x false=>(aX P 0 x).map .j8
 | .entry x=>(aX P 0 x).map .ent
 | .convert l8 dst x=>match P.underlying l8,P.underlying dst,aX P 0 x with
  |some (.int _),some (.int k),some x=>some (.conv k x)
  |some (.slice e),some .string,some x=>match P.underlying e with
   |some (.int .u8)=>some (.b2s x)
   |_=>none
  |some .string,some (.slice e),some x=>match P.underlying e with
   |some (.int .u8)=>some (.eT x)
   |_=>none
  |_,_,_=>none
 | .load t x=>match fu P t,aX P 0 x with
  |some s,some x=>some (.ld s x)
  |_,_=>none
 | .fieldAddr t x f=>match P.underlying t,aX P 0 x with
  |some (.struct fs),some x=>match fs[f]? with
   |some fd=>if P.cellsOf fd.type=0 then none else some (.fa f fd.offset x)
   |none=>none
  |_,_=>none
 | .field t x f=>match P.underlying t,aX P 0 x with
  |some (.struct fs),some x=>match fs[f]? with
   |some fd=>(fu P fd.type).map fun s=>.fl f fd.offset s x
   |none=>none
  |_,_=>none
 | .indexAddr t x i=>match P.underlying t,aX P 0 x,aX P 0 i with
  |some (.array n e),some x,some i=>if (P.info? e).isSome then some (.ia n (P.cellsOf e) x i) else none
  |some (.slice e),some x,some i=>if (P.info? e).isSome then some (.is (P.cellsOf e) x i) else none
  |_,_,_=>none
 | .index t x i=>match P.underlying t,aX P 0 x,aX P 0 i with
  |some (.array n e),some x,some i=>(fu P e).map fun s=>.ix n (P.cellsOf e) s x i
  |some .string,some x,some i=>some (.prim .dS [x,i])
  |_,_,_=>none
 | .slice t x lo hi mx=>match P.underlying t,aX P 0 x with
  |some (.array n e),some x=>match lo,hi,mx with
   |none,none,none=>if (P.info? e).isSome then some (.va n (P.cellsOf e) x) else none
   |_,_,_=>none
  |some (.slice e),some x=>match ig P lo,ig P hi,ig P mx with
   |some lo,some hi,some mx=>if (mx.isSome=true→hi.isSome=true)∧(P.info? e).isSome=true then some (.sl (P.cellsOf e) x lo hi mx) else none
   |_,_,_=>none
  |some .string,some x=>match lo,hi,mx with
   |none,some hi,none=>(aX P 0 hi).map fun hi=>.prim (.ss false true) [x,hi]
   |some lo,none,none=>(aX P 0 lo).map fun lo=>.prim (.ss true false) [x,lo]
   |some lo,some hi,none=>match aX P 0 lo,aX P 0 hi with
    |some lo,some hi=>some (.prim (.ss true true) [x,lo,hi])
    |_,_=>none
   |_,_,_=>none
  |_,_=>none
 | .build t parts=>match fx P t,kv P parts.toList with
  |some (.agg zs),some ps=>match P.underlying t with
   |some (.struct fs)=>if (fs.toList.map fun f=>(f.offset,P.cellsOf f.type))=kP 0 zs∧(fs.all fun f=>(P.info? f.type).isSome)=true then some (.bld zs ps) else none
   |some (.array n e)=>if zs.length=n∧(zs.all fun z=>z.size==P.cellsOf e)=true∧(P.info? e).isSome=true then some (.bld zs ps) else none
   |_=>none
  |_,_=>none
 | .buildSlice t len parts=>match P.underlying t with
  |some (.slice e)=>match kv P parts.toList with
   |some ps=>if len=0∧parts = #[]∧(P.info? e).isSome=true then some (.bs0 (P.cellsOf e)) else if ps.map (·.1)=List.range len∧0<P.cellsOf e∧0<len∧len*P.cellsOf e≤16777216∧((P.info? e).bind (·.zero)).isSome=true then some (.bs e (P.cellsOf e) (ps.map (·.2))) else none
   |none=>none
  |_=>none
 | .extract x i=>(aX P 0 x).map fun x=>.ext x i
 | .makeFunc (.func f) first caps=>if f<1000000 then (if first.isEmpty then (jX P caps.toList []).map (.mk f) else if caps.isEmpty then (jX P first.toList []).map (.mk (f+1000000)) else none) else none
 | .alloc t=>(fx P t).map .alloc
 | .box t x=>(aX P t x).map .box
 | .store t x v=>match fu P t,aX P 0 x,aX P t v with
  |some s,some x,some v=>if s.isSome=true∨P.cellsOf t=1 then some (.aS s x v) else none
  |_,_,_=>none
 | .call { callee:=.value (.func f),args,argTypes } =>if dH P f then (jX P args.toList argTypes.toList).map (.call f) else (jX P args.toList argTypes.toList).map (.gK f)
 | .call { callee:=.value x,args,argTypes } =>match aX P 0 x,jX P args.toList argTypes.toList with
  |some x,some args=>some (.eV x args)
  |_,_=>none
 | .call { callee:=.builtin .len,args,argTypes } =>match args.toList,argTypes.toList with
  | [x],[t]=>match P.underlying t with
   |some (.slice _)=>(aX P t x).map .len
   |some .string=>(aX P t x).map .lenT
   |_=>none
  |_,_=>none
 | .call { callee:=.builtin .append,args,argTypes } =>match args.toList,argTypes.toList with
  | [s,x],[t,t']=>match P.underlying t,aX P t s,aX P t' x with
   |some (.slice e),some s,some x=>if t=t'∧0<P.cellsOf e∧(fx P e).map I.size=some (P.cellsOf e) then (fx P e).map fun z=>.du e (P.cellsOf e) (P.bytesOf e) z s x else
    if qt (P.underlying t')=true∧0<P.cellsOf e∧(fx P e).map I.size=some (P.cellsOf e) then (fx P e).map fun z=>.jU e (P.cellsOf e) (P.bytesOf e) z s x else none
   |_,_,_=>none
  |_,_=>none
 | .call { callee:=.builtin .cap,args,argTypes } =>match args.toList,argTypes.toList with
  | [x],[t]=>match P.underlying t with
   |some (.slice _)=>(aX P t x).map .cap
   |_=>none
  |_,_=>none
 | .call { callee:=.builtin .clear,args,argTypes } =>match args.toList,argTypes.toList with
  | [x],[t]=>match P.underlying t,aX P t x with
   |some (.slice e),some x=>(fx P e).map fun z=>.jc (P.cellsOf e) z x
   |_,_=>none
  |_,_=>none
 | .call { callee:=.builtin .copy,args,argTypes } =>match args.toList,argTypes.toList with
  | [x,y],[t,t']=>match P.underlying t,aX P t x,aX P t' y with
   |some (.slice e),some x,some y=>if (t=t'∨YG (P.underlying t')=true)∧(P.info? e).isSome=true then some (.gl (P.cellsOf e) x y) else none
   |_,_,_=>none
  |_,_=>none
 | .call { callee:=.builtin .delete,args,argTypes } =>match args.toList,argTypes.toList with
  | [m,k],[t,_]=>match P.underlying t,aX P 0 m,aX P 0 k with
   |some (.map kt _),some m,some k=>(jF P kt).map fun ty=>.lH ty m k
   |_,_,_=>none
  |_,_=>none
 | .call { callee:=.builtin .max,args,.. } =>match args.toList with
  | [x,y]=>match aX P 0 x,aX P 0 y with
   |some x,some y=>some (.max2 x y)
   |_,_=>none
  |_=>none
 | .call { callee:=.builtin .min,args,.. } =>match args.toList with
  | [x,y]=>match aX P 0 x,aX P 0 y with
   |some x,some y=>some (.prim .min2 [x,y])
   |_,_=>none
  |_=>none
 | .makeInterface t x=>if As (P.underlying t)=true then (aX P t x).map fun x=>.prim (.mF t) [x] else none
 | .panic x=>(aX P 0 x).map fun x=>.prim .kO [x]
 |_=>none
def cN(c:ct)(A:ab)(o:Oper)(x:I):Prop :=
 ∀ a w D E,aM c A a w D E→∃ v w' D',(execOp a.eval o).run c.P w=.ok (.value v) w'∧aM c A a w' D' E∧aQ w' D' E x v
section
variable {c:ct} {A:ab} {o:Oper} {x:I}
theorem cN.same(h:∀ a w D E,aM c A a w D E→∃ v,(execOp a.eval o).run c.P w=.ok (.value v) w∧aQ w D E x v):cN c A o x :=
 fun a w D E hs=>let ⟨v,h1,h2⟩:=h a w D E hs;⟨v,w,D,h1,hs,h2⟩
theorem BQ{y:Operand}{z:aF}(ho:o.op=.move y∨o.op=.assign y)(hz:aX c.P o.type y=some z):cN c A o (af A z) :=
 .same fun a w D E hs=>⟨a.eval y,by rcases ho with ho | ho <;>simp[execOp,ho],br hs hz⟩
theorem Yk{q y z:Operand}{q' y' z':aF}{t:Bool}(ho:o.op=.pick q y z)(hq:aX c.P 0 q=some q')(hy:aX c.P o.type y=some y')(hz:aX c.P o.type z=some z')
  (ht:af A q'=.bool t):cN c A o (if t then af A y' else af A z') :=
 .same fun a w D E hs=>by
  have h1:=br hs hq;rw[ht] at h1;have h2:=kR h1;refine ⟨if t then a.eval y else a.eval z,by cases t <;>simp[execOp,ho,h2,asBool],?_⟩;cases t
  ·exact br hs hz
  ·exact br hs hy
theorem w0{P:Program}{w:World}(op:BinOp)(t:TypeId)(x y:Operand){u v:Value}(hu:u.oneCell'=true)(hn:u≠.nilIface):(eqGuard op t x y u v).run P w=.ok () w:=by
 cases op <;>cases u <;>simp[Value.oneCell'] at hu <;>first | (exact absurd rfl hn) | (cases v <;>simp[eqGuard])
theorem Hg{op:BinOp}{x y z:I}(h:bS op x y=some z){P:Program}{t:TypeId}{w:World}{D:aJ}{E:aO}{u v:Value}(hx:aQ w D E x u)(hy:aQ w D E y v)(xo yo:Operand) :
  ∃ r,(do eqGuard op t xo yo u v;binOp op t u v:Sem Value).run P w=.ok r w∧aQ w D E z r:=by
 unfold bS at h;split at h
 ·rename_i k a k' b;obtain ⟨rfl,ha⟩:=dh hx;obtain ⟨rfl,hb⟩:=dh hy;have hg:∀ op,(eqGuard op t xo yo (.int k a) (.int k' b)).run P w=.ok () w:=fun op=>w0 op t xo yo rfl (by simp);simp only[Sem.run_bind,hg,Result.andThen_ok];split at h
  ·split at h
   ·rename_i hb0;simp only[v6] at h;subst h;have:¬ b<0:=by omega
    exact ⟨_,by simp[binOp,Op.shift,this],iv (pA _ _)⟩
   ·cases h
  ·split at h
   ·rename_i hb0;simp only[v6] at h;subst h;have:¬ b<0:=by omega
    exact ⟨_,by simp[binOp,Op.shift,this],iv (Oe _ _ _ ha)⟩
   ·cases h
  ·rename_i op h1 h2;split at h
   ·rename_i hk;subst hk;split at h <;>first
     |(simp at h;done)
     |(simp only[v6] at h;subst h;exact ⟨_,by simp[binOp,Op.intArith,Op.intBits,Op.intCmp],iv (pA _ _)⟩)
     |(simp only[v6] at h;subst h;exact ⟨_,by simp[binOp,Op.intCmp],kK _⟩)
     |(split at h
       ·cases h
       ·rename_i hb0;simp only[v6] at h;subst h
        first
         |exact ⟨_,by simp[binOp,Op.intDiv,hb0],iv (pA _ _)⟩
         |exact ⟨_,by simp[binOp,Op.intDiv,hb0],iv (acm _ _ _ ha)⟩)
   ·cases h
 ·rename_i s s';obtain ⟨rfl,hs1⟩:=gb hx;obtain ⟨rfl,hs2⟩:=gb hy;have hg:∀ op,(eqGuard op t xo yo (.string s) (.string s')).run P w=.ok () w:=fun op=>w0 op t xo yo rfl (by simp);simp only[Sem.run_bind,hg,Result.andThen_ok];split at h <;>first
   |(simp at h;done)
   |(simp only[v6] at h;subst h;exact ⟨_,by simp[binOp,Op.stringOp],kK _⟩)
   |(split at h
     ·rename_i hl;simp only[v6] at h;subst h;have hl':¬ (((s.size+s'.size:Nat):Int)>IntKind.i64.max):=by
       have e:IntKind.i64.max=9223372036854775807:=by simp[IntKind.max,IntKind.bits,IntKind.signed]
       rw[e];omega
      refine ⟨.string (s++s'),by simp only[binOp,Op.stringOp,if_neg hl',Sem.run_pure],?_⟩;exact ⟨_,by simp[bd,I.isAgg];rfl,by simp only[ae,true_and];rw[ByteArray.size_append];unfold maxLen;omega⟩
     ·cases h)
 ·cases h
theorem BO{op:BinOp}{t yt:TypeId}{y z:Operand}{y' z':aF}(ho:o.op=.binOp op t y z yt)(hy:aX c.P 0 y=some y')(hz:aX c.P 0 z=some z')(h:bS op (af A y') (af A z')=some x):cN c A o x :=
 .same fun a w D E hs=>by
  obtain ⟨r,h1,h2⟩:=Hg h (P:=c.P) (t:=t) (br hs hy) (br hs hz) y z;exact ⟨r,by simp only[execOp,ho,Sem.run_bind] at *;rw[h1];rfl,h2⟩
theorem Yj{t:TypeId}{y:Operand}{y':aF}{b:Bool}(ho:o.op=.unOp .not t y)(hy:aX c.P 0 y=some y')(h:af A y'=.bool b):cN c A o (.bool !b) :=
 .same fun a w D E hs=>by
  have h1:=br hs hy;rw[h] at h1;exact ⟨.bool !b,by simp[execOp,ho,kR h1,Op.unary],kK _⟩
theorem Yh{t:TypeId}{y:Operand}{y':aF}{k:IntKind}{n:Int}(ho:o.op=.unOp .neg t y)(hy:aX c.P 0 y=some y')(h:af A y'=.int k n):cN c A o (.int k (k.wrap (0-n))) :=
 .same fun a w D E hs=>by
  have h1:=br hs hy;rw[h] at h1;exact ⟨.int k (k.wrap (0-n)),by simp[execOp,ho,(dh h1).1,Op.unary,Op.intArith],iv (pA _ _)⟩
theorem XX{t:TypeId}{y:Operand}{y':aF}{k:IntKind}{n:Int}(ho:o.op=.unOp .xor t y)(hy:aX c.P 0 y=some y')(h:af A y'=.int k n):cN c A o (.int k (oy k n)) :=
 .same fun a w D E hs=>by
  have h1:=br hs hy;rw[h] at h1;exact ⟨.int k (oy k n),by simp[execOp,ho,(dh h1).1,Op.unary,Op.intBits,oy],iv (pA _ _)⟩
theorem XW{l8 dst:TypeId}{y:Operand}{y':aF}{k k0 k1:IntKind}{n:Int}(ho:o.op=.convert l8 dst y)(h1:c.P.underlying l8=some (.int k0))(h2:c.P.underlying dst=some (.int k))
  (hy:aX c.P 0 y=some y') (h:af A y'=.int k1 n):cN c A o (.int k (k.wrap n)) :=
 .same fun a w D E hs=>by
  have h3:=br hs hy;rw[h] at h3;exact ⟨.int k (k.wrap n),by simp[execOp,ho,(dh h3).1,convert,run_underlying h1,run_underlying h2,Conv.intToInt],iv (pA _ _)⟩
theorem X0{y:Operand}{y':aF}{i:Nat}{fs:List I}(ho:o.op=.extract y i)(hy:aX c.P 0 y=some y')(h:af A y'=.tuple fs)(hi:fs[i]?=some x):cN c A o x :=
 .same fun a w D E hs=>by
  have h3:=br hs hy;rw[h] at h3;obtain ⟨vs,h4,h5⟩:=h3;have:∀ (fs:List I) (vs:List Value) (i:Nat),aB w D E fs vs→fs[i]?=some x→∃ v,vs[i]?=some v∧aQ w D E x v:=by
   intro fs
   induction fs with
   |nil=>intro vs i _ hi;simp at hi
   |cons f fs ih =>
    intro vs i hr hi;simp only[aB] at hr;obtain ⟨v,rest,cs,rfl,k1,k2,k3⟩:=hr;cases i with
    |zero =>
     simp only[List.getElem?_cons_zero,v6] at hi ⊢;subst hi;refine ⟨v,rfl,?_⟩;cases f <;>simp only[aQ] <;>first | (simp only[ae] at k2;done) | exact ⟨cs,k1,k2⟩
    |succ i=>simpa using ih rest i k3 (by simpa using hi)
  obtain ⟨v,h6,h7⟩:=this fs vs i h5 hi;exact ⟨v,by simp[execOp,ho,h4,Instr.extract,h6],h7⟩
theorem fD{w:World}{D:aJ}{E:aO}{x:I}{v:Value}{cs:List Value}(h1:bd x v cs)(h2:ae w D E x cs):aQ w D E x v:=by
 cases x <;>simp only[aQ] <;>first | (simp only[ae] at h2;done) | exact ⟨cs,h1,h2⟩
theorem Fc{P:Program}{w:World}{t:TypeId}{s:Option Nat}(h:fu P t=some s):(isAgg t).run P w=.ok s.isSome w:=by
 unfold fu at h;unfold isAgg;cases hu:P.underlying t with
 |none=>simp[hu] at h
 |some d =>
  rw[Sem.run_bind,run_underlying hu w];cases d <;>simp_all <;>(subst h;rfl)
theorem vX{P:Program}{t:TypeId}{n:Nat}(h:fu P t=some (some n)):n=P.cellsOf t:=by
 unfold fu at h;split at h <;>simp_all
theorem vR{P:Program}{t:TypeId}{d:TypeDesc}(h:P.underlying t=some d):∃ i,P.info? t=some i:=by
 unfold Program.underlying at h;cases hi:P.info? t with
 |none=>simp[hi] at h
 |some i=>exact ⟨i,rfl⟩
theorem gG{P:Program}{w:World}{t:TypeId}{i:TypeInfo}(h:P.info? t=some i):(sizeOf t).run P w=.ok (P.cellsOf t) w:=by
 simp[sizeOf,typeInfo,h,Program.cellsOf]
theorem sQ{P:Program}{t:TypeId}{s:Option Nat}(h:fu P t=some s):∃ i,P.info? t=some i:=by
 unfold fu at h;split at h
 ·rename_i fs hu;exact vR hu
 ·rename_i n e hu;exact vR hu
 ·rename_i d _ _ hu;exact vR hu
 ·cases h
theorem mh(b off j:Nat):(⟨b,off,none⟩:Addr).add j=⟨b,off+j,none⟩:=by unfold Addr.add;split <;>simp_all
theorem Fe{P:Program}{w:World}{D:aJ}{E:aO}{t:TypeId}{s:Option Nat}{b off:Nat}{cs:List Value}{y:I}(hk:fu P t=some s)(hok:bT s y=true)
  (hcs:∀ j u,cs[j]?=some u→w.cell? ⟨b,off+j,none⟩=some u) (hy:ae w D E y cs):∃ v,(loadVar t ⟨b,off,none⟩).run P w=.ok v w∧aQ w D E y v:=by
 have hag:=Fc (w:=w) hk;cases s with
 |none =>
  simp only[bT,Bool.not_eq_true'] at hok;have hl:=ae.length _ _ hy;have hsz:y.size=1:=by cases y <;>simp_all[I.isAgg,I.size]
  rw[hsz] at hl
  match cs,hl with
  | [v],_ =>
   have:=hcs 0 v rfl;rw[Nat.add_zero] at this;refine ⟨v,?_,CJ hok hy⟩;simp only[loadVar,Sem.run_bind,hag,Result.andThen_ok,Option.isSome_none,zz4,if_false,run_load,this]
 |some n =>
  simp only[bT,zz0,beq_iff_eq] at hok;obtain ⟨hag',hsz⟩:=hok;have hn:=vX hk;obtain ⟨i,hi⟩:=sQ hk;have hl:=ae.length _ _ hy;refine ⟨.agg cs.toArray,?_,fD (by simp[bd,hag']) hy⟩;have hlc:=run_loadCells_list (P:=P) w ⟨b,off,none⟩ cs (fun j u hj=>by rw[mh];exact hcs j u hj);rw[hl,hsz,hn] at hlc;simp only[loadVar,Sem.run_bind,hag,Result.andThen_ok,Option.isSome_some,if_true,gG hi,hlc,Sem.run_pure]
theorem Ya{t:TypeId}{y:Operand}{y':aF}{s:Option Nat}(ho:o.op=.load t y)(hk:fu c.P t=some s)(hy:aX c.P 0 y=some y')(h:b6 A (af A y')=some x)(hok:bT s x=true):cN c A o x :=
 .same fun a w D E hs=>by
  obtain ⟨b,off,cs,h1,h2,h3⟩:=hs.yG (br hs hy) h;obtain ⟨v,h4,h5⟩:=Fe hk hok h2 h3;exact ⟨v,by simp[execOp,ho,Instr.loadAt,h1,Instr.sureAddr,h4],h5⟩
theorem tO{w:World}{D:aJ}{b off:Nat}{c1 c2 c3:List Value}(h:reads w D b off (c1++c2++c3)):reads w D b (off+c1.length) c2:=by
 intro j v hj;have hjl:j<c2.length:=(zz9.1 hj).1;have:=h (c1.length+j) v (by rw[zy3,List.getElem?_append_right (by omega),Nat.add_sub_cancel_left,zx8 (by omega)];exact hj)
 rwa [←Nat.add_assoc] at this
theorem bY.tp:∀ (p:List Nat) (s:bY) (o i:Nat) (l:List bY),s.off p=some o→s.part p=some (.ej l)→i<l.length→s.off (p++[i])=some (o+bY.sizes (l.take i))
 | [],s,o,i,l,h1,h2,h3=>by
  simp only[bY.part,v6] at h2;subst h2;simp only[bY.off,v6] at h1;subst h1;simp[bY.off,zz5 h3]
 |k::p,.one,o,i,l,h1,h2,h3=>by simp[bY.part] at h2
 |k::p,.ej m,o,i,l,h1,h2,h3=>by
  simp only[bY.off,bY.part,zy2] at *;cases hk:m[k]? with
  |none=>simp[hk] at h2
  |some s =>
   simp only[hk] at h1 h2 ⊢;simp only[t8] at h1;obtain ⟨o',h4,rfl⟩:=h1;rw[bY.tp p s o' i l h4 h2 h3];simp[Nat.add_assoc]
theorem nQ{esz:Nat} : ∀ (fs:List I) (k:Nat),(∀ f∈fs,f.size=esz)→k≤fs.length→I.sizes (fs.take k)=k*esz:=by
 intro fs k h hk;rw[I.gv _ (fun x hx=>h x (List.mem_of_mem_take hx))];simp[Nat.min_eq_left hk]
theorem pZ{n esz:Nat}{fs:List I}(h:gQ n esz fs=true):fs.length=n∧∀ f∈fs,f.size=esz:=by
 simp only[gQ,zz0,beq_iff_eq,zx3] at h;exact h
theorem Fa{P:Program}{w:World}{t:TypeId}{f b off:Nat}{fs:Array Field}{fd:Field}(hu:P.underlying t=some (.struct fs))(hf:fs[f]?=some fd)(hz:¬ P.cellsOf fd.type=0) :
  (Instr.fieldAt t (.pointer (some ⟨b,off,none⟩)) f).run P w=.ok (.pointer (some ⟨b,off+fd.offset,none⟩)) w:=by
 have hi:∃ i,P.info? fd.type=some i:=by
  cases h:P.info? fd.type with
  |none=>simp[Program.cellsOf,h] at hz
  |some i=>exact ⟨i,rfl⟩
 obtain ⟨i,hi⟩:=hi;simp only[Instr.fieldAt,Sem.run_bind,run_underlying hu,Result.andThen_ok,hf,Instr.sureAddr,Sem.run_pure,fieldPlace,gG hi,Sem.run_ite,if_neg hz,mh]
theorem X2{t:TypeId}{y:Operand}{y':aF}{f:Nat}{fs:Array Field}{fd:Field}{gs:List I}(ho:o.op=.fieldAddr t y f)(hu:c.P.underlying t=some (.struct fs))(hf:fs[f]?=some fd)(hz:¬ c.P.cellsOf fd.type=0)
  (hy:aX c.P 0 y=some y') (h:af A y'=.ref (.agg gs)) (hx:gs[f]?=some x) (hoff:I.sizes (gs.take f)=fd.offset):cN c A o (.ref x) :=
 .same fun a w D E hs=>by
  have h1:=br hs hy;rw[h] at h1;obtain ⟨b,off,cs,h2,h3,h4⟩:=pg h1;simp only[ae] at h4;obtain ⟨c1,c2,c3,rfl,k1,_,k2,_⟩:=lM gs cs f x h4 hx;refine ⟨_,by simp only[execOp,ho,h2,Sem.run_bind,Fa hu hf hz];rfl,ta (cs:=c2) ?_ k2⟩;rw[←hoff,←k1];exact tO h3
theorem X1{t:TypeId}{y:Operand}{y':aF}{f n:Nat}{p:List Nat}{fs:Array Field}{fd:Field}{gs:List I}(ho:o.op=.fieldAddr t y f)(hu:c.P.underlying t=some (.struct fs))(hf:fs[f]?=some fd)(hz:¬ c.P.cellsOf fd.type=0)
  (hy:aX c.P 0 y=some y') (h:af A y'=.ptr n p) (hd:b6 A (.ptr n p)=some (.agg gs)) (hl:f<gs.length) (hoff:I.sizes (gs.take f)=fd.offset):cN c A o (.ptr n (p++[f])) :=
 .same fun a w D E hs=>by
  have h1:=br hs hy;rw[h] at h1;obtain ⟨b,aL,off,h2,h3,h4⟩:=kS h1;obtain ⟨z,b',cs,T,off',c1,c2,c3,k1,k2,_,k3,k4,k5,k6,k7,k8,k9,_⟩:=hs.at hd;rw[k2] at h2;simp only[v6,bD.aE.injEq] at h2;obtain ⟨rfl,rfl⟩:=h2;refine ⟨_,by simp only[execOp,ho,h4,Sem.run_bind,Fa hu hf hz];rfl,?_⟩;refine ⟨_,by simp[bd,I.isAgg];rfl,?_⟩;simp only[ae];refine ⟨b',z.aL,off+fd.offset,k2,?_,rfl⟩;rw[bY.tp p z.aL off f _ h3 (lW p z _ k4) (by rw[I.cM];simpa using hl),I.cM,←List.map_take,←I.cM,I.lX,hoff]
theorem Fb{P:Program}{w:World}{t e:TypeId}{n b off:Nat}{kk:IntKind}{k:Int}{i:TypeInfo}(hu:P.underlying t=some (.array n e))(hi:P.info? e=some i)(hk:0≤k∧k<n) :
  (Instr.indexAt t (.pointer (some ⟨b,off,none⟩)) (.int kk k)).run P w=.ok (.pointer (some ⟨b,off+k.toNat*P.cellsOf e,none⟩)) w:=by
 simp[Instr.indexAt,asIntOf,run_underlying hu,Instr.sureAddr,hk,gG hi,mh]
theorem w6{P:Program}{w:World}{t e:TypeId}{n b off cap:Nat}{kk:IntKind}{k:Int}{i:TypeInfo}(hu:P.underlying t=some (.slice e))(hi:P.info? e=some i)(hk:0≤k∧k<n) :
  (Instr.indexAt t (.slice (some ⟨b,off,none⟩) n cap) (.int kk k)).run P w=.ok (.pointer (some ⟨b,off+k.toNat*P.cellsOf e,none⟩)) w:=by
 simp[Instr.indexAt,asIntOf,run_underlying hu,hk,gG hi,mh]
theorem X5{t e:TypeId}{y z:Operand}{y' z':aF}{n:Nat}{i:TypeInfo}{gs:List I}{kk:IntKind}{k:Int}(ho:o.op=.indexAddr t y z)(hu:c.P.underlying t=some (.array n e))(hi:c.P.info? e=some i)
  (hy:aX c.P 0 y=some y') (hz:aX c.P 0 z=some z') (h:af A y'=.ref (.agg gs)) (h':af A z'=.int kk k) (hk:0≤k∧k<n) (hev:gQ n (c.P.cellsOf e) gs=true) (hx:gs[k.toNat]?=some x):cN c A o (.ref x) :=
 .same fun a w D E hs=>by
  have h1:=br hs hy;rw[h] at h1;have h1':=br hs hz;rw[h'] at h1';obtain ⟨b,off,cs,h2,h3,h4⟩:=pg h1;simp only[ae] at h4;obtain ⟨c1,c2,c3,rfl,k1,_,k2,_⟩:=lM gs cs k.toNat x h4 hx;obtain ⟨e1,e2⟩:=pZ hev;have hl:k.toNat<gs.length:=(zz9.1 hx).1;refine ⟨_,by simp only[execOp,ho,h2,(dh h1').1,Sem.run_bind,Fb hu hi hk];rfl,ta (cs:=c2) ?_ k2⟩;rw[←nQ gs k.toNat e2 (by omega),←k1];exact tO h3
theorem X4{t e:TypeId}{y z:Operand}{y' z':aF}{n m:Nat}{p:List Nat}{i:TypeInfo}{gs:List I}{kk:IntKind}{k:Int}(ho:o.op=.indexAddr t y z)(hu:c.P.underlying t=some (.array n e))(hi:c.P.info? e=some i)
  (hy:aX c.P 0 y=some y') (hz:aX c.P 0 z=some z') (h:af A y'=.ptr m p) (h':af A z'=.int kk k) (hk:0≤k∧k<n) (hd:b6 A (.ptr m p)=some (.agg gs)) (hev:gQ n (c.P.cellsOf e) gs=true):cN c A o (.ptr m (p++[k.toNat])) :=
 .same fun a w D E hs=>by
  have h1:=br hs hy;rw[h] at h1;have h1':=br hs hz;rw[h'] at h1';obtain ⟨b,aL,off,h2,h3,h4⟩:=kS h1;obtain ⟨zz,b',cs,T,off',c1,c2,c3,k1,k2,_,k3,k4,k5,k6,k7,k8,k9,_⟩:=hs.at hd;rw[k2] at h2;simp only[v6,bD.aE.injEq] at h2;obtain ⟨rfl,rfl⟩:=h2;obtain ⟨e1,e2⟩:=pZ hev;have hl:k.toNat<gs.length:=by omega
  refine ⟨_,by simp only[execOp,ho,h4,(dh h1').1,Sem.run_bind,Fb hu hi hk];rfl,?_⟩;refine ⟨_,by simp[bd,I.isAgg];rfl,?_⟩;simp only[ae];refine ⟨b',zz.aL,off+k.toNat*c.P.cellsOf e,k2,?_,rfl⟩;rw[bY.tp p zz.aL off k.toNat _ h3 (lW p zz _ k4) (by rw[I.cM];simpa using hl),I.cM,←List.map_take,←I.cM,I.lX,nQ gs _ e2 (by omega)]
theorem vj{w:World}{D:aJ}{E:aO}{b off sz k:Nat}{cs:List Value}{es:List I}{x:I}(h1:reads w D b off cs)(h2:aI w D E es cs)(h3:∀ e∈es,e.size=sz)(hx:es[k]?=some x) :
  ∃ c2,reads w D b (off+k*sz) c2∧ae w D E x c2:=by
 obtain ⟨c1,c2,c3,rfl,k1,_,k2,_⟩:=lM es cs k x h2 hx;have hl:k<es.length:=(zz9.1 hx).1;refine ⟨c2,?_,k2⟩;rw[←nQ es k h3 (by omega),←k1];exact tO h1
theorem X6{t e:TypeId}{y z:Operand}{y' z':aF}{i:TypeInfo}{es:List I}{kk:IntKind}{k:Int}(ho:o.op=.indexAddr t y z)(hu:c.P.underlying t=some (.slice e))(hi:c.P.info? e=some i)
  (hy:aX c.P 0 y=some y') (hz:aX c.P 0 z=some z') (h:af A y'=.slice (c.P.cellsOf e) es) (h':af A z'=.int kk k) (hk:0≤k∧k<es.length) (hx:es[k.toNat]?=some x):cN c A o (.ref x) :=
 .same fun a w D E hs=>by
  have h1:=br hs hy;rw[h] at h1;have h1':=br hs hz;rw[h'] at h1';obtain ⟨ad,cap,rfl',h2,h3,h4,h5⟩:=kT h1;rcases h4 with h4 | ⟨b,off,cs,rfl,h6,h7⟩
  ·subst h4;simp at hx
  obtain ⟨c2,k1,k2⟩:=vj h6 h7 h5 hx;exact ⟨_,by simp only[execOp,ho,rfl',(dh h1').1,Sem.run_bind,w6 hu hi hk];rfl,ta k1 k2⟩
theorem aM.abS{a:Act}{w:World}{D:aJ}{E:aO}(h:aM c A a w D E){n sz b cap:Nat}{T:TypeId}{es:List I}(hn:A.o n=some (.bM T sz es))(az:E n=some (.rw (some (b,cap)) es.length)) :
  aM c A a w (fun b' o=>D b' o∨(b'=b∧o<es.length*sz)) E:=by
 have hrow:=h.bM hn;obtain ⟨aH,k1,k2,k3⟩:=hrow;rw[az] at k1;simp only[v6,bD.rw.injEq,and_true] at k1;subst k1;obtain ⟨cs,pre,rest,k4,k5,k6,k7,k8,k9,k10,k11⟩:=k3;refine h.F7 (fun _ _ hd=>.inl hd) ?_ ?_ ?_ ?_ ?_ ?_
 ·rintro b' o (hd | ⟨rfl,_⟩) hlt
  ·exact h.cO _ _ hd hlt
  ·exact absurd k4 hlt
 ·rintro b' o (hd | ⟨rfl,_⟩)
  ·exact h.cQ _ _ hd
  ·exact eY k5
 ·rintro m x b' hm hEm o (hd | ⟨rfl,_⟩)
  ·obtain ⟨b2,cs2,T2,q1,q2,q3,q4,q5⟩:=h.box hm;rw[q1] at hEm;simp only[v6,bD.aE.injEq,and_true] at hEm;subst hEm;exact q5 o hd
  ·have:=h.cG m n _ _ b' hEm az rfl rfl;subst this;rw[hm] at hn;cases hn
 ·rintro m T' sz' es' b' cap' hm hEm o (hd | ⟨rfl,ho⟩)
  ·obtain ⟨aH,q1,q2,q3⟩:=h.bM hm;rw[hEm] at q1;simp only[v6,bD.rw.injEq,and_true] at q1;subst q1;obtain ⟨cs',pre',rest',q4,q5,q6,q7,q8,q9,q10,q11⟩:=q3;have:=q11 o hd
   rwa [aI.length _ _ q7,I.gv _ q2] at this
  ·have:=h.cG m n _ _ b' hEm az rfl rfl;subst this;rw[hm] at hn;simp only[v6,ai.bM.injEq] at hn;obtain ⟨rfl,rfl,rfl⟩:=hn;exact ho
 ·rintro m T' xs b' cap' hm hEm o (hd | ⟨rfl,ho⟩)
  ·obtain ⟨aH,q1,_,q3⟩:=h.xH hm;rw[hEm] at q1;simp only[v6,bD.rw.injEq,and_true] at q1;subst q1;obtain ⟨_,_,_,_,_,_,_,_,q4⟩:=q3;exact q4 o hd
  ·have:=h.cG m n _ _ b' hEm az rfl rfl;subst this;rw[hm] at hn;cases hn
 ·rintro m e' b' hE' hoth hblk o (hd | ⟨rfl,_⟩)
  ·exact h.wE hE' hoth hblk o hd
  ·have:=h.cG m n _ _ b' hE' az hblk rfl;subst this;rw[hE'] at az;cases az;cases hoth
theorem aM.own{a:Act}{w:World}{D:aJ}{E:aO}(h:aM c A a w D E){n sz:Nat}{T:TypeId}{es:List I}{v:Value}(hn:A.o n=some (.bM T sz es))(hv:aQ w D E (.own n es.length) v) :
  (es=[]∧E n=some (.rw none 0)∧v=.slice none 0 0) ∨
  ∃ b cap cs pre rest,E n=some (.rw (some (b,cap)) es.length)∧v=.slice (some ⟨b,0,none⟩) es.length cap∧c.ez b∧w.heap[b]?=some (.cells cs T (0,0))∧cs.toList=pre++rest ∧
   aI w D E es pre∧cs.size=cap*sz∧es.length≤cap∧cap≤maxLen∧(∀ o,D b o→o<pre.length):=by
 obtain ⟨cs0,h1,h2⟩:=hv;simp only[ae] at h2;obtain ⟨aH,l,h3,h4,_,h5⟩:=h2;obtain ⟨blk',k1,k2,k3⟩:=h.bM hn;rw[k1] at h3;simp only[v6,bD.rw.injEq] at h3;obtain ⟨rfl,rfl⟩:=h3;have h5:=h5 rfl;cases blk' with
 |none =>
  simp only at k3 h5;subst k3;exact .inl ⟨rfl,k1,by simpa[bd,I.isAgg,h5] using h1.symm⟩
 |some bc =>
  obtain ⟨b,cap⟩:=bc;simp only at h5;obtain ⟨cs,pre,rest,k4,k5,k6,k7,k8,k9,k10,k11⟩:=k3;exact .inr ⟨b,cap,cs,pre,rest,k1,by simpa[bd,I.isAgg,h5] using h1.symm,k4,k5,k6,k7,k8,k9,k10,k11⟩
theorem X7{t e:TypeId}{y z:Operand}{y' z':aF}{i:TypeInfo}{es:List I}{n:Nat}{kk:IntKind}{k:Int}(ho:o.op=.indexAddr t y z)(hu:c.P.underlying t=some (.slice e))(hi:c.P.info? e=some i)
  (hy:aX c.P 0 y=some y') (hz:aX c.P 0 z=some z') (h:af A y'=.own n es.length) {T:TypeId} (hn:A.o n=some (.bM T (c.P.cellsOf e) es)) (h':af A z'=.int kk k) (hk:0≤k∧k<es.length) (hx:es[k.toNat]?=some x):cN c A o (.ref x):=by
 intro a w D E hs;have h1:=br hs hy;rw[h] at h1;have h1':=br hs hz;rw[h'] at h1';rcases hs.own hn h1 with ⟨rfl,_⟩ | ⟨b,cap,cs,pre,rest,k1,k2,k3,k4,k5,k6,k7,k8,k9,k10⟩
 ·simp at hx
 ·have hs':=hs.abS hn k1;obtain ⟨aH,q1,q2,_⟩:=hs.bM hn;have hpl:pre.length=es.length*c.P.cellsOf e:=by rw[aI.length _ _ k6,I.gv _ q2]
  have hr:reads w (fun b' o=>D b' o∨(b'=b∧o<es.length*c.P.cellsOf e)) b 0 pre:=by
   have:=tN (D:=fun b' o=>D b' o∨(b'=b∧o<es.length*c.P.cellsOf e)) (c1:=[]) k4 (by simpa using k5) (fun o ho=>.inr ⟨rfl,by simp at ho;omega⟩);simpa using this
  have hrc:aI w (fun b' o=>D b' o∨(b'=b∧o<es.length*c.P.cellsOf e)) E es pre :=
   aI.later ⟨fun _ _ hd=>.inl hd,fun _ _ _ _ h=>h,fun _ _ _ h=>h,fun _ aH l h=>⟨aH,l,h,zz8 _,fun _=>rfl⟩,fun _ _ h=>h,fun _ _ h=>h,fun _ _ _ _ h=>h⟩ es pre k6
  obtain ⟨c2,q3,q4⟩:=vj hr hrc q2 hx;exact ⟨_,w,_,by simp only[execOp,ho,k2,(dh h1').1,Sem.run_bind,w6 hu hi hk];rfl,hs',ta q3 q4⟩
end
section
variable {c:ct} {A:ab} {o:Oper} {x:I}
theorem nN{P:Program}{w:World}{D:aJ}{E:aO}{t:TypeId}{s:Option Nat}{c1 c2 c3:List Value}{y:I}(hk:fu P t=some s)(hok:bT s y=true)(hy:ae w D E y c2) :
  ∃ v,(part t (c1++c2++c3).toArray c1.length).run P w=.ok v w∧aQ w D E y v:=by
 have hag:=Fc (w:=w) hk;have hl:=ae.length _ _ hy;cases s with
 |none =>
  simp only[bT,Bool.not_eq_true'] at hok;have hsz:y.size=1:=by cases y <;>simp_all[I.isAgg,I.size]
  rw[hsz] at hl
  match c2,hl with
  | [v],_ =>
   refine ⟨v,?_,CJ hok hy⟩;simp[part,hag]
 |some n =>
  simp only[bT,zz0,beq_iff_eq] at hok;obtain ⟨hag',hsz⟩:=hok;have hn:=vX hk;obtain ⟨i,hi⟩:=sQ hk;refine ⟨.agg c2.toArray,?_,fD (by simp[bd,hag']) hy⟩;have e:((c1++c2++c3).toArray.extract c1.length (c1.length+P.cellsOf t))=c2.toArray:=by
   have:P.cellsOf t=c2.length:=by rw[hl,hsz,hn]
   rw[this];simp
  simp only[part,Sem.run_bind,hag,Result.andThen_ok,Option.isSome_some,if_true,gG hi,e,Sem.run_pure]
theorem X3{t:TypeId}{y:Operand}{y':aF}{f:Nat}{s:Option Nat}{fs:Array Field}{fd:Field}{gs:List I}(ho:o.op=.field t y f)(hu:c.P.underlying t=some (.struct fs))(hf:fs[f]?=some fd)(hk:fu c.P fd.type=some s)
  (hy:aX c.P 0 y=some y') (h:af A y'=.agg gs) (hx:gs[f]?=some x) (hoff:I.sizes (gs.take f)=fd.offset) (hok:bT s x=true):cN c A o x :=
 .same fun a w D E hs=>by
  have h1:=br hs hy;rw[h] at h1;obtain ⟨cs,h2,h4⟩:=iS h1;obtain ⟨c1,c2,c3,rfl,k1,_,k2,_⟩:=lM gs cs f x h4 hx;obtain ⟨v,k3,k4⟩:=nN (c1:=c1) (c3:=c3) hk hok k2;rw[k1,hoff] at k3;exact ⟨v,by simp only[execOp,ho,h2,Instr.field,Sem.run_bind,run_underlying hu,Result.andThen_ok,hf,asAgg,Sem.run_pure,k3],k4⟩
theorem X9{t e:TypeId}{y z:Operand}{y' z':aF}{n:Nat}{s:Option Nat}{gs:List I}{kk:IntKind}{k:Int}(ho:o.op=.index t y z)(hu:c.P.underlying t=some (.array n e))(hk:fu c.P e=some s)
  (hy:aX c.P 0 y=some y') (hz:aX c.P 0 z=some z') (h:af A y'=.agg gs) (h':af A z'=.int kk k) (hb:0≤k∧k<n) (hev:gQ n (c.P.cellsOf e) gs=true) (hx:gs[k.toNat]?=some x) (hok:bT s x=true):cN c A o x :=
 .same fun a w D E hs=>by
  have h1:=br hs hy;rw[h] at h1;have h1':=br hs hz;rw[h'] at h1';obtain ⟨cs,h2,h4⟩:=iS h1;obtain ⟨c1,c2,c3,rfl,k1,_,k2,_⟩:=lM gs cs k.toNat x h4 hx;obtain ⟨v,k3,k4⟩:=nN (c1:=c1) (c3:=c3) hk hok k2;obtain ⟨e1,e2⟩:=pZ hev;obtain ⟨i,hi⟩:=sQ hk;have hl:k.toNat<gs.length:=(zz9.1 hx).1;rw[k1,nQ gs k.toNat e2 (by omega)] at k3;exact ⟨v,by simp only[execOp,ho,h2,(dh h1').1,Instr.index,Sem.run_bind,asIntOf,run_underlying hu,Result.andThen_ok,Sem.run_ite,if_pos hb,gG hi,Sem.run_pure,k3],k4⟩
theorem wb{n:Nat}(h:n≤maxLen):IntKind.i64.min≤(n:Int)∧(n:Int)≤IntKind.i64.max:=by
 simp only[IntKind.min,IntKind.max,IntKind.bits,IntKind.signed];unfold maxLen at h;simp;omega
theorem oL{ty:TypeId}{y:Operand}{y':aF}{n:Nat}{d:TypeDesc}(ho:o.op=.call { callee:=.builtin .len,args := #[y],argTypes := #[ty] })(hu:c.P.underlying ty=some d)(hd:(∃ e,d=.slice e)∨d=.string)
  (hy:aX c.P ty y=some y') (h:∀ a w D E,aM c A a w D E→∀ v,aQ w D E (af A y') v→n≤maxLen∧((∃ e,d=.slice e)→∃ ad cap,v=.slice ad n cap)∧(d=.string→∃ s,v=.string s∧s.size=n)):cN c A o (.int .i64 n) :=
 .same fun a w D E hs=>by
  obtain ⟨h0,h1,h2⟩:=h a w D E hs _ (br hs hy);refine ⟨.int .i64 n,?_,iv (wb h0)⟩;rcases hd with ⟨e,rfl⟩ | rfl
  ·obtain ⟨ad,cap,hv⟩:=h1 ⟨e,rfl⟩;simp[execOp,ho,resolve,invoke,builtin,Builtin.len_,run_underlying hu,hv,goInt]
  ·obtain ⟨s,hv,hs⟩:=h2 rfl;simp[execOp,ho,resolve,invoke,builtin,Builtin.len_,run_underlying hu,hv,goInt,hs]
theorem Ys{t e:TypeId}{y:Operand}{y':aF}{n:Nat}{i:TypeInfo}{gs:List I}(ho:o.op=.slice t y none none none)(hu:c.P.underlying t=some (.array n e))(hi:c.P.info? e=some i)
  (hy:aX c.P 0 y=some y') (h:af A y'=.ref (.agg gs)) (hev:gQ n (c.P.cellsOf e) gs=true) (hn:n≤maxLen):cN c A o (.slice (c.P.cellsOf e) gs) :=
 .same fun a w D E hs=>by
  have h1:=br hs hy;rw[h] at h1;obtain ⟨b,off,cs,h2,h3,h4⟩:=pg h1;simp only[ae] at h4;obtain ⟨e1,e2⟩:=pZ hev;by_cases h0:n=0
  ·exact ⟨.slice (some ⟨b,off,none⟩) 0 0,by simp[execOp,ho,h2,Instr.sliceAt,run_underlying hu,Instr.sureAddr,Instr.sliceBounds,gG hi,h0],tc (by omega) (by omega) (by simp[maxLen]) (.inl (zw2 (by omega))) e2⟩
  ·exact ⟨.slice (some ⟨b,off,none⟩) n n,by simp[execOp,ho,h2,Instr.sliceAt,run_underlying hu,Instr.sureAddr,Instr.sliceBounds,gG hi,mh],tc e1.symm (zz8 _) hn (.inr ⟨b,off,cs,rfl,h3,h4⟩) e2⟩
theorem Yr{t e:TypeId}{y:Operand}{y':aF}{n m:Nat}{p:List Nat}{i:TypeInfo}{gs:List I}(ho:o.op=.slice t y none none none)(hu:c.P.underlying t=some (.array n e))(hi:c.P.info? e=some i)
  (hy:aX c.P 0 y=some y') (h:af A y'=.ptr m p) (hd:b6 A (.ptr m p)=some (.agg gs)) (hev:gQ n (c.P.cellsOf e) gs=true) (hn:n≤maxLen) (hn0:n≠0):cN c A o (.view m p (c.P.cellsOf e) 0 n) :=
 .same fun a w D E hs=>by
  have h1:=br hs hy;rw[h] at h1;obtain ⟨b,aL,off,h2,h3,h4⟩:=kS h1;obtain ⟨zz,b',cs,T,off',c1,c2,c3,k1,k2,_,k3,k4,k5,k6,k7,k8,k9,_⟩:=hs.at hd;rw[k2] at h2;simp only[v6,bD.aE.injEq] at h2;obtain ⟨rfl,rfl⟩:=h2;obtain ⟨e1,e2⟩:=pZ hev;refine ⟨.slice (some ⟨b',off,none⟩) n n,by simp[execOp,ho,h4,Instr.sliceAt,run_underlying hu,Instr.sureAddr,Instr.sliceBounds,gG hi,mh],?_⟩;refine ⟨_,by simp[bd,I.isAgg];rfl,?_⟩;simp only[ae];refine ⟨b',zz.aL,off,I.cI gs,k2,h3,lW p zz _ k4,?_,?_,?_,?_⟩
  ·rw[I.cM,zz2,e1];simp
  ·rw[I.cM,zz2,e1];exact hn
  ·rw[I.cM,zz2,e1];omega
  ·rw[I.cM];intro s hs';obtain ⟨f,hf,rfl⟩:=zx1.1 hs';rw[I.iC];exact e2 f hf
theorem aa6{w:World}{D:aJ}{E:aO}{b off sz:Nat}{cs:List Value}{es:List I}(h1:reads w D b off cs)(h2:aI w D E es cs)(h3:∀ e∈es,e.size=sz)(l h:Nat)(hl:l≤h)(hh:h≤es.length) :
  ∃ c2,reads w D b (off+l*sz) c2∧aI w D E ((es.take h).drop l) c2:=by
 have hspl:∀ (xs ys:List I) (cs:List Value),aI w D E (xs++ys) cs→∃ c1 c2,cs=c1++c2∧aI w D E xs c1∧aI w D E ys c2:=by
  intro xs
  induction xs with
  |nil=>intro ys cs hr;exact ⟨[],cs,rfl,by simp[aI],hr⟩
  |cons x xs ih =>
   intro ys cs hr;simp only[zy2,aI] at hr;obtain ⟨d1,d2,rfl,k1,k2⟩:=hr;obtain ⟨e1,e2,rfl,k3,k4⟩:=ih ys d2 k2;exact ⟨d1++e1,e2,by simp,by simp only[aI];exact ⟨d1,e1,rfl,k1,k3⟩,k4⟩
 have e1:es=es.take l++((es.take h).drop l++es.drop h):=by
  rw[←zy3]
  conv=>lhs;rw[←List.take_append_drop h es]
  congr 1
  rw[←List.aci l h es hl]
 rw[e1] at h2;obtain ⟨c1,c',rfl,k1,k2⟩:=hspl _ _ _ h2;obtain ⟨c2,c3,rfl,k3,k4⟩:=hspl _ _ _ k2;refine ⟨c2,?_,k3⟩;rw[←nQ es l h3 (by omega),←aI.length _ _ k1];rw[←zy3] at h1;exact tO h1
 where
 List.aci {α:Type} (l h:Nat) (es:List α) (hl:l≤h):es.take h=es.take l++(es.take h).drop l:=by
  conv=>lhs;rw[←List.take_append_drop l (es.take h)]
  rw[List.take_take,Nat.min_eq_left hl]
def gV(w:World)(D:aJ)(E:aO)(x:Option I)(v:Option Value):Prop:=match x,v with
 |none,none=>True
 |some x,some v=>aQ w D E x v
 |_,_=>False
theorem Im{x:I}{d n:Int}(h:gy (some x) d=some n):∃ k,x=.int k n:=by
 cases x <;>simp[gy] at h
 subst h;exact ⟨_,rfl⟩
theorem qL{w:World}{D:aJ}{E:aO}{x:Option I}{v:Option Value}{d n:Int}(h:gV w D E x v)(hb:gy x d=some n) :
  (x=none∧v=none∧d=n)∨(x.isSome=true∧∃ k,v=some (.int k n)):=by
 cases x with
 |none =>
  cases v with
  |some _=>simp[gV] at h
  |none=>simp only[gy,v6] at hb;exact .inl ⟨rfl,rfl,hb⟩
 |some x =>
  cases v with
  |none=>simp[gV] at h
  |some v =>
   obtain ⟨k,rfl⟩:=Im hb;simp only[gV] at h;exact .inr ⟨rfl,k,by rw[(dh h).1]⟩
theorem w7{P:Program}{w:World}{D:aJ}{E:aO}{t e:TypeId}{i:TypeInfo}{sz:Nat}{es:List I}{lo hi mx:Option I}{vlo vhi vmx:Option Value}{x:I}{ad:Option Addr}{cap:Nat}
  (hu:P.underlying t=some (.slice e)) (hi':P.info? e=some i) (hsz:sz=P.cellsOf e) (hmh:mx.isSome=true→hi.isSome=true)
  (h1:gV w D E lo vlo) (h2:gV w D E hi vhi) (h3:gV w D E mx vmx) (hx:hJ sz es lo hi mx=some x)
  (hcap:es.length≤cap) (hcm:cap≤maxLen) (hes:es=[]∨∃ b off cs,ad=some ⟨b,off,none⟩∧reads w D b off cs∧aI w D E es cs) (hall:∀ e∈es,e.size=sz) :
  ∃ v,(Instr.sliceAt t (.slice ad es.length cap) vlo vhi vmx).run P w=.ok v w∧aQ w D E x v:=by
 unfold hJ at hx;split at hx
 ·cases hx
 rename_i h hh;split at hx
 ·cases hx
 rename_i m hm;split at hx
 ·cases hx
 rename_i l hl;split at hx
 case isFalse=>cases hx
 rename_i hb;obtain ⟨b1,b2,b3,b4⟩:=hb;have sb:∀ (k:IntKind) (n:Int) (y:Nat) (code:BoundsCode),0≤n→n≤y→(Instr.sliceBound (.int k n) y code).run P w=.ok n.toNat w:=fun k n y code g1 g2=>by
  simp[Instr.sliceBound,asIntOf,g1,g2]
 -- the bounds that the program finds
 have key:∃ m':Nat,es.length≤cap∧m'≤cap∧h.toNat≤m'∧(mx.isSome=true→m'=m.toNat)∧(mx=none→m'=cap) ∧
   (Instr.sliceBounds true es.length cap vlo vhi vmx).run P w=.ok (l.toNat,h.toNat,m') w:=by
  have c1:=qL h1 hl;have c2:=qL h2 hh;have c3:=qL h3 hm;clear h1 h2 h3;rcases c3 with ⟨rfl,rfl,hm3⟩ | ⟨s3,k3,rfl⟩
  ·refine ⟨cap,hcap,zz8 _,by omega,fun e=>(by cases e),fun _=>rfl,?_⟩;rcases c2 with ⟨rfl,rfl,hm2⟩ | ⟨s2,k2,rfl⟩ <;>rcases c1 with ⟨rfl,rfl,hm1⟩ | ⟨s1,k1,rfl⟩
   ·subst hm1 hm2;simp[Instr.sliceBounds]
   ·subst hm2;simp[Instr.sliceBounds,sb k1 l es.length _ b1 (by omega)]
   ·subst hm1;simp[Instr.sliceBounds,sb k2 h cap _ (by omega) (by omega)]
   ·simp[Instr.sliceBounds,sb k2 h cap _ (by omega) (by omega),sb k1 l h.toNat _ b1 (by omega)]
  ·refine ⟨m.toNat,hcap,by omega,by omega,fun _=>rfl,fun e=>(by rw[e] at s3;cases s3),?_⟩;rcases c2 with ⟨rfl,rfl,hm2⟩ | ⟨s2,k2,rfl⟩
   ·simp[s3] at hmh
   ·rcases c1 with ⟨rfl,rfl,hm1⟩ | ⟨s1,k1,rfl⟩
    ·subst hm1;simp[Instr.sliceBounds,sb k3 m cap _ (by omega) (by omega),sb k2 h m.toNat _ (by omega) (by omega)]
    ·simp[Instr.sliceBounds,sb k3 m cap _ (by omega) (by omega),sb k2 h m.toNat _ (by omega) (by omega),sb k1 l h.toNat _ b1 (by omega)]
 obtain ⟨m',g1,g2,g3,g4,g5,hsb⟩:=key;have hrun:(Instr.sliceAt t (.slice ad es.length cap) vlo vhi vmx).run P w =
   .ok (.slice (if m'=l.toNat then ad else ad.map (·.add (l.toNat*P.cellsOf e))) (h.toNat-l.toNat) (m'-l.toNat)) w:=by
  simp only[Instr.sliceAt,Instr.slice,Sem.run_bind,run_underlying hu,Result.andThen_ok,hsb,gG hi',Sem.run_pure]
 refine ⟨_,hrun,?_⟩;split at hx
 ·rename_i hc;simp only[v6] at hx;subst hx;have e1:m'=l.toNat:=by rw[g4 hc.1,hc.2]
  have e2:h.toNat-l.toNat=0:=by omega
  rw[if_pos e1,e2,e1,Nat.sub_self];exact ⟨_,by simp[bd,I.isAgg];rfl,by simp only[ae];exact ⟨ad,rfl⟩⟩
 ·simp only[v6] at hx;subst hx;have hlen:((es.take h.toNat).drop l.toNat).length=h.toNat-l.toNat:=by simp;omega
  refine tc hlen.symm (by omega) (by omega) ?_ (fun y hy=>hall y (List.mem_of_mem_take (List.mem_of_mem_drop hy)));by_cases hz:h.toNat=l.toNat
  ·left;exact zw2 (by omega)
  ·right
   rw[if_neg (by omega)];rcases hes with rfl | ⟨b,off,cs,rfl,q1,q2⟩
   ·simp at b4 g3;omega
   ·obtain ⟨c2,q3,q4⟩:=aa6 q1 q2 hall l.toNat h.toNat (by omega) (by omega);exact ⟨b,off+l.toNat*sz,c2,by simp[mh,hsz],q3,q4⟩
theorem vM{t e:TypeId}{y:Operand}{y':aF}{lo hi mx:Option Operand}{lo' hi' mx':Option aF}{i:TypeInfo}{es:List I}(ho:o.op=.slice t y lo hi mx)(hu:c.P.underlying t=some (.slice e))(hi0:c.P.info? e=some i)
  (hy:aX c.P 0 y=some y') (h1:ig c.P lo=some lo') (h2:ig c.P hi=some hi') (h3:ig c.P mx=some mx') (hmh:mx'.isSome=true→hi'.isSome=true)
  (h:af A y'=.slice (c.P.cellsOf e) es∨(af A y'=.nils (c.P.cellsOf e)∧es=[])∨(af A y'=.c0 (c.P.cellsOf e)∧es=[])) (hx:hJ (c.P.cellsOf e) es (lo'.map (af A)) (hi'.map (af A)) (mx'.map (af A))=some x):cN c A o x :=
 .same fun a w D E hs=>by
  have opt:∀ {q:Option Operand} {q':Option aF},ig c.P q=some q'→gV w D E (q'.map (af A)) (q.map a.eval):=by
   intro q q' hq;cases q with
   |none=>simp only[ig,v6] at hq;subst hq;simp[gV]
   |some z =>
    simp only[ig,t8] at hq;obtain ⟨z',hz,rfl⟩:=hq;simpa[gV] using br hs hz
  have h0:=br hs hy;have hmh':(mx'.map (af A)).isSome=true→(hi'.map (af A)).isSome=true:=by simpa using hmh
  rcases h with h | ⟨h,rfl⟩ | ⟨h,rfl⟩
  ·rw[h] at h0;obtain ⟨ad,cap,e1,e2,e3,e4,e5⟩:=kT h0;obtain ⟨v,k1,k2⟩:=w7 hu hi0 rfl hmh' (opt h1) (opt h2) (opt h3) hx e2 e3 e4 e5;exact ⟨v,by simp only[execOp,ho,e1,Sem.run_bind,k1];rfl,k2⟩
  ·rw[h] at h0;obtain ⟨cs,q1,q2⟩:=h0;simp only[ae] at q2;have e1:a.eval y=.slice none ([]:List I).length 0:=by simpa[bd,I.isAgg,q2] using q1.symm
   obtain ⟨v,k1,k2⟩:=w7 (ad:=none) (cap:=0) hu hi0 rfl hmh' (opt h1) (opt h2) (opt h3) hx (by simp) (by simp[maxLen]) (.inl rfl) (by simp);exact ⟨v,by simp only[execOp,ho,e1,Sem.run_bind,k1];rfl,k2⟩
  ·rw[h] at h0;obtain ⟨cs,q1,q2⟩:=h0;simp only[ae] at q2;obtain ⟨ad,q2⟩:=q2;have e1:a.eval y=.slice ad ([]:List I).length 0:=by simpa[bd,I.isAgg,q2] using q1.symm
   obtain ⟨v,k1,k2⟩:=w7 (ad:=ad) (cap:=0) hu hi0 rfl hmh' (opt h1) (opt h2) (opt h3) hx (by simp) (by simp[maxLen]) (.inl rfl) (by simp);exact ⟨v,by simp only[execOp,ho,e1,Sem.run_bind,k1];rfl,k2⟩
end
inductive dX {α β:Type} (R:α→β→Prop):List α→List β→Prop where
 |nil:dX R [] []
 |cons {x:α} {y:β} {xs:List α} {ys:List β} : R x y→dX R xs ys→dX R (x::xs) (y::ys)
section
variable {c:ct} {A:ab} {o:Oper} {x:I}
theorem aa5{w:World}{D:aJ}{E:aO}{xs:List I}{cs ds:List Value}{i:Nat}{x y:I}(h:aI w D E xs cs)(hx:xs[i]?=some x)(hy:ae w D E y ds)(hs:y.size=x.size) :
  I.sizes (xs.take i)+ds.length≤cs.length∧aI w D E (xs.set i y) (cs.take (I.sizes (xs.take i))++ds++cs.drop (I.sizes (xs.take i)+ds.length)):=by
 obtain ⟨c1,c2,c3,rfl,h1,h2,h3,h4⟩:=lM xs cs i x h hx;have hi:i<xs.length:=(zz9.1 hx).1;have hl:ds.length=c2.length:=by rw[ae.length _ _ hy,ae.length _ _ h3,hs]
 refine ⟨by simp only[zz1,h1];omega,?_⟩;have e1:xs.set i y=xs.take i++y::xs.drop (i+1):=by rw[List.set_eq_take_append_cons_drop];simp[hi]
 have e2:(c1++c2++c3).take (I.sizes (xs.take i))++ds++(c1++c2++c3).drop (I.sizes (xs.take i)+ds.length)=c1++(ds++c3):=by
  rw[←h1,hl,zy3 c1 c2 c3,List.take_left,List.drop_length_add_append,List.drop_left,zy3]
 rw[e1,e2];refine jq _ _ _ _ h2 ?_;simp only[aI];exact ⟨ds,c3,rfl,hy,h4⟩
theorem OA(off:Nat)(l:List Value)(cs:Array Value)(h:off+l.length≤cs.size) :
  ((l.zipIdx 0).foldl (fun cs (x:Value×Nat)=>cs.setIfInBounds (off+x.2) x.1) cs).toList=cs.toList.take off++l++cs.toList.drop (off+l.length):=by
 obtain ⟨h1,h2⟩:=Great.foldl_set off l 0 cs;apply List.ext_getElem?;intro k;rw[Array.getElem?_toList,h2 k];simp only[Nat.add_zero,zy3];by_cases hk:k<off
 ·rw[if_neg (by omega),zx8 (by simp;omega)];simp[hk]
 ·rw[List.getElem?_append_right (by simp;omega)];simp only[zy0,zx6,Nat.min_eq_left (show off≤cs.size by omega)];by_cases hk2:k<off+l.length
  ·rw[if_pos ⟨by omega,by omega,by omega⟩,zx8 (by omega)]
  ·rw[if_neg (by omega),List.getElem?_append_right (by omega)];simp only[List.getElem?_drop,Array.getElem?_toList]
   congr 1
   omega
theorem vu{w:World}{D:aJ}{E:aO}(pl:Nat→Option (Nat×Nat)):∀ (ps:List (Nat×I)) (vs:List (Nat×Value)) (zs zs':List I) (cells:Array Value),
  (∀ i z,zs[i]?=some z→pl i=some (I.sizes (zs.take i),z.size))→aI w D E zs cells.toList→fG zs ps=some zs' →
  dX (fun (p:Nat×I) (v:Nat×Value)=>p.1=v.1∧aQ w D E p.2 v.2) ps vs →
  ∃ cells',Instr.fill pl cells vs=some cells'∧aI w D E zs' cells'.toList
 | [],vs,zs,zs',cells,hp,hr,hs,hf=>by
  cases hf;simp only[fG,v6] at hs;subst hs;exact ⟨cells,rfl,hr⟩
 |(i,y)::ps,vs,zs,zs',cells,hp,hr,hs,hf=>by
  cases hf with
  |cons h1 h2 =>
   rename_i v vs;obtain ⟨j,u⟩:=v;simp only at h1;obtain ⟨rfl,hv⟩:=h1;simp only[fG] at hs;split at hs
   ·rename_i z hz;split at hs
    ·rename_i hsz;obtain ⟨hval,hsz⟩:=hsz;obtain ⟨ds,k1,k2⟩:∃ ds,bd y u ds∧ae w D E y ds:=by
      cases y <;>simp[I.cn] at hval <;>exact hv
     have hcells:=k1.cells k2;have hds:u.cells.size=z.size:=by rw[←zx6,hcells,ae.length _ _ k2,hsz]
     obtain ⟨k3,k4⟩:=aa5 hr hz k2 hsz;have hcl:cells.toList.length=cells.size:=zx6;have hl:ds.length=u.cells.size:=by rw[←hcells,zx6]
     have hp':∀ k z',(zs.set i y)[k]?=some z'→pl k=some (I.sizes ((zs.set i y).take k),z'.size):=by
      intro k z' hk;have hil:i<zs.length:=(zz9.1 hz).1;have hsizes:∀ k,I.sizes ((zs.set i y).take k)=I.sizes (zs.take k):=by
       intro k;have gen:∀ (zs:List I) (i k:Nat) (z:I),zs[i]?=some z→z.size=y.size→I.sizes ((zs.set i y).take k)=I.sizes (zs.take k):=by
        intro zs
        induction zs with
        |nil=>intro i k z hz _;simp at hz
        |cons q qs ih =>
         intro i k z hz he;cases k with
         |zero=>simp
         |succ k =>
          cases i with
          |zero =>
           simp only[List.getElem?_cons_zero,v6] at hz;subst hz;simp[I.sizes,he]
          |succ i =>
           simp only[List.set_cons_succ,List.take_succ_cons,I.sizes,ih i k z (by simpa using hz) he]
       exact gen zs i k z hz hsz.symm
      rw[hsizes];rw[List.getElem?_set] at hk;split at hk
      ·rename_i hik;subst hik;simp only[v6] at hk;subst hk;rw[hp i z hz,hsz]
      ·exact hp k z' hk
     have hfold:=OA (I.sizes (zs.take i)) u.cells.toList cells (by rw[hcells];omega);rw[hcells] at hfold;obtain ⟨cells',k5,k6⟩:=vu pl ps vs (zs.set i y) zs' ((u.cells.toList.zipIdx 0).foldl (fun cs (x:Value×Nat)=>cs.setIfInBounds (I.sizes (zs.take i)+x.2) x.1) cells) hp'
      (by rw[hcells,hfold];exact k4) hs h2
     refine ⟨cells',?_,k6⟩;unfold Instr.fill;simp only[hp i z hz];rw[if_neg (by simp[hds];omega)];rw[←k5]
     congr 1
     rw[←Array.foldl_toList,Array.toList_zipIdx]
    ·cases hs
   ·cases hs
theorem Df{a:Act}{w:World}{D:aJ}{E:aO}(hs:aM c A a w D E){P:Program} : ∀ (ps:List (Nat×Operand)) (qs:List (Nat×aF)),kv P ps=some qs →
  dX (fun (p:Nat×I) (v:Nat×Value)=>p.1=v.1∧aQ w D E p.2 v.2) (qs.map fun p=>(p.1,af A p.2)) (ps.map fun p=>(p.1,a.eval p.2))
 | [],qs,h=>by simp[kv] at h;subst h;exact .nil
 |(i,x)::ps,qs,h=>by
  simp only[kv,List.mapM_cons,Option.bind_eq_bind,Option.pure_def,zw4,t8,v6] at h;obtain ⟨_,⟨y,hy,rfl⟩,qs',hq,rfl⟩:=h;exact .cons ⟨rfl,br hs hy⟩ (Df hs ps qs' hq)
theorem BP{t:TypeId}{parts:Array (Nat×Operand)}{ps:List (Nat×aF)}{zs zs':List I}(ho:o.op=.build t parts)(hz:fx c.P t=some (.agg zs))(hp:kv c.P parts.toList=some ps)
  (hpl:(∃ fs,c.P.underlying t=some (.struct fs)∧(fs.toList.map fun f=>(f.offset,c.P.cellsOf f.type))=kP 0 zs∧(fs.all fun f=>(c.P.info? f.type).isSome)=true) ∨
   (∃ n e,c.P.underlying t=some (.array n e)∧zs.length=n∧(zs.all fun z=>z.size==c.P.cellsOf e)=true∧(c.P.info? e).isSome=true))
  (h:fG zs (ps.map fun p=>(p.1,af A p.2))=some zs'):cN c A o (.agg zs') :=
 .same fun a w D E hs=>by
  obtain ⟨i,z,hi,hzv,hzr⟩:=km hz;have hzr:=hzr w D E;simp only[ae] at hzr;have hparts:=Df hs parts.toList ps hp;have hmap:(parts.map fun (q:Nat×Operand)=>(q.1,a.eval q.2)).toList=parts.toList.map fun p=>(p.1,a.eval p.2):=by simp
  rcases hpl with ⟨fs,hu,hoffs,hinfo⟩ | ⟨n,e,hu,hn,hev,hinfo⟩
  ·have hpl:∀ i z,zs[i]?=some z→(kP 0 zs)[i]?=some (I.sizes (zs.take i),z.size):=by
    intro i z hiz;rw[Dj,hiz];simp
   obtain ⟨cells',k1,k2⟩:=vu ((kP 0 zs)[·]?) _ _ zs zs' z.cells hpl hzr h hparts;have hm:fs.toList.mapM (fun f=>(c.P.info? f.type).map fun i=>(f.offset,i.size))=some (kP 0 zs):=by
    rw[←hoffs];have hall:∀ f∈fs.toList,(c.P.info? f.type).isSome=true:=fun f hf=>by
     have:=(Array.all_eq_true_iff_forall_mem.1 hinfo) f (by simpa using hf);exact this
    revert hall;generalize fs.toList=l;intro hall
    induction l with
    |nil=>rfl
    |cons f l ih =>
     obtain ⟨j,hj⟩:=zy7.1 (hall f (by simp));simp only[List.mapM_cons,Option.bind_eq_bind,hj,zy1,Option.bind_some,ih (fun g hg=>hall g (by simp[hg])),Option.pure_def,zz7,Program.cellsOf,Option.getD_some]
   have hb:c.P.built t (parts.map fun (q:Nat×Operand)=>(q.1,a.eval q.2)).toList=some cells':=by
    unfold Program.built;simp only[hi,hu,hzv,hm];rw[hmap,←k1]
    congr 1
    funext k
    simp
   exact ⟨.agg cells',by simp only[execOp,ho,Sem.run_bind,run_build w t _ _ hb];rfl,by have:=CI k2;simpa using this⟩
  ·obtain ⟨ie,hie⟩:=zy7.1 hinfo;have hev':∀ z∈zs,z.size=ie.size:=fun z hz=>by
    have:=zx3.1 hev z hz;simpa[Program.cellsOf,hie] using this
   have hpl:∀ i z,zs[i]?=some z→(fun i=>some (i*ie.size,ie.size)) i=some (I.sizes (zs.take i),z.size):=by
    intro i z hiz;have hl:i<zs.length:=(zz9.1 hiz).1;rw[nQ zs i hev' (by omega),hev' z (List.mem_of_getElem? hiz)]
   obtain ⟨cells',k1,k2⟩:=vu (fun i=>some (i*ie.size,ie.size)) _ _ zs zs' z.cells hpl hzr h hparts;have hb:c.P.built t (parts.map fun (q:Nat×Operand)=>(q.1,a.eval q.2)).toList=some cells':=by
    unfold Program.built;simp only[hi,hu,hzv,hie];rw[hmap,←k1]
   exact ⟨.agg cells',by simp only[execOp,ho,Sem.run_bind,run_build w t _ _ hb];rfl,by have:=CI k2;simpa using this⟩
theorem kr{a:Act}{w:World}{D:aJ}{E:aO}(hs:aM c A a w D E){P:Program} : ∀ (xs:List Operand) (ts:List TypeId) (ys:List aF),jX P xs ts=some ys →
  dX (aQ w D E) (ys.map (af A)) (xs.map a.eval)
 | [],_,ys,h=>by simp[jX] at h;subst h;exact .nil
 |x::xs,ts,ys,h=>by
  simp only[jX] at h;split at h
  ·rename_i y ys' h1 h2;simp only[v6] at h;subst h;exact .cons (br hs h1) (kr hs xs _ ys' h2)
  ·cases h
theorem kU{w:World}{D:aJ}{E:aO} : ∀ (xs:List I) (vs:List Value),dX (aQ w D E) xs vs→(∀ x∈xs,x.cn=true)→aB w D E xs vs
 | [],vs,h,_=>by cases h;simp[aB]
 |x::xs,vs,h,hv=>by
  cases h with
  |cons h1 h2 =>
   rename_i v vs;have hx:=hv x (by simp);obtain ⟨cs,k1,k2⟩:∃ cs,bd x v cs∧ae w D E x cs:=by
    cases x <;>simp[I.cn] at hx <;>exact h1
   simp only[aB];exact ⟨v,vs,cs,rfl,k1,k2,kU xs vs h2 (fun y hy=>hv y (by simp[hy]))⟩
theorem qe{aE:Bool}{B:ab} : ∀ {xs ys:List I},bL aE B xs=some ys→∀ x∈xs,x.cn=true
 | [],ys,_,x,hx=>by simp at hx
 |y::xs,ys,h,x,hx=>by
  simp only[bL] at h;split at h
  ·rename_i z zs h1 h2;rcases zw5.1 hx with rfl | hx
   ·cases x <;>simp_all[bf,I.cn]
   ·exact qe h2 x hx
  ·cases h
theorem Yc{f:FuncId}(hf:f<1000000){caps:Array Operand}{ys:List aF}(ho:o.op=.makeFunc (.func f) #[] caps)(hc:jX c.P caps.toList []=some ys)(hv:∀ y∈ys,(af A y).cn=true):cN c A o (.func f (ys.map (af A))) :=
 .same fun a w D E hs=>by
  have h:=kU _ _ (kr hs caps.toList [] ys hc) (by simpa using hv);have e:caps.map a.eval=(caps.toList.map a.eval).toArray:=by apply Array.ext';simp
  refine ⟨.func (.func f) #[] (caps.toList.map a.eval).toArray,by simp[execOp,ho,Instr.makeFunc,e],⟨_,by simp[bd,I.isAgg];rfl,?_⟩⟩;simp only[ae];exact ⟨_,by rw[lB hf],h⟩
theorem Ye{f:FuncId}{first:Array Operand}{ys:List aF}(ho:o.op=.makeFunc (.func f) first #[])(hc:jX c.P first.toList []=some ys)(hv:∀ y∈ys,(af A y).cn=true):cN c A o (.func (f+1000000) (ys.map (af A))) :=
 .same fun a w D E hs=>by
  have h:=kU _ _ (kr hs first.toList [] ys hc) (by simpa using hv);have e:first.map a.eval=(first.toList.map a.eval).toArray:=by apply Array.ext';simp
  refine ⟨.func (.func f) (first.toList.map a.eval).toArray #[],by simp[execOp,ho,Instr.makeFunc,e],⟨_,by simp[bd,I.isAgg];rfl,?_⟩⟩;simp only[ae];exact ⟨_,by rw[qg],h⟩
theorem Fh{w:World}{D:aJ}{E:aO} : ∀ (xs:List I) (vs:List Value),aB w D E xs vs→aI w D E xs (vs.flatMap fun v=>v.cells.toList)∧vs.length=xs.length∧∀ (sz:Nat),(∀ x∈xs,x.size=sz)→∀ v∈vs,v.cells.size=sz
 | [],vs,h=>by simp only[aB] at h;subst h;simp[aI]
 |x::xs,vs,h=>by
  simp only[aB] at h;obtain ⟨v,rest,cs,rfl,h1,h2,h3⟩:=h;obtain ⟨k1,k2,k3⟩:=Fh xs rest h3;have hc:=h1.cells h2;refine ⟨?_,by simp[k2],fun sz hsz u hu =>?_⟩
  ·simp only[List.flatMap_cons,aI];exact ⟨_,_,rfl,by rw[hc];exact h2,k1⟩
  ·rcases zw5.1 hu with rfl | hu
   ·rw[←zx6,hc,ae.length _ _ h2,hsz x (by simp)]
   ·exact k3 sz (fun y hy=>hsz y (by simp[hy])) u hu
def mQ(A:ab)(D:aJ)(E:aO):aJ:=fun b o=>D b o∨∃ n T sz es cap,A.o n=some (.bM T sz es)∧E n=some (.rw (some (b,cap)) es.length)∧o<es.length*sz
theorem aM.mR{a:Act}{w:World}{D:aJ}{E:aO}(h:aM c A a w D E):aM c A a w (mQ A D E) E∧gL false A D E (mQ A D E):=by
 have hblk:∀ {n T sz es b cap},A.o n=some (.bM T sz es)→E n=some (.rw (some (b,cap)) es.length)→c.ez b∧b<w.heap.size:=by
  intro n T sz es b cap hn az;obtain ⟨aH,k1,k2,k3⟩:=h.bM hn;rw[az] at k1;simp only[v6,bD.rw.injEq,and_true] at k1;subst k1;obtain ⟨cs,pre,rest,k4,k5,_⟩:=k3;exact ⟨k4,eY k5⟩
 refine ⟨h.F7 (fun _ _ hd=>.inl hd) ?_ ?_ ?_ ?_ ?_ ?_,⟨fun _ _ hd=>.inl hd,fun n T sz es b cap hn az o ho=>.inr ⟨n,T,sz,es,cap,hn,az,ho⟩,(fun hb=>by cases hb),fun hb=>by cases hb⟩⟩
 ·rintro b o (hd | ⟨n,T,sz,es,cap,hn,az,ho⟩) hlt
  ·exact h.cO _ _ hd hlt
  ·exact absurd (hblk hn az).1 hlt
 ·rintro b o (hd | ⟨n,T,sz,es,cap,hn,az,ho⟩)
  ·exact h.cQ _ _ hd
  ·exact (hblk hn az).2
 ·rintro m x b hm hEm o (hd | ⟨n,T,sz,es,cap,hn,az,ho⟩)
  ·obtain ⟨b2,cs2,T2,q1,q2,q3,q4,q5⟩:=h.box hm;rw[q1] at hEm;simp only[v6,bD.aE.injEq,and_true] at hEm;subst hEm;exact q5 o hd
  ·have:=h.cG m n _ _ b hEm az rfl rfl;subst this;rw[hm] at hn;cases hn
 ·rintro m T' sz' es' b cap' hm hEm o (hd | ⟨n,T,sz,es,cap,hn,az,ho⟩)
  ·obtain ⟨aH,q1,q2,q3⟩:=h.bM hm;rw[hEm] at q1;simp only[v6,bD.rw.injEq,and_true] at q1;subst q1;obtain ⟨cs',pre',rest',q4,q5,q6,q7,q8,q9,q10,q11⟩:=q3;have:=q11 o hd
   rwa [aI.length _ _ q7,I.gv _ q2] at this
  ·have:=h.cG m n _ _ b hEm az rfl rfl;subst this;rw[hm] at hn;simp only[v6,ai.bM.injEq] at hn;obtain ⟨rfl,rfl,rfl⟩:=hn;exact ho
 ·rintro m T' xs b cap' hm hEm o (hd | ⟨n,T,sz,es,cap,hn,az,ho⟩)
  ·obtain ⟨aH,q1,_,q3⟩:=h.xH hm;rw[hEm] at q1;simp only[v6,bD.rw.injEq,and_true] at q1;subst q1;obtain ⟨_,_,_,_,_,_,_,_,q4⟩:=q3;exact q4 o hd
  ·have:=h.cG m n _ _ b hEm az rfl rfl;subst this;rw[hm] at hn;cases hn
 ·rintro m e' b hE' hoth hblk o (hd | ⟨n,T,sz,es,cap,hn,az,ho⟩)
  ·exact h.wE hE' hoth hblk o hd
  ·have:=h.cG m n _ _ b hE' az hblk rfl;subst this;rw[hE'] at az;cases az;cases hoth
theorem Dg{a:Act}{w:World}{D:aJ}{E:aO}(hs:aM c A a w D E){P:Program} : ∀ (ps:List (Nat×Operand)) (qs:List (Nat×aF)),kv P ps=some qs →
  dX (aQ w D E) ((qs.map (·.2)).map (af A)) (ps.map fun p=>a.eval p.2)∧qs.map (·.1)=ps.map (·.1)
 | [],qs,h=>by simp[kv] at h;subst h;exact ⟨.nil,rfl⟩
 |(i,x)::ps,qs,h=>by
  simp only[kv,List.mapM_cons,Option.bind_eq_bind,Option.pure_def,zw4,t8,v6] at h;obtain ⟨_,⟨y,hy,rfl⟩,qs',hq,rfl⟩:=h;obtain ⟨h1,h2⟩:=Dg hs ps qs' hq;exact ⟨.cons (br hs hy) h1,by simp[h2]⟩
theorem aM.newRow{a:Act}{w:World}{D:aJ}{E:aO}(h:aM c A a w D E)(o:Obj):aM c A a (w.alloc o) (fun b k=>D b k∨b=w.heap.size) E:=by
 refine h.grow (jB w o) (fun _ _ hd=>.inl hd) ?_ ?_
 ·rintro b k (hd | rfl) hlt
  ·exact hd
  ·omega
 ·rintro b k (hd | rfl)
  ·have:=h.cQ _ _ hd;simp;omega
  ·simp
theorem acD{α:Type}(ps:List (Nat×α))(h:ps.map (·.1)=List.range ps.length):ps=((ps.map (·.2)).zipIdx 0).map fun x=>(x.2,x.1):=by
 apply List.ext_getElem?;intro k;rw[zx2,List.getElem?_zipIdx,zx2];cases hk:ps[k]? with
 |none=>simp
 |some p =>
  have hl:k<ps.length:=(zz9.1 hk).1;have:=congrArg (·[k]?) h;simp only[zx2,hk,zy1,List.getElem?_range hl,v6] at this;simp[←this]
theorem XU{t e:TypeId}{len:Nat}{parts:Array (Nat×Operand)}{ps:List (Nat×aF)}{es:List I}(ho:o.op=.buildSlice t len parts)(hu:c.P.underlying t=some (.slice e))(hp:kv c.P parts.toList=some ps)
  (hr:ps.map (·.1)=List.range len) (h0:0<c.P.cellsOf e) (hlen:0<len) (hsm:len*c.P.cellsOf e≤16777216) (hz:((c.P.info? e).bind (·.zero)).isSome=true)
  (hes:bL false A ((ps.map (·.2)).map (af A))=some es) (hev:∀ x∈es,x.size=c.P.cellsOf e) (hcl:I.b7 es=true):cN c A o (.slice (c.P.cellsOf e) es):=by
 intro a w D E hs;obtain ⟨hfor,hidx⟩:=Dg hs parts.toList ps hp;obtain ⟨hs1,hw⟩:=hs.mR;have hrv:=lA (E':=E) hs (fun _ _ h=>h) hw _ es _ (kU _ _ hfor (qe hes)) hes;obtain ⟨k1,k2,k3⟩:=Fh es _ hrv;have k3:=k3 _ hev;have hl:parts.toList.length=len:=by
  have:=congrArg List.length hidx;rw[hr] at this;simpa using this.symm
 have hesl:es.length=len:=by rw[←k2];simp[hl]
 obtain ⟨z,hz⟩:=zy7.1 hz;obtain ⟨ie,hie,hzz⟩:=zw4.1 hz;have hsz:ie.size=c.P.cellsOf e:=by simp[Program.cellsOf,hie]
 -- the literal's cells
 have hfill:Instr.fill (fun i=>some (i*ie.size,ie.size)) ((Array.range (len*ie.size)).map (z.cells[· % z.cells.size]!)) (parts.map fun (q:Nat×Operand)=>(q.1,a.eval q.2)).toList =
   some ((parts.toList.map fun p=>a.eval p.2).flatMap fun v=>v.cells.toList).toArray:=by
  have hpz:(parts.map fun (q:Nat×Operand)=>(q.1,a.eval q.2)).toList=((parts.toList.map fun p=>a.eval p.2).zipIdx 0).map fun x=>(x.2,x.1):=by
   have:=acD (parts.toList.map fun (q:Nat×Operand)=>(q.1,a.eval q.2)) (by simp only[List.map_map,zz2];rw[hl,←hr,hidx];rfl);rw[Array.toList_map,this,List.map_map];rfl
  rw[hpz,hsz];exact Great.fill_whole h0 _ _ (fun v hv=>k3 v hv) (by simp[hl])
 have hrun:=run_buildSlice (P:=c.P) w t e len (parts.map fun (q:Nat×Operand)=>(q.1,a.eval q.2)) _ ie z hu hie hzz (by rw[hsz];omega) (by rw[hsz];exact Nat.ne_of_gt (Nat.mul_pos hlen h0)) hfill;generalize hcells:((parts.toList.map fun p=>a.eval p.2).flatMap fun v=>v.cells.toList)=cells at *;have hs2:=hs1.newRow (.cells cells.toArray e);refine ⟨_,_,_,by simp only[execOp,ho,Sem.run_bind];rw[hrun];rfl,hs2,tc hesl.symm (zz8 _) ?_ (.inr ⟨w.heap.size,0,cells,rfl,?_,?_⟩) hev⟩
 ·unfold maxLen;have:len≤len*c.P.cellsOf e:=Nat.le_mul_of_pos_right _ h0;omega
 ·intro j v hj;refine ⟨?_,.inr rfl⟩;rw[zz3];have:=World.cell?_alloc_new w cells.toArray e j;rw[this];simpa using hj
 ·refine aI.later ?_ es cells k1;exact da.grow (jB w _) (fun _ _ hd=>.inl hd)
end
mutual
theorem oF:∀ (ty:cm) (x y:I) (r:Bool),bV ty x y=some r→x.size=ty.size∧y.size=ty.size
 | .i k,x,y,r,h=>by
  simp only[bV] at h;split at h
  ·simp[I.size,cm.size]
  ·cases h
 | .b,x,y,r,h=>by
  simp only[bV] at h;split at h
  ·simp[I.size,cm.size]
  ·cases h
 | .s,x,y,r,h=>by
  simp only[bV] at h;split at h
  ·simp[I.size,cm.size]
  ·cases h
 | .aS l,x,y,r,h=>by
  simp only[bV] at h;split at h
  ·simp only[I.size,cm.size];exact AS l _ _ r h
  ·cases h
 | .mj n e,x,y,r,h=>by
  simp only[bV] at h;split at h
  ·rename_i fs gs;split at h
   ·rename_i hl;simp only[I.size,cm.size];have:∀ (fs gs:List I) (r:Bool),fs.length=gs.length→(fs.zip gs).foldr (fun p acc=>ib (bV e p.1 p.2) acc) (some true)=some r→I.sizes fs=fs.length*e.size∧I.sizes gs=fs.length*e.size:=by
     intro fs
     induction fs with
     |nil=>intro gs r hl _;cases gs with | nil=>simp[I.sizes] | cons _ _=>simp at hl
     |cons f fs ih =>
      intro gs r hl h;cases gs with
      |nil=>simp at hl
      |cons g gs =>
       simp only[List.zip_cons_cons,List.foldr_cons] at h;unfold ib at h;split at h
       ·rename_i a b h1 h2;obtain ⟨k1,k2⟩:=ih gs b (by simpa using hl) h2;obtain ⟨k3,k4⟩:=oF e f g a h1;simp only[I.sizes,zw0,k1,k2,k3,k4,Nat.add_mul,Nat.one_mul];omega
       ·cases h
    obtain ⟨k1,k2⟩:=this fs gs r (by omega) h;rw[k1,k2,hl.1];exact ⟨rfl,rfl⟩
   ·cases h
  ·cases h
theorem AS:∀ (l:List cm) (xs ys:List I) (r:Bool),gB l xs ys=some r→I.sizes xs=cm.sizes l∧I.sizes ys=cm.sizes l
 | [],xs,ys,r,h=>by
  simp only[gB] at h;split at h
  ·simp[I.sizes,cm.sizes]
  ·cases h
 |t::ts,xs,ys,r,h=>by
  simp only[gB] at h;split at h
  ·rename_i f fs g gs;unfold ib at h;split at h
   ·rename_i a b h1 h2;obtain ⟨k1,k2⟩:=oF t f g a h1;obtain ⟨k3,k4⟩:=AS ts fs gs b h2;simp only[I.sizes,cm.sizes,k1,k2,k3,k4];exact ⟨trivial,trivial⟩
   ·cases h
  ·cases h
end
section
variable {P:Program} {w:World} {D:aJ} {E:aO}
theorem vh{d:Nat}{t:TypeId}{ty:cm}(h:fW P d t=some ty)(hs:ty.size=P.cellsOf t){x y:I}{r:Bool}(hr:bV ty x y=some r):∃ s,fu P t=some s∧bT s x=true∧bT s y=true:=by
 have hsz:=oF ty x y r hr;cases d with
 |zero=>simp[fW] at h
 |succ d =>
  simp only[fW] at h;split at h
  ·rename_i k hu;simp only[v6] at h;subst h;simp only[bV] at hr;split at hr
   ·exact ⟨none,by simp[fu,hu],by simp[bT,I.isAgg],by simp[bT,I.isAgg]⟩
   ·cases hr
  ·rename_i hu;simp only[v6] at h;subst h;simp only[bV] at hr;split at hr
   ·exact ⟨none,by simp[fu,hu],by simp[bT,I.isAgg],by simp[bT,I.isAgg]⟩
   ·cases hr
  ·rename_i hu;simp only[v6] at h;subst h;simp only[bV] at hr;split at hr
   ·exact ⟨none,by simp[fu,hu],by simp[bT,I.isAgg],by simp[bT,I.isAgg]⟩
   ·cases hr
  ·rename_i fs hu;split at h
   ·simp only[t8] at h;obtain ⟨l,_,rfl⟩:=h;simp only[bV] at hr;split at hr
    ·exact ⟨some (P.cellsOf t),by simp[fu,hu],by simp[bT,I.isAgg,hsz.1,hs],by simp[bT,I.isAgg,hsz.2,hs]⟩
    ·cases hr
   ·cases h
  ·rename_i n e hu;split at h
   ·split at h
    ·simp only[v6] at h;subst h;simp only[bV] at hr;split at hr
     ·exact ⟨some (P.cellsOf t),by simp[fu,hu],by simp[bT,I.isAgg,hsz.1,hs],by simp[bT,I.isAgg,hsz.2,hs]⟩
     ·cases hr
    ·cases h
   ·cases h
  ·cases h
theorem AU{k:Nat}{g:Field→Option cm}(hg:∀ (f:Field) (ty:cm),g f=some ty→ty.size=P.cellsOf f.type∧∃ d,fW P d f.type=some ty ∧
   ∀ (x y:I) (u v:Value) (r:Bool),aQ w D E x u→aQ w D E y v→bV ty x y=some r→(Op.equalIn k f.type u v).run P w=.ok r w) :
  ∀ (fs : List Field) (l : List cm) (xs ys : List I) (r : Bool) (c1 c2 d1 d2 : List Value), fs.mapM g = some l → (∀ f ∈ fs, f.name ≠ "_") → oZ P c1.length fs = true → c1.length = d1.length →
   aI w D E xs c2→aI w D E ys d2→gB l xs ys=some r→(Op.eqFields k (c1++c2).toArray (d1++d2).toArray fs).run P w=.ok r w
 | [],l,xs,ys,r,c1,c2,d1,d2,hm,_,_,_,_,_,h=>by
  simp at hm;subst hm;simp only[gB] at h;split at h
  ·simp only[v6] at h;subst h;simp[Op.eqFields]
  ·cases h
 |f::fs,l,xs,ys,r,c1,c2,d1,d2,hm,hn,ho,hl,hx,hy,h=>by
  simp only[List.mapM_cons,Option.bind_eq_bind,Option.pure_def,zw4,v6] at hm;obtain ⟨ty,hty,tys,htys,rfl⟩:=hm;simp only[gB] at h;split at h
  case h_2=>cases h
  rename_i x xs y ys;unfold ib at h;split at h
  case h_2=>cases h
  rename_i ra rb h1 h2;simp only[v6] at h;subst h;simp only[aI] at hx hy;obtain ⟨e1,e2,rfl,k1,k2⟩:=hx;obtain ⟨f1,f2,rfl,k3,k4⟩:=hy;obtain ⟨hsz,dd,hd,heq⟩:=hg f ty hty;obtain ⟨s,q1,q2,q3⟩:=vh hd hsz h1;obtain ⟨u,p1,p2⟩:=nN (c1:=c1) (c3:=e2) q1 q2 k1;obtain ⟨v,p3,p4⟩:=nN (c1:=d1) (c3:=f2) q1 q3 k3;simp only[oZ,zz0,beq_iff_eq] at ho;have hsx:=oF ty x y ra h1;have hle:e1.length=P.cellsOf f.type:=by rw[ae.length _ _ k1,hsx.1,hsz]
  have hlf:f1.length=P.cellsOf f.type:=by rw[ae.length _ _ k3,hsx.2,hsz]
  have ih:=AU hg fs tys xs ys rb (c1++e1) e2 (d1++f1) f2 htys (fun g hg=>hn g (by simp[hg])) (by simp only[zz1,hle];exact ho.2) (by simp[hl,hle,hlf]) k2 k4 h2;rw[zy3] at p1 p3;rw[zy3,zy3] at ih;rw[←ho.1] at p1;rw[←hl,←ho.1] at p3;simp only[Op.eqFields,hn f (by simp),ne_eq,not_false_eq_true,if_true,Sem.run_bind,p1,Result.andThen_ok,p3,heq x y u v ra p2 p4 h1];cases ra
  ·simp
  ·simpa using ih
theorem AV{d:Nat}{e:TypeId}{ty:cm}{dd:Nat}(hty:fW P dd e=some ty)(hsz:ty.size=P.cellsOf e)
  (heq:∀ (x y:I) (u v:Value) (r:Bool),aQ w D E x u→aQ w D E y v→bV ty x y=some r→(Op.equalIn d e u v).run P w=.ok r w) :
  ∀ (m k:Nat) (xs ys:List I) (c1 c2 d1 d2:List Value) (r:Bool),xs.length=m→ys.length=m→c1.length=k*P.cellsOf e→d1.length=k*P.cellsOf e→aI w D E xs c2→aI w D E ys d2 →
   (xs.zip ys).foldr (fun p acc=>ib (bV ty p.1 p.2) acc) (some true)=some r→(Op.eqItems d e (P.cellsOf e) (c1++c2).toArray (d1++d2).toArray (List.range' k m)).run P w=.ok r w
 |0,k,xs,ys,c1,c2,d1,d2,r,hx,hy,_,_,_,_,h=>by
  have e1:=zw2 hx;subst e1;simp only[List.zip_nil_left,List.foldr_nil,v6] at h;subst h;simp[Op.eqItems]
 |m+1,k,xs,ys,c1,c2,d1,d2,r,hx,hy,hc,hd,hrx,hry,h=>by
  cases xs with
  |nil=>simp at hx
  |cons x xs =>
  cases ys with
  |nil=>simp at hy
  |cons y ys =>
  simp only[List.zip_cons_cons,List.foldr_cons] at h;unfold ib at h;split at h
  case h_2=>cases h
  rename_i ra rb h1 h2;simp only[v6] at h;subst h;simp only[aI] at hrx hry;obtain ⟨e1,e2,rfl,k1,k2⟩:=hrx;obtain ⟨f1,f2,rfl,k3,k4⟩:=hry;obtain ⟨s,q1,q2,q3⟩:=vh hty hsz h1;obtain ⟨u,p1,p2⟩:=nN (c1:=c1) (c3:=e2) q1 q2 k1;obtain ⟨v,p3,p4⟩:=nN (c1:=d1) (c3:=f2) q1 q3 k3;have hsx:=oF ty x y ra h1;have hle:e1.length=P.cellsOf e:=by rw[ae.length _ _ k1,hsx.1,hsz]
  have hlf:f1.length=P.cellsOf e:=by rw[ae.length _ _ k3,hsx.2,hsz]
  have ih:=AV hty hsz heq m (k+1) xs ys (c1++e1) e2 (d1++f1) f2 rb (by simpa using hx) (by simpa using hy) (by simp only[zz1,hle,hc,Nat.add_mul,Nat.one_mul]) (by simp only[zz1,hlf,hd,Nat.add_mul,Nat.one_mul]) k2 k4 h2;rw[zy3] at p1 p3;rw[zy3,zy3] at ih;rw[hc] at p1;rw[hd] at p3;simp only[List.range'_succ,Op.eqItems,Sem.run_bind,p1,Result.andThen_ok,p3,heq x y u v ra p2 p4 h1];cases ra
  ·simp
  ·simpa using ih
theorem sc:∀ (d:Nat) (t:TypeId) (ty:cm),fW P d t=some ty→∀ (x y:I) (u v:Value) (r:Bool),aQ w D E x u→aQ w D E y v→bV ty x y=some r→∀ dep,d≤dep→(Op.equalIn dep t u v).run P w=.ok r w
 |0,t,ty,h,_,_,_,_,_,_,_,_,_,_=>by simp[fW] at h
 |d+1,t,ty,h,x,y,u,v,r,hx,hy,hr,dep,hdep=>by
  obtain ⟨k,rfl⟩:∃ k,dep=k+1:=⟨dep-1,by omega⟩
  simp only[fW] at h;split at h
  ·rename_i kk hu;simp only[v6] at h;subst h;simp only[bV] at hr;split at hr
   ·split at hr
    ·simp only[v6] at hr;subst hr;rw[(dh hx).1,(dh hy).1];rename_i hk;rw[hk.1,hk.2];exact run_equalIn_int w k t kk kk _ _ hu
    ·cases hr
   ·cases hr
  ·rename_i hu;simp only[v6] at h;subst h;simp only[bV] at hr;split at hr
   ·simp only[v6] at hr;subst hr;rw[kR hx,kR hy];exact run_equalIn_bool' w k t _ _ hu
   ·cases hr
  ·rename_i hu;simp only[v6] at h;subst h;simp only[bV] at hr;split at hr
   ·simp only[v6] at hr;subst hr;rw[(gb hx).1,(gb hy).1];exact run_equalIn_string w k t _ _ hu
   ·cases hr
  ·rename_i fs hu;split at h
   ·rename_i hc;simp only[t8] at h;obtain ⟨l,hl,rfl⟩:=h;simp only[bV] at hr;split at hr
    ·obtain ⟨cs,rfl,h1⟩:=iS hx;obtain ⟨ds,rfl,h2⟩:=iS hy;have hf:P.fieldsOf t=fs:=by simp[Program.fieldsOf,hu]
     rw[run_equalIn_struct w k t _ _ (by rw[hf];exact hu) hc.1,hf];refine AU (g:=fun f=>match fW P d f.type with | some ty=>if ty.size=P.cellsOf f.type then some ty else none | none=>none) (fun f ty hg =>?_) fs.toList l _ _ r [] cs [] ds hl (fun f hf =>?_) hc.2.2 rfl h1 h2 hr
     ·split at hg
      ·rename_i ty' hty;split at hg
       ·rename_i hs;simp only[v6] at hg;subst hg;exact ⟨hs,d,hty,fun x y u v r hx hy hr=>sc d f.type _ hty x y u v r hx hy hr k (by omega)⟩
       ·cases hg
      ·cases hg
     ·have:=zx3.1 hc.2.1 f hf;simpa using this
    ·cases hr
   ·cases h
  ·rename_i n e hu;split at h
   ·rename_i ty' hty;split at h
    ·rename_i hc;simp only[v6] at h;subst h;simp only[bV] at hr;split at hr
     ·split at hr
      ·rename_i hl;obtain ⟨cs,rfl,h1⟩:=iS hx;obtain ⟨ds,rfl,h2⟩:=iS hy;obtain ⟨i,hi⟩:=zy7.1 hc.2;rw[run_equalIn_array w k _ _ hu hi,List.range_eq_range'];exact AV hty hc.1 (fun x y u v r hx hy hr=>sc d e _ hty x y u v r hx hy hr k (by omega)) n 0 _ _ [] cs [] ds r hl.1 hl.2 (by simp) (by simp) h1 h2 hr
      ·cases hr
     ·cases hr
    ·cases h
   ·cases h
  ·cases h
end
section
variable {c:ct} {A:ab} {o:Oper} {x:I}
theorem abG{P:Program}{w:World}{D:aJ}{E:aO}(op:BinOp)(t:TypeId)(x y:Operand){a b:I}{ty:cm}{r:Bool}{u v:Value}(hr:bV ty a b=some r)(hx:aQ w D E a u)(hm:P.eqGuardType P.depth t=false) :
  (eqGuard op t x y u v).run P w=.ok () w:=by
 have:u.oneCell'=true∧u≠.nilIface∨∃ cs,u=.agg cs:=by
  cases ty <;>simp only[bV] at hr <;>split at hr <;>first
   |(cases hr;done)
   |(left;rw[(dh hx).1];exact ⟨rfl,by simp⟩)
   |(left;rw[kR hx];exact ⟨rfl,by simp⟩)
   |(left;rw[(gb hx).1];exact ⟨rfl,by simp⟩)
   |(right;obtain ⟨cs,h,_⟩:=iS hx;exact ⟨_,h⟩)
 rcases this with ⟨h1,h2⟩ | ⟨cs,rfl⟩
 ·exact w0 op t x y h1 h2
 ·cases op <;>cases v <;>simp[eqGuard,run_program,hm]
theorem HY{P:Program}{w:World}{D:aJ}{E:aO}{neg:Bool}{t:TypeId}{a b:I}{ty:cm}{r:Bool}{u v:Value}(hr:bV ty a b=some r)(hx:aQ w D E a u)(hy:aQ w D E b v){dt:Nat}(hdt:dt≤10000)(hty:fW P dt t=some ty) :
  (binOp (if neg then .neq else .eql) t u v).run P w=.ok (.bool (if neg then !r else r)) w:=by
 have he:=sc (w:=w) (D:=D) (E:=E) dt t ty hty a b u v r hx hy hr 10000 hdt;cases ty <;>simp only[bV] at hr <;>split at hr <;>first | (cases hr;done) | skip
 ·rw[(dh hx).1,(dh hy).1] at *;split at hr
  ·rename_i hk;simp only[v6] at hr;subst hr;rw[hk.1,hk.2];cases neg <;>simp[binOp,Op.intCmp,bne]
  ·cases hr
 ·have e1:=kR hx;have e2:=kR hy;subst e1 e2;cases neg <;>simp only[binOp,if_true,zz4,if_false] <;>simp[Op.equal,Op.maxDepth,he]
 ·rw[(gb hx).1,(gb hy).1] at *;simp only[v6] at hr;subst hr;cases neg <;>simp[binOp,Op.stringOp]
 ·obtain ⟨cs,rfl,_⟩:=iS hx;obtain ⟨ds,rfl,_⟩:=iS hy;cases neg <;>simp only[if_true,zz4,if_false]
  ·rw[run_eql_struct,he];rfl
  ·rw[run_neq_struct,he];rfl
 ·obtain ⟨cs,rfl,_⟩:=iS hx;obtain ⟨ds,rfl,_⟩:=iS hy;cases neg <;>simp only[if_true,zz4,if_false]
  ·rw[run_eql_struct,he];rfl
  ·rw[run_neq_struct,he];rfl
theorem XZ{neg:Bool}{t yt:TypeId}{y z:Operand}{y' z':aF}{ty:cm}{r:Bool}(ho:o.op=.binOp (if neg then .neq else .eql) t y z yt)(hy:aX c.P 0 y=some y')(hz:aX c.P 0 z=some z')(hg:c.P.eqGuardType c.P.depth t=false)
  (hty:fW c.P 12 t=some ty) (h:bV ty (af A y') (af A z')=some r):cN c A o (.bool (if neg then !r else r)) :=
 .same fun a w D E hs=>by
  have h1:=br hs hy;have h2:=br hs hz;refine ⟨_,?_,kK _⟩;simp only[execOp,ho,Sem.run_bind,abG _ t y z h h1 hg,Result.andThen_ok,HY h h1 h2 (dt:=12) (by omega) hty];rfl
theorem vL{neg:Bool}{t yt e:TypeId}{y z:Operand}{y':aF}{sz:Nat}{r:Bool}(ho:o.op=.binOp (if neg then .neq else .eql) t y z yt)(hu:c.P.underlying t=some (.slice e))(hy:aX c.P 0 y=some y')(hz:aX c.P 0 z=some (.c (.nils sz)))
  (h:(∃ s,af A y'=.nils s∧r=true)∨(∃ s es,af A y'=.slice s es∧es≠[]∧r=false)∨(∃ n p s lo k,af A y'=.view n p s lo k∧r=false)):cN c A o (.bool (if neg then !r else r)) :=
 .same fun a w D E hs=>by
  have h1:=br hs hy;have h2:aQ w D E (.nils sz) (a.eval z):=br hs hz;have hv:a.eval z=.slice none 0 0:=by
   obtain ⟨cs,q1,q2⟩:=h2;simp only[ae] at q2;simpa[bd,I.isAgg,q2] using q1.symm
  have hu':(∃ ad n cp,a.eval y=.slice ad n cp∧r=ad.isNone):=by
   rcases h with ⟨s,h,rfl⟩ | ⟨s,es,h,hne,rfl⟩ | ⟨n,p,s,lo,k,h,rfl⟩
   ·rw[h] at h1;obtain ⟨cs,q1,q2⟩:=h1;simp only[ae] at q2;exact ⟨none,0,0,by simpa[bd,I.isAgg,q2] using q1.symm,rfl⟩
   ·rw[h] at h1;obtain ⟨ad,cap,e1,_,_,e4,_⟩:=kT h1;rcases e4 with e4 | ⟨b,off,cs,rfl,_,_⟩
    ·exact absurd e4 hne
    ·exact ⟨_,_,_,e1,rfl⟩
   ·rw[h] at h1;obtain ⟨cs,q1,q2⟩:=h1;simp only[ae] at q2;obtain ⟨b,aL,off,l,_,_,_,q2,_⟩:=q2;exact ⟨_,_,_,by simpa[bd,I.isAgg,q2] using q1.symm,rfl⟩
  obtain ⟨ad,n,cp,hyv,rfl⟩:=hu';have he:∀ d,(Op.equalIn (d+1) t (.slice ad n cp) (.slice none 0 0)).run c.P w=.ok ad.isNone w:=fun d=>by
   cases ad <;>simp[Op.equalIn,run_underlying hu]
  refine ⟨.bool (if neg then !ad.isNone else ad.isNone),?_,kK _⟩;cases neg <;>simp only[execOp,ho,hyv,hv,if_true,zz4,if_false,Sem.run_bind,eqGuard] <;>simp[binOp,Op.equal,Op.maxDepth,he]
end
def gh(c:ct)(A:ab)(o:Oper)(B:ab):Prop :=
 ∀ a w D E,aM c A a w D E→∃ w',((∃ v,(execOp a.eval o).run c.P w=.ok (.value v) w'∧bG c B (a.put o.dst v) w')∨((execOp a.eval o).run c.P w=.ok .skip w'∧bG c B (a.put o.dst undef) w'))
section
variable {c:ct} {A:ab} {o:Oper} {x:I}
theorem cN.does(h:cN c A o x)(hd:∀ k,o.dst=some k→k<c.n):gh c A o (A.aP o.dst x):=by
 intro a w D E hs;obtain ⟨v,w',D',h1,h2,h3⟩:=h a w D E hs;exact ⟨w',.inl ⟨v,h1,D',E,h2.aP hd h3⟩⟩
theorem Nr{t:TypeId}{z:I}{d:Nat}(ho:o.op=.alloc t)(hz:fx c.P t=some z)(hd:o.dst=some d)(hn:d<c.n)(hf:A.o d=none):gh c A o ((A.aN d (.box z)).put d (.ptr d [])):=by
 intro a w D E hs;obtain ⟨i,zv,hi,hzv,hzr⟩:=km hz;have h1:=hs.qG (T:=t) (.inl hn) hf (hzr w D E);have h2:=h1.put (x:=.ptr d []) (v:=.pointer (some ⟨w.heap.size,0,none⟩)) hn ⟨_,by simp[bd,I.isAgg];rfl,by
  simp only[ae,if_true];exact ⟨w.heap.size,z.aL,0,rfl,by cases z.aL <;>simp[bY.off],rfl⟩⟩
 exact ⟨w.alloc (.cells zv.cells t),.inl ⟨.pointer (some ⟨w.heap.size,0,none⟩),by simp[execOp,ho,Instr.alloc,zeroValue,typeInfo,hi,hzv,newVar,newRow],D,_,by rw[hd];exact h2⟩⟩
theorem Nx{t:TypeId}{y:Operand}{y':aF}{d:Nat}(ho:o.op=.box t y)(hy:aX c.P t y=some y')(hv:(af A y').cn=true)(hd:o.dst=some d)(hn:d<c.n)(hf:A.o d=none) :
  gh c A o ((A.aN d (.box (af A y'))).put d (.ptr d [])):=by
 intro a w D E hs;obtain ⟨cs,k1,k2⟩:∃ cs,bd (af A y') (a.eval y) cs∧ae w D E (af A y') cs:=by
  have h:=br hs hy;generalize af A y'=z at *;cases z <;>simp[I.cn] at hv <;>exact h
 have hc:=k1.cells k2;rw[←hc] at k2;have h1:=hs.qG (T:=t) (.inl hn) hf k2;have h2:=h1.put (x:=.ptr d []) (v:=.pointer (some ⟨w.heap.size,0,none⟩)) hn ⟨_,by simp[bd,I.isAgg];rfl,by
  simp only[ae,if_true];exact ⟨w.heap.size,(af A y').aL,0,rfl,by cases (af A y').aL <;>simp[bY.off],rfl⟩⟩
 exact ⟨w.alloc (.cells (a.eval y).cells t),.inl ⟨.pointer (some ⟨w.heap.size,0,none⟩),by simp[execOp,ho,Instr.box,newVar,newRow],D,_,by rw[hd];exact h2⟩⟩
theorem NH{t:TypeId}{y z:Operand}{y' z':aF}{s:Option Nat}{n:Nat}{p:List Nat}{b old:I}(ho:o.op=.store t y z)(hk:fu c.P t=some s)(hk1:s.isSome=true∨c.P.cellsOf t=1)(hy:aX c.P 0 y=some y')(hz:aX c.P t z=some z')
  (hp:af A y'=.ptr n p) (hb:A.o n=some (.box b)) (hat:b.at p=some old) (hv:(af A z').cn=true) (hok:bT s (af A z')=true) (hsh:(af A z').aL=old.aL) (hd:o.dst=none) :
  gh c A o (A.aN n (.box (b.dm p (af A z')))):=by
 intro a w D E hs;have h1:=br hs hy;rw[hp] at h1;obtain ⟨bb,aL,off,h2,h3,h4⟩:=kS h1;obtain ⟨b',cs,T,k1,k2,k3,k4,k5⟩:=hs.box hb;rw[k1] at h2;simp only[v6,bD.aE.injEq] at h2;obtain ⟨rfl,rfl⟩:=h2;obtain ⟨ds,q1,q2⟩:∃ ds,bd (af A z') (a.eval z) ds∧ae w D E (af A z') ds:=by
  have h:=br hs hz;generalize af A z'=zz at *;cases zz <;>simp[I.cn] at hv <;>exact h
 have hc:=q1.cells q2;obtain ⟨off',p1,p2,p3,p4⟩:=tI p b old _ _ ds k4 hat q2 hsh;rw[h3,v6] at p1;subst p1;have hl:=ae.length _ _ q2;obtain ⟨i,hi⟩:=sQ hk;have hsz:ds.length=c.P.cellsOf t:=by
  cases s with
  |none =>
   simp only[bT,Bool.not_eq_true'] at hok;have:(af A z').size=1:=by generalize af A z'=zz at *;cases zz <;>simp_all[I.isAgg,I.size]
   rw[hl,this];rcases hk1 with h | h
   ·cases h
   ·exact h.symm
  |some m =>
   simp only[bT,zz0,beq_iff_eq] at hok;rw[hl,hok.2,vX hk]
 have hcs:(a.eval z).cells.size=ds.length:=by rw[←hc,zx6]
 have hrun:=tW c.P b' off T ds 0 cs w k3 (by rw[zx6] at p2;omega) (ae.kL _ _ q2);simp only[Nat.add_zero] at hrun;have hs2:=hs.xh (y:=b.dm p (af A z')) (cs':=(cs.toList.take off++ds++cs.toList.drop (off+ds.length)).toArray) hb k1 p4 (by simpa using p3);refine ⟨w.setRow b' (cs.toList.take off++ds++cs.toList.drop (off+ds.length)).toArray,.inr ⟨?_,D,E,?_⟩⟩
 ·have e:(a.eval z).cells.toList=ds:=hc;have hg:¬ (a.eval z).cells.size≠c.P.cellsOf t:=by rw[hcs,hsz];simp
  simp only[execOp,ho,h4,Instr.storeAt,Instr.sureAddr,storeVar,Sem.run_bind,Sem.run_pure,Result.andThen_ok,gG hi,Sem.run_ite,if_neg hg,e,hrun]
 ·rw[hd];exact hs2
end
section
variable {c:ct} {A:ab} {a:Act} {w:World} {D:aJ} {E:aO}
theorem aM.Bi(h:aM c A a w D E){n:Nat}{T:TypeId}{sz cap:Nat}{es ys:List I}{pre news rest:List Value}{cs:Array Value}{aH:Option (Nat×Nat)}(hn:A.o n=some (.bM T sz es))(az:E n=some (.rw aH es.length))(hes:aI w D E es pre)
  (hys:aI w D E ys news) (hysz:∀ e∈ys,e.size=sz) (hne:ys≠[]) (hcs:cs.toList=(pre++news)++rest) (hsize:cs.size=cap*sz) (hlen:es.length+ys.length≤cap) (hcap:cap≤maxLen) :
  aM c (A.aN n (.bM T sz (es++ys))) a (w.drew.alloc (.cells cs T)) D (fun m=>if m=n then some (.rw (some (w.heap.size,cap)) (es.length+ys.length)) else E m):=by
 have hlast:0<ys.length:=List.length_pos_iff.2 hne;have hheap:∀ b,b<w.heap.size→(w.drew.alloc (.cells cs T)).heap[b]?=w.heap[b]?:=fun b hb=>Below.heap_alloc w.drew _ b hb;have hl:da w D E (w.drew.alloc (.cells cs T)) D (fun m=>if m=n then some (.rw (some (w.heap.size,cap)) (es.length+ys.length)) else E m):=by
  have eI:∀ {m:Nat} {e:bD},E m=some e→e.dO=true→(if m=n then some (.rw (some (w.heap.size,cap)) (es.length+ys.length)) else E m)=some e:=fun {m e} he hfx=>by
   have:m≠n:=fun e=>by rw[e,az] at he;cases he;cases hfx
   rw[if_neg this];exact he
  refine ⟨fun _ _ h=>h,fun b o v _ hv =>?_,fun m b aL he=>eI he rfl,fun m blk' l he =>?_,fun m b he=>eI he rfl,fun m b he=>eI he rfl,fun b es ck _ hm=>(hheap b (eY hm)).trans hm⟩
  ·rw[World.cell?_of_block (hheap b (World.block_lt_of_cell? w _ hv))];exact hv
  ·by_cases hm:m=n
   ·subst hm;rw[az] at he;simp only[v6,bD.rw.injEq] at he;exact ⟨_,_,if_pos rfl,by omega,fun e=>by omega⟩
   ·exact ⟨blk',l,by simp only[if_neg hm];exact he,zz8 _,fun _=>rfl⟩
 have hown:=h.bx n;rw[hn] at hown;obtain ⟨blk1,hb1,hb2,_⟩:=hown;refine ⟨h.sz,h.ef.mono fun B _ hB=>(hheap B (zy5.1 hB).1).trans hB,fun t=>aQ.later hl (h.dn t),h.c8.trans ⟨rfl,rfl,rfl,by simp,fun k hk=>hheap k (h.old hk)⟩,h.cO,fun b o hd'=>by have:=h.cQ b o hd';simp;omega,fun m =>?_,?_,fun m e hm =>?_,h.eO,h.cE,h.fh,h.kl hl⟩
 ·simp only[ab.aN];by_cases hm:m=n
  ·subst hm;simp only[if_true,cY];refine ⟨some (w.heap.size,cap),by simp,fun e he =>?_,?_⟩
   ·rcases zw1.1 he with he | he
    ·exact hb2 e he
    ·exact hysz e he
   ·refine ⟨cs,pre++news,rest,.inl h.c8.size,heap_alloc_new w.drew _,hcs,?_,hsize,by simpa using hlen,hcap,fun o ho=>absurd (h.cQ _ o ho) (Nat.lt_irrefl _)⟩;exact aI.later hl _ _ (jq _ _ _ _ hes hys)
  ·simp only[if_neg hm];exact (h.bx m).later hl (by simp only[if_neg hm]) fun e b he hb=>⟨hheap b (h.fy he hb),fun _ ho=>ho⟩
 ·intro m m' e e' b h1 h2 h3 h4;by_cases hm:m=n <;>by_cases hm':m'=n
  ·rw[hm,hm']
  ·simp only[if_pos hm,v6] at h1;simp only[if_neg hm'] at h2;subst h1;simp only[bD.aH,v6] at h3;have:=h.fy h2 h4;omega
  ·simp only[if_neg hm] at h1;simp only[if_pos hm',v6] at h2;subst h2;simp only[bD.aH,v6] at h4;have:=h.fy h1 h3;omega
  ·simp only[if_neg hm] at h1;simp only[if_neg hm'] at h2;exact h.cG m m' e e' b h1 h2 h3 h4
 ·by_cases hmn:m=n
  ·subst hmn;rcases h.df _ _ hm with k | ⟨e',k,hle⟩
   ·rw[az] at k;cases k
   ·rw[az] at k;cases k;exact .inr ⟨_,if_pos rfl,hle.trans (.inr ⟨_,_,_,_,rfl,rfl,by omega,fun e=>by omega⟩)⟩
  ·simp only[if_neg hmn];exact h.df _ _ hm
theorem aM.aav(h:aM c A a w D E){n:Nat}{T:TypeId}{sz b cap:Nat}{es ys:List I}{pre news rest:List Value}{cs:Array Value}(hn:A.o n=some (.bM T sz es))(az:E n=some (.rw (some (b,cap)) es.length))(hb:w.heap[b]?=some (.cells cs T (0,0)))
  (hcs:cs.toList=pre++rest) (hes:aI w D E es pre) (hys:aI w D E ys news) (hysz:∀ e∈ys,e.size=sz) (hne:ys≠[]) (hsize:cs.size=cap*sz) (hlen:es.length+ys.length≤cap) (hcap:cap≤maxLen) (hD:∀ o,D b o→o<pre.length) (hbase:c.ez b) :
  aM c (A.aN n (.bM T sz (es++ys))) a (w.setRow b (pre++news++rest.drop news.length).toArray) D (fun m=>if m=n then some (.rw (some (b,cap)) (es.length+ys.length)) else E m):=by
 have hlast:0<ys.length:=List.length_pos_iff.2 hne;have hown:=h.bx n;rw[hn] at hown;obtain ⟨blk1,hb1,hb2,_⟩:=hown;have hnl:news.length=ys.length*sz:=by rw[aI.length _ _ hys,I.gv _ hysz]
 have hpl:pre.length=es.length*sz:=by rw[aI.length _ _ hes,I.gv _ hb2]
 have hl:da w D E (w.setRow b (pre++news++rest.drop news.length).toArray) D (fun m=>if m=n then some (.rw (some (b,cap)) (es.length+ys.length)) else E m):=by
  have eI:∀ {m:Nat} {e:bD},E m=some e→e.dO=true→(if m=n then some (.rw (some (b,cap)) (es.length+ys.length)) else E m)=some e:=fun {m e} he hfx=>by
   have:m≠n:=fun e=>by rw[e,az] at he;cases he;cases hfx
   rw[if_neg this];exact he
  refine ⟨fun _ _ h=>h,fun b1 o v hd hv =>?_,fun m b aL he=>eI he rfl,fun m blk' l he =>?_,fun m b he=>eI he rfl,fun m b he=>eI he rfl,fun b1 es ck _ hm=>(setRow_other w b b1 _ (fun e=>by rw[e,hb] at hm;cases hm)).trans hm⟩
  ·by_cases hbb:b1=b
   ·subst hbb;have ho:=hD o hd;have h1:=setRow_heap w b1 cs (pre++news++rest.drop news.length).toArray T _ hb;rw[cell_of_row _ b1 o _ T (0,0) h1];rw[cell_of_row _ b1 o _ T (0,0) hb] at hv;have e1:cs[o]?=pre[o]?:=by rw[←Array.getElem?_toList,hcs,zx8 ho]
    rw[←hv,e1];simp only[List.getElem?_toArray,zy3];rw[zx8 ho]
   ·rw[u5 _ _ _ _ hbb];exact hv
  ·by_cases hm:m=n
   ·subst hm;rw[az] at he;simp only[v6,bD.rw.injEq] at he;exact ⟨_,_,if_pos rfl,by omega,fun e=>by omega⟩
   ·exact ⟨blk',l,by simp only[if_neg hm];exact he,zz8 _,fun _=>rfl⟩
 refine ⟨h.sz,h.ef.mono fun B _ hB=>(setRow_other w b B _ (fun e=>by rw[e,hb] at hB;cases hB)).trans hB,fun t=>aQ.later hl (h.dn t),vV h.c8 hbase _,h.cO,fun b1 o hd=>by have:=h.cQ b1 o hd;simpa[World.setRow] using this,fun m =>?_,?_,fun m e hm =>?_,h.eO,h.cE,h.fh,h.kl hl⟩
 ·simp only[ab.aN];by_cases hm:m=n
  ·subst hm;simp only[if_true,cY];refine ⟨some (b,cap),by simp,fun e he =>?_,?_⟩
   ·rcases zw1.1 he with he | he
    ·exact hb2 e he
    ·exact hysz e he
   ·refine ⟨_,pre++news,rest.drop news.length,hbase,setRow_heap w b cs _ T _ hb,by simp,aI.later hl _ _ (jq _ _ _ _ hes hys),?_,by simpa using hlen,hcap,fun o ho =>?_⟩
    ·have e1:cs.size=pre.length+rest.length:=by rw[←zx6,hcs,zz1]
     have e2:news.length+pre.length≤cs.size:=by
      rw[hsize,hnl,hpl,←Nat.add_mul];exact Nat.mul_le_mul_right _ (by omega)
     simp only[List.size_toArray,zz1,zx5];omega
    ·have:=hD o ho;rw[zz1];omega
  ·simp only[if_neg hm];refine (h.bx m).later hl (by simp only[if_neg hm]) fun e b1 he hb'=>⟨setRow_other w b b1 _ (fun e1=>hm (h.cG m n e _ b he az (by rw[hb',e1]) rfl)),fun _ ho=>ho⟩
 ·intro m m' e e' b' h1 h2 h3 h4;by_cases hm:m=n <;>by_cases hm':m'=n
  ·rw[hm,hm']
  ·simp only[if_pos hm,v6] at h1;simp only[if_neg hm'] at h2;subst h1;exact absurd (h.cG m' n e' _ b' h2 az h4 h3) hm'
  ·simp only[if_neg hm] at h1;simp only[if_pos hm',v6] at h2;subst h2;exact absurd (h.cG m n e _ b' h1 az h3 h4) hm
  ·simp only[if_neg hm] at h1;simp only[if_neg hm'] at h2;exact h.cG m m' e e' b' h1 h2 h3 h4
 ·by_cases hmn:m=n
  ·subst hmn;rcases h.df _ _ hm with k | ⟨e',k,hle⟩
   ·rw[az] at k;cases k
   ·rw[az] at k;cases k;exact .inr ⟨_,if_pos rfl,hle.trans (.inr ⟨_,_,_,_,rfl,rfl,by omega,fun e=>by omega⟩)⟩
  ·simp only[if_neg hmn];exact h.df _ _ hm
theorem Ge(n:Nat):(Builtin.zeroCells #[Value.int .i64 0] n).toList=(List.replicate n (0:Int)).map (Value.int .i64):=by
 simp only[Builtin.zeroCells,List.size_toArray,List.length_singleton,Nat.mul_one,Nat.mod_one,List.map_replicate];apply List.ext_getElem?;intro k;simp[List.getElem?_replicate];by_cases h:k<n
 ·rw[if_pos h,List.getElem?_range h];rfl
 ·rw[if_neg h,List.getElem?_eq_none (by simpa using h)];rfl
theorem ES{w:World}{D:aJ}{E:aO} : ∀ {xs:List Int} {cs:List Value},aI w D E (xs.map (I.int .i64)) cs→cs=xs.map (Value.int .i64)∧∀ x∈xs,IntKind.i64.min≤x∧x≤IntKind.i64.max
 | [],cs,h=>by
  simp only[zy9,aI] at h;subst h;exact ⟨rfl,by simp⟩
 |x::xs,cs,h=>by
  simp only[zz7,aI] at h;obtain ⟨c1,c2,rfl,h1,h2⟩:=h;obtain ⟨rfl,h3⟩:=ES h2;have h1':c1=[.int .i64 x]∧IntKind.i64.min≤x∧x≤IntKind.i64.max:=h1;obtain ⟨rfl,h4⟩:=h1';refine ⟨rfl,fun y hy =>?_⟩;rcases zw5.1 hy with rfl | hy
  ·exact h4
  ·exact h3 y hy
theorem aM.Bj(h:aM c A a w D E){n:Nat}{T:TypeId}{cap m':Nat}{es ys:List Int}{cs:Array Value}{aH:Option (Nat×Nat)}(hn:A.o n=some (.dL T es))(az:E n=some (.rw aH es.length))(hr:∀ x∈es++ys,IntKind.i64.min≤x∧x≤IntKind.i64.max)
  (hne:ys≠[]) (hcs:cs.toList=(es++ys++List.replicate m' 0).map (Value.int .i64)) (hlen:es.length+ys.length+m'=cap) (hcap:cap≤maxLen) :
  aM c (A.aN n (.dL T (es++ys))) a (w.drew.alloc (.cells cs T)) D (fun m=>if m=n then some (.rw (some (w.heap.size,cap)) (es.length+ys.length)) else E m):=by
 have hlast:0<ys.length:=List.length_pos_iff.2 hne;have hheap:∀ b,b<w.heap.size→(w.drew.alloc (.cells cs T)).heap[b]?=w.heap[b]?:=fun b hb=>Below.heap_alloc w.drew _ b hb;have hl:da w D E (w.drew.alloc (.cells cs T)) D (fun m=>if m=n then some (.rw (some (w.heap.size,cap)) (es.length+ys.length)) else E m):=by
  have eI:∀ {m:Nat} {e:bD},E m=some e→e.dO=true→(if m=n then some (.rw (some (w.heap.size,cap)) (es.length+ys.length)) else E m)=some e:=fun {m e} he hfx=>by
   have:m≠n:=fun e=>by rw[e,az] at he;cases he;cases hfx
   rw[if_neg this];exact he
  refine ⟨fun _ _ h=>h,fun b o v _ hv =>?_,fun m b aL he=>eI he rfl,fun m blk' l he =>?_,fun m b he=>eI he rfl,fun m b he=>eI he rfl,fun b es ck _ hm=>(hheap b (eY hm)).trans hm⟩
  ·rw[World.cell?_of_block (hheap b (World.block_lt_of_cell? w _ hv))];exact hv
  ·by_cases hm:m=n
   ·subst hm;rw[az] at he;simp only[v6,bD.rw.injEq] at he;exact ⟨_,_,if_pos rfl,by omega,fun e=>by omega⟩
   ·exact ⟨blk',l,by simp only[if_neg hm];exact he,zz8 _,fun _=>rfl⟩
 refine ⟨h.sz,h.ef.mono fun B _ hB=>(hheap B (zy5.1 hB).1).trans hB,fun t=>aQ.later hl (h.dn t),h.c8.trans ⟨rfl,rfl,rfl,by simp,fun k hk=>hheap k (h.old hk)⟩,h.cO,fun b o hd'=>by have:=h.cQ b o hd';simp;omega,fun m =>?_,?_,fun m e hm =>?_,h.eO,h.cE,h.fh,h.kl hl⟩
 ·simp only[ab.aN];by_cases hm:m=n
  ·subst hm;simp only[if_true,cY];exact ⟨some (w.heap.size,cap),by simp,hr,cs,m',.inl h.c8.size,heap_alloc_new w.drew _,hcs,by simp[hne],by simp only[zz1];exact hlen,hcap,fun o ho=>absurd (h.cQ _ o ho) (Nat.lt_irrefl _)⟩
  ·simp only[if_neg hm];exact (h.bx m).later hl (by simp only[if_neg hm]) fun e b he hb=>⟨hheap b (h.fy he hb),fun _ ho=>ho⟩
 ·intro m m' e e' b h1 h2 h3 h4;by_cases hm:m=n <;>by_cases hm':m'=n
  ·rw[hm,hm']
  ·simp only[if_pos hm,v6] at h1;simp only[if_neg hm'] at h2;subst h1;simp only[bD.aH,v6] at h3;have:=h.fy h2 h4;omega
  ·simp only[if_neg hm] at h1;simp only[if_pos hm',v6] at h2;subst h2;simp only[bD.aH,v6] at h4;have:=h.fy h1 h3;omega
  ·simp only[if_neg hm] at h1;simp only[if_neg hm'] at h2;exact h.cG m m' e e' b h1 h2 h3 h4
 ·by_cases hmn:m=n
  ·subst hmn;rcases h.df _ _ hm with k | ⟨e',k,hle⟩
   ·rw[az] at k;cases k
   ·rw[az] at k;cases k;exact .inr ⟨_,if_pos rfl,hle.trans (.inr ⟨_,_,_,_,rfl,rfl,by omega,fun e=>by omega⟩)⟩
  ·simp only[if_neg hmn];exact h.df _ _ hm
theorem aM.aaw(h:aM c A a w D E){n:Nat}{T:TypeId}{b cap m':Nat}{es ys:List Int}{cs:Array Value}(hn:A.o n=some (.dL T es))(az:E n=some (.rw (some (b,cap)) es.length))(hb:w.heap[b]?=some (.cells cs T (0,0)))
  (hr:∀ x∈es++ys,IntKind.i64.min≤x∧x≤IntKind.i64.max) (hne:ys≠[]) (hlen:es.length+ys.length+m'=cap) (hcap:cap≤maxLen) (hD:∀ o,¬ D b o) (hbase:c.ez b) :
  aM c (A.aN n (.dL T (es++ys))) a (w.setRow b ((es++ys++List.replicate m' 0).map (Value.int .i64)).toArray) D (fun m=>if m=n then some (.rw (some (b,cap)) (es.length+ys.length)) else E m):=by
 have hlast:0<ys.length:=List.length_pos_iff.2 hne;have hl:da w D E (w.setRow b ((es++ys++List.replicate m' 0).map (Value.int .i64)).toArray) D (fun m=>if m=n then some (.rw (some (b,cap)) (es.length+ys.length)) else E m):=by
  have eI:∀ {m:Nat} {e:bD},E m=some e→e.dO=true→(if m=n then some (.rw (some (b,cap)) (es.length+ys.length)) else E m)=some e:=fun {m e} he hfx=>by
   have:m≠n:=fun e=>by rw[e,az] at he;cases he;cases hfx
   rw[if_neg this];exact he
  refine ⟨fun _ _ h=>h,fun b1 o v hd hv =>?_,fun m b aL he=>eI he rfl,fun m blk' l he =>?_,fun m b he=>eI he rfl,fun m b he=>eI he rfl,fun b1 es ck _ hm=>(setRow_other w b b1 _ (fun e=>by rw[e,hb] at hm;cases hm)).trans hm⟩
  ·by_cases hbb:b1=b
   ·subst hbb;exact absurd hd (hD o)
   ·rw[u5 _ _ _ _ hbb];exact hv
  ·by_cases hm:m=n
   ·subst hm;rw[az] at he;simp only[v6,bD.rw.injEq] at he;exact ⟨_,_,if_pos rfl,by omega,fun e=>by omega⟩
   ·exact ⟨blk',l,by simp only[if_neg hm];exact he,zz8 _,fun _=>rfl⟩
 refine ⟨h.sz,h.ef.mono fun B _ hB=>(setRow_other w b B _ (fun e=>by rw[e,hb] at hB;cases hB)).trans hB,fun t=>aQ.later hl (h.dn t),vV h.c8 hbase _,h.cO,fun b1 o hd=>by have:=h.cQ b1 o hd;simpa[World.setRow] using this,fun m =>?_,?_,fun m e hm =>?_,h.eO,h.cE,h.fh,h.kl hl⟩
 ·simp only[ab.aN];by_cases hm:m=n
  ·subst hm;simp only[if_true,cY];exact ⟨some (b,cap),by simp,hr,_,m',hbase,setRow_heap w b cs _ T _ hb,by simp,by simp[hne],by simp only[zz1];exact hlen,hcap,hD⟩
  ·simp only[if_neg hm];refine (h.bx m).later hl (by simp only[if_neg hm]) fun e b1 he hb'=>⟨setRow_other w b b1 _ (fun e1=>hm (h.cG m n e _ b he az (by rw[hb',e1]) rfl)),fun _ ho=>ho⟩
 ·intro m m' e e' b' h1 h2 h3 h4;by_cases hm:m=n <;>by_cases hm':m'=n
  ·rw[hm,hm']
  ·simp only[if_pos hm,v6] at h1;simp only[if_neg hm'] at h2;subst h1;exact absurd (h.cG m' n e' _ b' h2 az h4 h3) hm'
  ·simp only[if_neg hm] at h1;simp only[if_pos hm',v6] at h2;subst h2;exact absurd (h.cG m n e _ b' h1 az h3 h4) hm
  ·simp only[if_neg hm] at h1;simp only[if_neg hm'] at h2;exact h.cG m m' e e' b' h1 h2 h3 h4
 ·by_cases hmn:m=n
  ·subst hmn;rcases h.df _ _ hm with k | ⟨e',k,hle⟩
   ·rw[az] at k;cases k
   ·rw[az] at k;cases k;exact .inr ⟨_,if_pos rfl,hle.trans (.inr ⟨_,_,_,_,rfl,rfl,by omega,fun e=>by omega⟩)⟩
  ·simp only[if_neg hmn];exact h.df _ _ hm
end
section
variable {c:ct} {A:ab} {o:Oper}
theorem Nt{t e:TypeId}{s x:Operand}{s' x':aF}{n k sz:Nat}{es ys:List I}{z:I}(ho:o.op=.call { callee:=.builtin .append,args := #[s,x],argTypes := #[t,t] })(ht:c.P.underlying t=some (.slice e))(hs':aX c.P t s=some s')(hx':aX c.P t x=some x')
  (hz:fx c.P e=some z) (hzs:z.size=c.P.cellsOf e) (hpos:0<c.P.cellsOf e) (hs:af A s'=.own n k) (hn:A.o n=some (.bM e (c.P.cellsOf e) es)) (hk:k=es.length) (hx:af A x'=.slice sz ys) (hsz:sz=c.P.cellsOf e) (hne:ys≠[])
  (h63:es.length+ys.length≤maxLen) (hby:(es.length+ys.length)*c.P.bytesOf e≤140737488355328) (hd:∀ k,o.dst=some k→k<c.n) :
  gh c A o ((A.aN n (.bM e (c.P.cellsOf e) (es++ys))).aP o.dst (.own n (es.length+ys.length))):=by
 intro a w D E hsim;obtain ⟨i,zv,hi,hzv,hzr⟩:=km hz;have hci:c.P.cellsOf e=i.size:=by simp[Program.cellsOf,hi]
 have hbi:c.P.bytesOf e=i.bytes:=by simp[Program.bytesOf,hi]
 have hzc:zv.cells.size=i.size:=by
  have:=ae.length _ _ (hzr w D E);rw[zx6] at this;rw[this,hzs,hci]
 subst hk;have v1:=br hsim hs';rw[hs] at v1;have v2:=br hsim hx';rw[hx] at v2;obtain ⟨ad,cp,hxv,hc1,hc2,hc3,hc4⟩:=kT v2;obtain ⟨b2,off2,news,rfl,hr2,hys⟩:=hc3.resolve_left hne;have hobj:=hsim.bx n;rw[hn] at hobj;obtain ⟨aH,az,hesz,hblk⟩:=hobj;have hnl:news.length=ys.length*i.size:=by rw[aI.length _ _ hys,I.gv _ hc4,hsz,hci]
 have hysz:∀ y∈ys,y.size=c.P.cellsOf e:=fun y hy=>by rw[hc4 y hy,hsz]
 have hnews:∀ j v,news[j]?=some v→w.cell? ((⟨b2,off2,none⟩:Addr).add j)=some v:=fun j v hj=>by
  rw[Addr.add_lit];exact (hr2 j v hj).1
 have h1:=aI.kL _ _ hys;have hsv:match aH with | none=>a.eval s=.slice none 0 0 | some (b,cap)=>a.eval s=.slice (some ⟨b,0,none⟩) es.length cap:=by
  obtain ⟨cs,q1,q2⟩:=v1;simp only[ae] at q2;obtain ⟨blk',l,q3,q4,q5,q6⟩:=q2;rw[az] at q3;simp only[v6,bD.rw.injEq] at q3;obtain ⟨rfl,rfl⟩:=q3;have q7:=q6 rfl;simp only[bd,I.isAgg] at q1;cases aH with
  |none=>simp only at q7 ⊢;rw[q7] at q1;simpa using q1.symm
  |some bc=>simp only at q7 ⊢;rw[q7] at q1;simpa using q1.symm
 have hl0:0<ys.length:=List.length_pos_iff.2 hne;have h63':=h63;simp only[maxLen] at h63';have run:∀ v' w',(Builtin.append_ #[t,t] o.type #[a.eval s,.slice (some ⟨b2,off2,none⟩) ys.length cp]).run c.P w=.ok v' w'→(execOp a.eval o).run c.P w=.ok (.value v') w':=by
  intro v' w' hr;unfold execOp;simp only[ho,resolve,invoke,builtin,Sem.run_bind,Sem.run_pure,Result.andThen_ok,List.map_toArray,zz7,zy9,hxv,hr]
 have put:∀ (w':World) (b cap:Nat) (v':Value),v'=.slice (some ⟨b,0,none⟩) (es.length+ys.length) cap→aM c (A.aN n (.bM e (c.P.cellsOf e) (es++ys))) a w' D (fun m=>if m=n then some (.rw (some (b,cap)) (es.length+ys.length)) else E m) →
   bG c ((A.aN n (.bM e (c.P.cellsOf e) (es++ys))).aP o.dst (.own n (es.length+ys.length))) (a.put o.dst v') w':=by
  rintro w' b cap v' rfl hs2;refine ⟨D,_,hs2.aP hd ⟨_,by simp[bd,I.isAgg];rfl,?_⟩⟩;simp only[ae,if_true];exact ⟨some (b,cap),es.length+ys.length,rfl,zz8 _,⟨_,_,_,rfl⟩,fun _=>rfl⟩
 cases aH with
 |none =>
  simp only at hblk hsv;subst hblk;have hr:=run_append_nil (P:=c.P) w t o.type e i zv ht hi hzv ⟨b2,off2,none⟩ ys.length cp news hnl hnews hl0 (by simp at h63';omega) (by rw[hbi] at hby;simp at hby;omega);rw[←hsv] at hr;have hge:=grownCap_ge w ys.length 0 e;refine ⟨_,.inl ⟨_,run _ _ hr,put _ w.heap.size (grownCap w ys.length 0 e) _ (by simp) ?_⟩⟩;refine hsim.Bi (pre:=[]) (news:=news) (rest:=(Builtin.zeroCells zv.cells (grownCap w ys.length 0 e-ys.length)).toList) hn az (by simp[aI]) hys hysz hne (by simp) ?_ (by simpa using hge) (grownCap_le_maxLen w ys.length 0 e (by simpa using h63));simp only[Array.size_append,List.size_toArray,size_zeroCells,hzc,hnl,hci,←Nat.add_mul]
  congr 1
  omega
 |some bc =>
  obtain ⟨b,cap⟩:=bc;simp only at hblk hsv;obtain ⟨cs,pre,rest,k1,k2,k3,k4,k5,k6,k7,k8⟩:=hblk;have hpl:pre.length=es.length*i.size:=by rw[aI.length _ _ k4,I.gv _ hesz,hci]
  by_cases hroom:es.length+ys.length≤cap
  ·have hfit:es.length*i.size+news.length≤cs.size:=by rw[hnl,k5,hci,←Nat.add_mul];exact Nat.mul_le_mul_right _ hroom
   have hr:=run_append_room (P:=c.P) w t o.type e i ht hi b es.length cap cs k2 ⟨b2,off2,none⟩ ys.length cp news hnl hnews h1 hroom hfit;rw[←hsv] at hr;refine ⟨_,.inl ⟨_,run _ _ hr,put _ b cap _ rfl ?_⟩⟩;have e1:cs.toList.take (es.length*i.size)=pre:=by rw[k3,←hpl];exact List.take_left
   have e2:cs.toList.drop (es.length*i.size+news.length)=rest.drop news.length:=by rw[k3,←hpl,←List.drop_drop,List.drop_left]
   rw[e1,e2];exact hsim.aav hn az k2 k3 k4 hys hysz hne k5 hroom k7 k8 k1
  ·have holds:∀ j v,pre[j]?=some v→w.cell? ((⟨b,0,none⟩:Addr).add j)=some v:=fun j v hj=>by
    rw[Addr.add_lit,zz3,cell_of_row w b j cs e (0,0) k2,←Array.getElem?_toList,k3];have:j<pre.length:=(zz9.1 hj).1;rw[zx8 this];exact hj
   have hr:=run_append_grow (P:=c.P) w t o.type e i zv ht hi hzv ⟨b,0,none⟩ es.length cap pre hpl holds ⟨b2,off2,none⟩ ys.length cp news hnl hnews (by omega) (by omega) (growslice_fits (by omega) (by rw[←hbi];exact hby));rw[←hsv] at hr;have hge:=grownCap_ge w (es.length+ys.length) cap e;refine ⟨_,.inl ⟨_,run _ _ hr,put _ w.heap.size (grownCap w (es.length+ys.length) cap e) _ rfl ?_⟩⟩;refine hsim.Bi (pre:=pre) (news:=news) (rest:=(Builtin.zeroCells zv.cells (grownCap w (es.length+ys.length) cap e-(es.length+ys.length))).toList) hn az k4 hys hysz hne (by simp) ?_ hge (grownCap_le_maxLen w _ cap e h63);simp only[Array.size_append,List.size_toArray,size_zeroCells,hzc,hnl,hpl,hci,←Nat.add_mul]
   congr 1
   omega
theorem Nu{t e:TypeId}{s x:Operand}{s' x':aF}{n k sz:Nat}{es ys:List Int}(ho:o.op=.call { callee:=.builtin .append,args := #[s,x],argTypes := #[t,t] })(ht:c.P.underlying t=some (.slice e))(hs':aX c.P t s=some s')(hx':aX c.P t x=some x')
  (hz:fx c.P e=some (.int .i64 0)) (h1c:c.P.cellsOf e=1) (hs:af A s'=.own n k) (hn:A.o n=some (.dL e es)) (hk:k=es.length) (hx:af A x'=.slice sz (ys.map (.int .i64))) (hne:ys≠[])
  (h63:es.length+ys.length≤maxLen) (hby:(es.length+ys.length)*c.P.bytesOf e≤140737488355328) (hd:∀ k,o.dst=some k→k<c.n) :
  gh c A o ((A.aN n (.dL e (es++ys))).aP o.dst (.own n (es.length+ys.length))):=by
 intro a w D E hsim;obtain ⟨i,zv,hi,hzv,hzr⟩:=km hz;have hci:c.P.cellsOf e=i.size:=by simp[Program.cellsOf,hi]
 have hi1:i.size=1:=hci.symm.trans h1c;have hbi:c.P.bytesOf e=i.bytes:=by simp[Program.bytesOf,hi]
 have hzv2:zv.cells = #[Value.int .i64 0]:=by
  have:zv.cells.toList=[Value.int .i64 0]:=(hzr w D E).1;exact Array.toList_inj.1 this
 subst hk;have v1:=br hsim hs';rw[hs] at v1;have v2:=br hsim hx';rw[hx] at v2;obtain ⟨ad,cp,hxv,hc1,hc2,hc3,hc4⟩:=kT v2;obtain ⟨b2,off2,news,rfl,hr2,hys⟩:=hc3.resolve_left (by simpa using hne);rw[zz2] at hxv;obtain ⟨aH,az,hesr,hblk⟩:=hsim.xH hn;obtain ⟨hnw,hyr⟩:=ES hys;have hnl0:news.length=ys.length:=by rw[hnw,zz2]
 have hnl:news.length=ys.length*i.size:=by rw[hi1,Nat.mul_one,hnl0]
 have hrr:∀ x∈es++ys,IntKind.i64.min≤x∧x≤IntKind.i64.max:=fun x hx=>by
  rcases zw1.1 hx with h | h
  ·exact hesr x h
  ·exact hyr x h
 have hnews:∀ j v,news[j]?=some v→w.cell? ((⟨b2,off2,none⟩:Addr).add j)=some v:=fun j v hj=>by
  rw[Addr.add_lit];exact (hr2 j v hj).1
 have h1:=aI.kL _ _ hys;have hsv:match aH with | none=>a.eval s=.slice none 0 0 | some (b,cap)=>a.eval s=.slice (some ⟨b,0,none⟩) es.length cap:=by
  obtain ⟨cs,q1,q2⟩:=v1;simp only[ae] at q2;obtain ⟨blk',l,q3,q4,q5,q6⟩:=q2;rw[az] at q3;simp only[v6,bD.rw.injEq] at q3;obtain ⟨rfl,rfl⟩:=q3;have q7:=q6 rfl;simp only[bd,I.isAgg] at q1;cases aH with
  |none=>simp only at q7 ⊢;rw[q7] at q1;simpa using q1.symm
  |some bc=>simp only at q7 ⊢;rw[q7] at q1;simpa using q1.symm
 have hl0:0<ys.length:=List.length_pos_iff.2 hne;have h63':=h63;simp only[maxLen] at h63';have run:∀ v' w',(Builtin.append_ #[t,t] o.type #[a.eval s,.slice (some ⟨b2,off2,none⟩) ys.length cp]).run c.P w=.ok v' w'→(execOp a.eval o).run c.P w=.ok (.value v') w':=by
  intro v' w' hr;unfold execOp;simp only[ho,resolve,invoke,builtin,Sem.run_bind,Sem.run_pure,Result.andThen_ok,List.map_toArray,zz7,zy9,hxv,hr]
 have put:∀ (w':World) (b cap:Nat) (v':Value),v'=.slice (some ⟨b,0,none⟩) (es.length+ys.length) cap→aM c (A.aN n (.dL e (es++ys))) a w' D (fun m=>if m=n then some (.rw (some (b,cap)) (es.length+ys.length)) else E m) →
   bG c ((A.aN n (.dL e (es++ys))).aP o.dst (.own n (es.length+ys.length))) (a.put o.dst v') w':=by
  rintro w' b cap v' rfl hs2;refine ⟨D,_,hs2.aP hd ⟨_,by simp[bd,I.isAgg];rfl,?_⟩⟩;simp only[ae,if_true];exact ⟨some (b,cap),es.length+ys.length,rfl,zz8 _,⟨_,_,_,rfl⟩,fun _=>rfl⟩
 cases aH with
 |none =>
  simp only at hblk hsv;subst hblk;have hr:=run_append_nil (P:=c.P) w t o.type e i zv ht hi hzv ⟨b2,off2,none⟩ ys.length cp news hnl hnews hl0 (by simp at h63';omega) (by rw[hbi] at hby;simp at hby;omega);rw[←hsv] at hr;have hge:=grownCap_ge w ys.length 0 e;refine ⟨_,.inl ⟨_,run _ _ hr,put _ w.heap.size (grownCap w ys.length 0 e) _ (by simp) ?_⟩⟩;refine hsim.Bj (m':=grownCap w ys.length 0 e-ys.length) hn az hrr hne ?_ (by simp;omega) (grownCap_le_maxLen w ys.length 0 e (by simpa using h63));rw[hzv2];simp only[Array.toList_append,Ge,zy4,zx4,hnw]
 |some bc =>
  obtain ⟨b,cap⟩:=bc;simp only at hblk hsv;obtain ⟨cs,m,k1,k2,k3,k4,k5,k6,k7⟩:=hblk;have hcz:cs.size=cap:=by rw[←zx6,k3];simp;omega
  by_cases hroom:es.length+ys.length≤cap
  ·have hfit:es.length*i.size+news.length≤cs.size:=by rw[hnl,hi1];omega
   have hr:=run_append_room (P:=c.P) w t o.type e i ht hi b es.length cap cs k2 ⟨b2,off2,none⟩ ys.length cp news hnl hnews h1 hroom hfit;rw[←hsv] at hr;refine ⟨_,.inl ⟨_,run _ _ hr,put _ b cap _ rfl ?_⟩⟩;have e0:cs.toList.take (es.length*i.size)++news++cs.toList.drop (es.length*i.size+news.length)=(es++ys++List.replicate (m-ys.length) 0).map (Value.int .i64):=by
    rw[hi1,Nat.mul_one,hnl0,k3,hnw,←List.map_take,←List.map_drop,List.take_left,←List.drop_drop,List.drop_left];simp only[zx4,List.drop_replicate]
   rw[e0];exact hsim.aaw (m':=m-ys.length) hn az k2 hrr hne (by omega) k6 k7 k1
  ·have hpl:(es.map (Value.int .i64)).length=es.length*i.size:=by rw[hi1];simp
   have holds:∀ j v,(es.map (Value.int .i64))[j]?=some v→w.cell? ((⟨b,0,none⟩:Addr).add j)=some v:=fun j v hj=>by
    rw[Addr.add_lit,zz3,cell_of_row w b j cs e (0,0) k2,←Array.getElem?_toList,k3];have:j<(es.map (Value.int .i64)).length:=(zz9.1 hj).1;rw[zx4,zx8 this];exact hj
   have hr:=run_append_grow (P:=c.P) w t o.type e i zv ht hi hzv ⟨b,0,none⟩ es.length cap (es.map (Value.int .i64)) hpl holds ⟨b2,off2,none⟩ ys.length cp news hnl hnews (by omega) (by omega) (growslice_fits (by omega) (by rw[←hbi];exact hby));rw[←hsv] at hr;have hge:=grownCap_ge w (es.length+ys.length) cap e;refine ⟨_,.inl ⟨_,run _ _ hr,put _ w.heap.size (grownCap w (es.length+ys.length) cap e) _ rfl ?_⟩⟩;refine hsim.Bj (m':=grownCap w (es.length+ys.length) cap e-(es.length+ys.length)) hn az hrr hne ?_ (by omega) (grownCap_le_maxLen w _ cap e h63);rw[hzv2];simp only[Array.toList_append,Ge,zx4,hnw]
end
mutual
def I.only(p:Nat→Bool):I→Bool
 | .agg fs | .tuple fs=>I.cB p fs
 | .slice _ es=>I.cB p es
 | .ref x=>x.only p
 | .func _ caps=>I.cB p caps
 | .iface _ v=>v.only p
 | .ptr n _ | .own n _ | .view n _ _ _ _ | .mref n | .cU n=>p n
 | .cu ks vs=>I.cB p ks&&I.cB p vs
 |_=>true
def I.cB(p:Nat→Bool):List I→Bool
 | []=>true
 |x::xs=>x.only p&&I.cB p xs
end
mutual
theorem mL(p:Nat→Bool):∀ x:I,x.bw=true→x.only p=true
 | .agg fs,h=>by simp only[I.bw,I.only] at *;exact kM p fs h
 | .slice _ es,h=>by simp only[I.bw,I.only] at *;exact kM p es h
 | .ref x,h=>by simp only[I.bw,I.only] at *;exact mL p x h
 | .func _ caps,h=>by simp only[I.bw,I.only] at *;exact kM p caps h
 | .iface _ v,h=>by simp only[I.bw,I.only] at *;exact mL p v h
 | .bool _,_ | .int _ _,_ | .ay _,_ | .nilp,_ | .cZ,_ | .cR,_ | .any,_ | .raw _,_ | .nils _,_ | .c0 _,_=>by simp[I.only]
 | .cu ks vs,h=>by simp only[I.bw,I.only,zz0] at *;exact ⟨kM p ks h.1,kM p vs h.2⟩
 | .ptr _ _,h | .own _ _,h | .view _ _ _ _ _,h | .mref _,h | .cU _,h | .undef,h | .cV,h | .tuple _,h=>by simp[I.bw] at h
theorem kM(p:Nat→Bool):∀ xs:List I,I.b7 xs=true→I.cB p xs=true
 | [],_=>rfl
 |x::xs,h=>by
  simp only[I.b7,I.cB,zz0] at *;exact ⟨mL p x h.1,kM p xs h.2⟩
end
mutual
theorem ae.dA{w:World}{D:aJ}{E E':aO}{p:Nat→Bool}(az:∀ n,p n=true→E' n=E n):∀ (x:I) (cs:List Value),x.only p=true→ae w D E x cs→ae w D E' x cs
 | .agg fs,cs,ho,hr=>by simp only[ae,I.only] at *;exact aI.dA az fs cs ho hr
 | .bool b,cs,_,hr=>by simpa only[ae] using hr
 | .int k n,cs,_,hr=>by simpa only[ae] using hr
 | .ay s,cs,_,hr=>by simpa only[ae] using hr
 | .nilp,cs,_,hr=>by simpa only[ae] using hr
 | .cZ,cs,_,hr=>by simpa only[ae] using hr
 | .cR,cs,_,hr | .any,cs,_,hr=>by simpa only[ae] using hr
 | .raw _,cs,_,hr=>by simpa only[ae] using hr
 | .nils _,cs,_,hr=>by simpa only[ae] using hr
 | .c0 _,cs,_,hr=>by simpa only[ae] using hr
 | .slice sz es,cs,ho,hr=>by
  simp only[ae,I.only] at *;obtain ⟨a,cap,h1,h2,h3,h4,h5⟩:=hr;refine ⟨a,cap,h1,h2,h3,?_,h5⟩;rcases h4 with h4 | ⟨b,off,cs',h6,h7,h8⟩
  ·exact .inl h4
  ·exact .inr ⟨b,off,cs',h6,h7,aI.dA az es cs' ho h8⟩
 | .ref x,cs,ho,hr=>by
  simp only[ae,I.only] at *;obtain ⟨b,off,cs',h1,h2,h3⟩:=hr;exact ⟨b,off,cs',h1,h2,ae.dA az x cs' ho h3⟩
 | .func f caps,cs,ho,hr=>by
  simp only[ae,I.only] at *;obtain ⟨vs,h1,h2⟩:=hr;exact ⟨vs,h1,aB.dA az caps vs ho h2⟩
 | .iface t v,cs,ho,hr=>by
  simp only[ae,I.only] at *;obtain ⟨u,cs',h1,h2,h3⟩:=hr;exact ⟨u,cs',h1,h2,ae.dA az v cs' ho h3⟩
 | .ptr n p,cs,ho,hr=>by
  simp only[ae,I.only] at *;obtain ⟨b,aL,off,h1,h2⟩:=hr;exact ⟨b,aL,off,(az n ho).trans h1,h2⟩
 | .own n k,cs,ho,hr=>by
  simp only[ae,I.only] at *;obtain ⟨aH,l,h1,h2⟩:=hr;exact ⟨aH,l,(az n ho).trans h1,h2⟩
 | .view n p _ _ _,cs,ho,hr=>by
  simp only[ae,I.only] at *;obtain ⟨b,aL,off,l,h1,h2⟩:=hr;exact ⟨b,aL,off,l,(az n ho).trans h1,h2⟩
 | .mref n,cs,ho,hr=>by
  simp only[ae,I.only] at *;obtain ⟨b,h1,h2⟩:=hr;exact ⟨b,(az n ho).trans h1,h2⟩
 | .cU n,cs,ho,hr=>by
  simp only[ae,I.only] at *;obtain ⟨b,h1,h2⟩:=hr;exact ⟨b,(az n ho).trans h1,h2⟩
 | .cu ks vs,cs,ho,hr=>by
  simp only[ae,I.only,zz0] at *;obtain ⟨b,es,ck,h1,h2,h3,h4⟩:=hr;exact ⟨b,es,ck,h1,h2,aB.dA az ks _ ho.1 h3,aB.dA az vs _ ho.2 h4⟩
 | .undef,_,_,hr=>by simp only[ae] at hr
 | .cV,_,_,hr=>by simp only[ae] at hr
 | .tuple _,_,_,hr=>by simp only[ae] at hr
theorem aI.dA{w:World}{D:aJ}{E E':aO}{p:Nat→Bool}(az:∀ n,p n=true→E' n=E n):∀ (xs:List I) (cs:List Value),I.cB p xs=true→aI w D E xs cs→aI w D E' xs cs
 | [],cs,_,hr=>by simpa only[aI] using hr
 |x::xs,cs,ho,hr=>by
  simp only[aI,I.cB,zz0] at *;obtain ⟨c1,c2,h1,h2,h3⟩:=hr;exact ⟨c1,c2,h1,ae.dA az x c1 ho.1 h2,aI.dA az xs c2 ho.2 h3⟩
theorem aB.dA{w:World}{D:aJ}{E E':aO}{p:Nat→Bool}(az:∀ n,p n=true→E' n=E n):∀ (xs:List I) (vs:List Value),I.cB p xs=true→aB w D E xs vs→aB w D E' xs vs
 | [],vs,_,hr=>by simpa only[aB] using hr
 |x::xs,vs,ho,hr=>by
  simp only[aB,I.cB,zz0] at *;obtain ⟨v,rest,cs,h1,h2,h3,h4⟩:=hr;exact ⟨v,rest,cs,h1,h2,ae.dA az x cs ho.1 h3,aB.dA az xs rest ho.2 h4⟩
end
theorem aQ.dA{w:World}{D:aJ}{E E':aO}{p:Nat→Bool}(az:∀ n,p n=true→E' n=E n){x:I}{v:Value}(ho:x.only p=true)(hr:aQ w D E x v):aQ w D E' x v:=by
 cases x <;>simp only[aQ] at * <;>first
  |exact hr
  |(obtain ⟨vs,h1,h2⟩:=hr;exact ⟨vs,h1,aB.dA az _ _ (by simpa[I.only] using ho) h2⟩)
  |(obtain ⟨cs,h1,h2⟩:=hr;exact ⟨cs,h1,ae.dA az _ _ ho h2⟩)
def ai.only(p:Nat→Bool):ai→Bool
 | .box x=>x.only p
 | .bM _ _ es=>I.cB p es
 | .cz _=>true
 | .dL _ _=>true
 | .b8 ks vs | .it ks vs _ _=>I.cB p ks&&I.cB p vs
def bo:List (Nat×Nat)→Nat→Nat
 | [],n=>n
 |(a,b)::r,n=>if n=a then b else bo r n
mutual
def I.aR(ρ:Nat→Nat):I→I
 | .agg fs=>.agg (I.cP ρ fs)
 | .tuple fs=>.tuple (I.cP ρ fs)
 | .slice sz es=>.slice sz (I.cP ρ es)
 | .ref x=>.ref (x.aR ρ)
 | .func f caps=>.func f (I.cP ρ caps)
 | .iface t v=>.iface t (v.aR ρ)
 | .ptr n p=>.ptr (ρ n) p
 | .own n k=>.own (ρ n) k
 | .view n p sz lo k=>.view (ρ n) p sz lo k
 | .mref n=>.mref (ρ n)
 | .cU n=>.cU (ρ n)
 | .cu ks vs=>.cu (I.cP ρ ks) (I.cP ρ vs)
 | .undef=>.undef | .cV=>.cV | .bool b=>.bool b | .int k n=>.int k n | .ay s=>.ay s
 | .nilp=>.nilp | .cZ=>.cZ | .cR=>.cR | .any=>.any | .raw u=>.raw u | .nils z=>.nils z | .c0 z=>.c0 z
def I.cP(ρ:Nat→Nat):List I→List I
 | []=>[]
 |x::xs=>x.aR ρ::I.cP ρ xs
end
def ai.aR(ρ:Nat→Nat):ai→ai
 | .box x=>.box (x.aR ρ)
 | .bM T sz es=>.bM T sz (I.cP ρ es)
 | .cz x=>.cz x
 | .dL T xs=>.dL T xs
 | .b8 ks vs=>.b8 (I.cP ρ ks) (I.cP ρ vs)
 | .it ks vs left cur=>.it (I.cP ρ ks) (I.cP ρ vs) left cur
mutual
theorem qT(ρ:Nat→Nat):∀ x:I,(x.aR ρ).size=x.size
 | .agg fs=>by simp only[I.aR,I.size];exact E0 ρ fs
 | .undef | .cV | .bool _ | .int _ _ | .ay _ | .nilp | .cZ | .cR | .any | .raw _ | .nils _ | .c0 _ | .slice _ _ | .tuple _ | .ref _ | .func _ _ | .iface _ _ | .ptr _ _ | .own _ _ | .view _ _ _ _ _ | .mref _ | .cU _ | .cu _ _=>by simp only[I.aR,I.size]
theorem E0(ρ:Nat→Nat):∀ xs:List I,I.sizes (I.cP ρ xs)=I.sizes xs
 | []=>rfl
 |x::xs=>by simp only[I.cP,I.sizes,qT ρ x,E0 ρ xs]
end
mutual
theorem qS(ρ:Nat→Nat):∀ x:I,(x.aR ρ).aL=x.aL
 | .agg fs=>by simp only[I.aR,I.aL,bY.ej.injEq];exact EZ ρ fs
 | .undef | .cV | .bool _ | .int _ _ | .ay _ | .nilp | .cZ | .cR | .any | .raw _ | .nils _ | .c0 _ | .slice _ _ | .tuple _ | .ref _ | .func _ _ | .iface _ _ | .ptr _ _ | .own _ _ | .view _ _ _ _ _ | .mref _ | .cU _ | .cu _ _=>by simp only[I.aR,I.aL]
theorem EZ(ρ:Nat→Nat):∀ xs:List I,I.cI (I.cP ρ xs)=I.cI xs
 | []=>rfl
 |x::xs=>by simp only[I.cP,I.cI,qS ρ x,EZ ρ xs]
end
theorem abh(ρ:Nat→Nat)(x:I):(x.aR ρ).isAgg=x.isAgg:=by cases x <;>simp[I.aR,I.isAgg]
theorem qV(ρ:Nat→Nat)(xs:List I):I.cP ρ xs=xs.map (I.aR ρ):=by
 induction xs with
 |nil=>rfl
 |cons x xs ih=>simp[I.cP,ih]
theorem qU(ρ:Nat→Nat)(xs:List I):(I.cP ρ xs).length=xs.length:=by rw[qV];simp
theorem EY(ρ:Nat→Nat)(x:I)(v:Value)(cs:List Value):bd (x.aR ρ) v cs=bd x v cs:=by simp only[bd,abh]
mutual
/-- A value,its names put for others that stand for the same. -/
theorem ae.aR{w:World}{D:aJ}{E E':aO}{p:Nat→Bool}{ρ:Nat→Nat}(az:∀ n,p n=true→E' (ρ n)=E n):∀ (x:I) (cs:List Value),x.only p=true→(ae w D E' (x.aR ρ) cs↔ae w D E x cs)
 | .agg fs,cs,ho=>by simp only[ae,I.aR,I.only] at *;exact aI.aR az fs cs ho
 | .bool b,cs,_ | .int k n,cs,_ | .ay s,cs,_ | .nilp,cs,_ | .cZ,cs,_ | .cR,cs,_ | .any,cs,_ | .raw _,cs,_ | .nils _,cs,_ | .c0 _,cs,_ | .undef,cs,_ | .cV,cs,_ | .tuple _,cs,_=>by simp only[ae,I.aR]
 | .slice sz es,cs,ho=>by
  simp only[ae,I.aR,I.only,qU] at *;have e1:(I.cP ρ es=[])↔es=[]:=by rw[←List.length_eq_zero_iff,qU,List.length_eq_zero_iff]
  have e2:(∀ e∈I.cP ρ es,e.size=sz)↔∀ e∈es,e.size=sz:=by
   rw[qV];constructor
   ·intro h e he;rw[←qT ρ e];exact h _ (zx1.2 ⟨e,he,rfl⟩)
   ·intro h e he;obtain ⟨e',he',rfl⟩:=zx1.1 he;rw[qT];exact h _ he'
  simp only[e1,e2];constructor
  ·rintro ⟨a,cap,h1,h2,h3,h4,h5⟩;refine ⟨a,cap,h1,h2,h3,?_,h5⟩;rcases h4 with h4 | ⟨b,off,cs',h6,h7,h8⟩
   ·exact .inl h4
   ·exact .inr ⟨b,off,cs',h6,h7,(aI.aR az es cs' ho).1 h8⟩
  ·rintro ⟨a,cap,h1,h2,h3,h4,h5⟩;refine ⟨a,cap,h1,h2,h3,?_,h5⟩;rcases h4 with h4 | ⟨b,off,cs',h6,h7,h8⟩
   ·exact .inl h4
   ·exact .inr ⟨b,off,cs',h6,h7,(aI.aR az es cs' ho).2 h8⟩
 | .ref x,cs,ho=>by
  simp only[ae,I.aR,I.only] at *;constructor
  ·rintro ⟨b,off,cs',h1,h2,h3⟩;exact ⟨b,off,cs',h1,h2,(ae.aR az x cs' ho).1 h3⟩
  ·rintro ⟨b,off,cs',h1,h2,h3⟩;exact ⟨b,off,cs',h1,h2,(ae.aR az x cs' ho).2 h3⟩
 | .func f caps,cs,ho=>by
  simp only[ae,I.aR,I.only] at *;constructor
  ·rintro ⟨vs,h1,h2⟩;exact ⟨vs,h1,(aB.aR az caps vs ho).1 h2⟩
  ·rintro ⟨vs,h1,h2⟩;exact ⟨vs,h1,(aB.aR az caps vs ho).2 h2⟩
 | .iface t v,cs,ho=>by
  simp only[ae,I.aR,I.only,EY] at *;constructor
  ·rintro ⟨u,cs',h1,h2,h3⟩;exact ⟨u,cs',h1,h2,(ae.aR az v cs' ho).1 h3⟩
  ·rintro ⟨u,cs',h1,h2,h3⟩;exact ⟨u,cs',h1,h2,(ae.aR az v cs' ho).2 h3⟩
 | .ptr n p,cs,ho=>by simp only[ae,I.aR,I.only] at *;rw[az n ho]
 | .own n k,cs,ho=>by simp only[ae,I.aR,I.only] at *;rw[az n ho]
 | .view n p _ _ _,cs,ho=>by simp only[ae,I.aR,I.only] at *;rw[az n ho]
 | .mref n,cs,ho=>by simp only[ae,I.aR,I.only] at *;rw[az n ho]
 | .cU n,cs,ho=>by simp only[ae,I.aR,I.only] at *;rw[az n ho]
 | .cu ks vs,cs,ho=>by
  simp only[ae,I.aR,I.only,zz0] at *;constructor
  ·rintro ⟨b,es,ck,h1,h2,h3,h4⟩;exact ⟨b,es,ck,h1,h2,(aB.aR az ks _ ho.1).1 h3,(aB.aR az vs _ ho.2).1 h4⟩
  ·rintro ⟨b,es,ck,h1,h2,h3,h4⟩;exact ⟨b,es,ck,h1,h2,(aB.aR az ks _ ho.1).2 h3,(aB.aR az vs _ ho.2).2 h4⟩
theorem aI.aR{w:World}{D:aJ}{E E':aO}{p:Nat→Bool}{ρ:Nat→Nat}(az:∀ n,p n=true→E' (ρ n)=E n):∀ (xs:List I) (cs:List Value),I.cB p xs=true→(aI w D E' (I.cP ρ xs) cs↔aI w D E xs cs)
 | [],cs,_=>by simp only[aI,I.cP]
 |x::xs,cs,ho=>by
  simp only[aI,I.cP,I.cB,zz0] at *;constructor
  ·rintro ⟨c1,c2,h1,h2,h3⟩;exact ⟨c1,c2,h1,(ae.aR az x c1 ho.1).1 h2,(aI.aR az xs c2 ho.2).1 h3⟩
  ·rintro ⟨c1,c2,h1,h2,h3⟩;exact ⟨c1,c2,h1,(ae.aR az x c1 ho.1).2 h2,(aI.aR az xs c2 ho.2).2 h3⟩
theorem aB.aR{w:World}{D:aJ}{E E':aO}{p:Nat→Bool}{ρ:Nat→Nat}(az:∀ n,p n=true→E' (ρ n)=E n):∀ (xs:List I) (vs:List Value),I.cB p xs=true→(aB w D E' (I.cP ρ xs) vs↔aB w D E xs vs)
 | [],vs,_=>by simp only[aB,I.cP]
 |x::xs,vs,ho=>by
  simp only[aB,I.cP,I.cB,zz0,EY] at *;constructor
  ·rintro ⟨v,rest,cs,h1,h2,h3,h4⟩;exact ⟨v,rest,cs,h1,h2,(ae.aR az x cs ho.1).1 h3,(aB.aR az xs rest ho.2).1 h4⟩
  ·rintro ⟨v,rest,cs,h1,h2,h3,h4⟩;exact ⟨v,rest,cs,h1,h2,(ae.aR az x cs ho.1).2 h3,(aB.aR az xs rest ho.2).2 h4⟩
end
theorem aQ.aR{w:World}{D:aJ}{E E':aO}{p:Nat→Bool}{ρ:Nat→Nat}(az:∀ n,p n=true→E' (ρ n)=E n){x:I}{v:Value}(ho:x.only p=true):aQ w D E' (x.aR ρ) v↔aQ w D E x v:=by
 cases x <;>first
  |(simp only[aQ,I.aR];done)
  |(simp only[aQ,I.aR,I.only] at ho ⊢
    constructor
    ·rintro ⟨vs,h1,h2⟩;exact ⟨vs,h1,(aB.aR az _ _ ho).1 h2⟩
    ·rintro ⟨vs,h1,h2⟩;exact ⟨vs,h1,(aB.aR az _ _ ho).2 h2⟩)
  |(have key:=fun x cs=>ae.aR (w:=w) (D:=D) az x cs
    refine exists_congr fun cs=>and_congr ?_ ?_
    ·first | exact Iff.rfl | simp only[bd,I.aR,I.isAgg]
    ·first | exact key _ cs ho | (have h:=key _ cs ho;simpa only[I.aR] using h))
mutual
/-- Values that read no memory: but they may name objects. -/
def I.cX:I→Bool
 | .agg fs | .tuple fs=>I.jH fs
 | .func _ caps=>I.jH caps
 | .iface _ v=>v.cX
 | .slice _ es=>es.isEmpty
 | .ref _ | .cu _ _=>false
 |_=>true
def I.jH:List I→Bool
 | []=>true
 |x::xs=>x.cX&&I.jH xs
end
def ai.cX:ai→Bool
 | .box x=>x.cX
 | .bM _ _ es=>I.jH es
 | .dL _ _=>true
 | .cz _=>true
 | .b8 ks vs=>I.jH ks&&I.jH vs
 | .it .. =>false
mutual
theorem ae.cX{w w':World}{D D':aJ}{E:aO} : ∀ (x:I) (cs:List Value),x.cX=true→ae w D E x cs→ae w' D' E x cs
 | .agg fs,cs,hf,hr=>by simp only[ae,I.cX] at *;exact aI.cX fs cs hf hr
 | .bool b,cs,_,hr | .int k n,cs,_,hr | .ay s,cs,_,hr | .nilp,cs,_,hr | .cZ,cs,_,hr | .cR,cs,_,hr | .any,cs,_,hr | .raw _,cs,_,hr | .nils _,cs,_,hr | .c0 _,cs,_,hr
 | .ptr _ _,cs,_,hr | .own _ _,cs,_,hr | .view _ _ _ _ _,cs,_,hr | .mref _,cs,_,hr | .cU _,cs,_,hr=>by simpa only[ae] using hr
 | .func f caps,cs,hf,hr=>by
  simp only[ae,I.cX] at *;obtain ⟨vs,h1,h2⟩:=hr;exact ⟨vs,h1,aB.cX caps vs hf h2⟩
 | .iface t v,cs,hf,hr=>by
  simp only[ae,I.cX] at *;obtain ⟨u,cs',h1,h2,h3⟩:=hr;exact ⟨u,cs',h1,h2,ae.cX v cs' hf h3⟩
 | .slice sz es,cs,hf,hr=>by
  simp only[ae,I.cX,List.isEmpty_iff] at *;subst hf;obtain ⟨a,cap,h1,h2,h3,_,h5⟩:=hr;exact ⟨a,cap,h1,h2,h3,.inl rfl,h5⟩
 | .ref _,_,hf,_ | .cu _ _,_,hf,_=>by simp[I.cX] at hf
 | .undef,_,_,hr | .cV,_,_,hr | .tuple _,_,_,hr=>by simp only[ae] at hr
theorem aI.cX{w w':World}{D D':aJ}{E:aO} : ∀ (xs:List I) (cs:List Value),I.jH xs=true→aI w D E xs cs→aI w' D' E xs cs
 | [],cs,_,hr=>by simpa only[aI] using hr
 |x::xs,cs,hf,hr=>by
  simp only[aI,I.jH,zz0] at *;obtain ⟨c1,c2,h1,h2,h3⟩:=hr;exact ⟨c1,c2,h1,ae.cX x c1 hf.1 h2,aI.cX xs c2 hf.2 h3⟩
theorem aB.cX{w w':World}{D D':aJ}{E:aO} : ∀ (xs:List I) (vs:List Value),I.jH xs=true→aB w D E xs vs→aB w' D' E xs vs
 | [],vs,_,hr=>by simpa only[aB] using hr
 |x::xs,vs,hf,hr=>by
  simp only[aB,I.jH,zz0] at *;obtain ⟨v,rest,cs,h1,h2,h3,h4⟩:=hr;exact ⟨v,rest,cs,h1,h2,ae.cX x cs hf.1 h3,aB.cX xs rest hf.2 h4⟩
end
theorem aQ.cX{w w':World}{D D':aJ}{E:aO}{x:I}{v:Value}(hf:x.cX=true)(hr:aQ w D E x v):aQ w' D' E x v:=by
 cases x <;>simp only[aQ] at * <;>first
  |exact hr
  |(obtain ⟨vs,h1,h2⟩:=hr;exact ⟨vs,h1,aB.cX _ _ (by simpa[I.cX] using hf) h2⟩)
  |(obtain ⟨cs,h1,h2⟩:=hr;exact ⟨cs,h1,ae.cX _ _ hf h2⟩)
def cD(ρ:List (Nat×Nat))(os:List (Nat×ai)):List (Nat×ai):=os.map fun q=>(bo ρ q.1,q.2.aR (bo ρ))
def pre(ρ:List (Nat×Nat))(os:List (Nat×ai))(n:Nat):Option Nat:=(os.find? fun q=>bo ρ q.1==n).map (·.1)
theorem vT{os:List (Nat×ai)}{m:Nat} : aw os m=true↔∃ q∈os,q.1=m:=by
 induction os with
 |nil=>simp[aw,aG]
 |cons q os ih =>
  obtain ⟨k,v⟩:=q;simp only[aw,aG] at *;by_cases h:m=k
  ·subst h;simp
  ·simp only[if_neg h,ih,zw5,Prod.exists,exists_and_right,exists_eq_right];constructor
   ·rintro ⟨a,b⟩;exact ⟨a,.inr b⟩
   ·rintro ⟨a,b | b⟩
    ·cases b;exact absurd rfl h
    ·exact ⟨a,b⟩
theorem kd{ρ:List (Nat×Nat)}{os:List (Nat×ai)}{n m:Nat}(h:pre ρ os n=some m):aw os m=true∧bo ρ m=n:=by
 simp only[pre,t8] at h;obtain ⟨q,hq,rfl⟩:=h;exact ⟨vT.2 ⟨q,List.mem_of_find?_eq_some hq,rfl⟩,by simpa using List.find?_some hq⟩
theorem Dk{ρ:List (Nat×Nat)}{os:List (Nat×ai)}{n m:Nat}(h:pre ρ os n=none)(hm:aw os m=true):bo ρ m≠n:=by
 simp only[pre,Option.map_eq_none_iff,List.find?_eq_none] at h;obtain ⟨q,hq,rfl⟩:=vT.1 hm;simpa using h q hq
theorem oU(ρ:List (Nat×Nat))(os os0:List (Nat×ai))(n:Nat):aG (cD ρ os++os0) n=match pre ρ os n with
  |some m=>(aG os m).map (ai.aR (bo ρ))
  |none=>aG os0 n:=by
 induction os with
 |nil=>simp[cD,pre]
 |cons q os ih =>
  obtain ⟨k,v⟩:=q;simp only[cD,zz7,zy2,aG,pre,List.find?_cons] at *;by_cases h:bo ρ k=n
  ·subst h;simp
  ·rw[if_neg (Ne.symm h)];have hb:(bo ρ k==n)=false:=by simpa using h
   rw[hb,ih];simp only;cases hf:os.find? (fun q=>bo ρ q.1==n) with
   |none=>rfl
   |some q =>
    simp only[zy1];have hq:=List.find?_some hf;have hne:q.1≠k:=fun e=>h (by rw[←e];simpa using hq);rw[if_neg hne]
def az(ρ:List (Nat×Nat))(os:List (Nat×ai))(E:aO):aO:=fun n=>if aw os n then E (bo ρ n) else none
structure eF (ρ:List (Nat×Nat)) (os os0:List (Nat×ai)):Prop where
 aV:∀ m x,aG os m=some x→aG os0 (bo ρ m)=some (x.aR (bo ρ))∧x.only (aw os)=true∧x.dO=true
 inj:∀ m m',aw os m=true→aw os m'=true→bo ρ m=bo ρ m'→m=m'
structure dj (aE:Bool) (ρ:List (Nat×Nat)) (os os0:List (Nat×ai)) (r:I) (os':List (Nat×ai)):Prop where
 aV:∀ m x,aG os' m=some x→x.only (aw os')=true∧x.dO=true∧(aE=true→x.cX=true)
 inj:∀ m m',aw os' m=true→aw os' m'=true→bo ρ m=bo ρ m'→m=m'
 old:∀ m,aw os m=true→aw os' m=true
 mG:∀ m,aw os' m=true→aw os m=false→aG os0 (bo ρ m)=none∧bo ρ m<1000000
 wT:r.only (aw os')=true∧(aE=true→r.cX=true)
section
variable {c:ct} {a:Act} {w:World} {D:aJ} {E:aO} {ts:List (Nat×I)} {os0 os:List (Nat×ai)} {ρ:List (Nat×Nat)}
theorem aM.given(hs:aM c (al ts os0) a w D E)(hg:eF ρ os os0){m:Nat}(hm:aw os m=true):∃ x e,aG os m=some x∧az ρ os E m=some e∧E (bo ρ m)=some e∧cY (fun _=>True) w D (az ρ os E) m (some x) ∧
  ∀ b,e.aH=some b→c.ez b∧(∃ o,w.heap[b]?=some o∧tk o=true)∧b<w.heap.size∧(e.dO=true→∀ o,¬ D b o):=by
 cases hx:aG os m with
 |none=>simp[aw,hx] at hm
 |some x =>
  obtain ⟨h1,h2,h3⟩:=hg.aV m x hx;have ho:=hs.bx (bo ρ m);simp only[al] at ho;rw[h1] at ho;have hEm:az ρ os E m=E (bo ρ m):=by simp only[az,hm,if_true]
  have hin:∀ n,aw os n=true→E (bo ρ n)=az ρ os E n:=fun n hn=>by simp only[az,hn,if_true]
  cases x with
  |bM T sz es =>
   obtain ⟨aH,k1,k2,k3⟩:=ho;rw[qU] at k1;have h2':I.cB (aw os) es=true:=h2;have k2':∀ e∈es,e.size=sz:=fun e he=>by rw[←qT (bo ρ) e];exact k2 _ (by rw[qV];exact zx1.2 ⟨e,he,rfl⟩)
   refine ⟨_,_,rfl,hEm.trans k1,k1,⟨aH,hEm.trans k1,k2',?_⟩,fun b hb =>?_⟩
   ·cases aH with
    |none=>simp only[qV,List.map_eq_nil_iff] at k3;exact k3
    |some bc =>
     obtain ⟨b,cap⟩:=bc;obtain ⟨cs,pr,rest,q1,q2,q3,q4,q5,q6,q7,q8⟩:=k3;rw[qU] at q6;exact ⟨cs,pr,rest,trivial,q2,q3,(aI.aR (p:=aw os) hin es _ h2').1 q4,q5,q6,q7,q8⟩
   ·cases aH with
    |none=>cases hb
    |some bc =>
     obtain ⟨b',cap⟩:=bc;cases hb;obtain ⟨cs,pr,rest,q1,q2,_⟩:=k3;exact ⟨q1,⟨_,q2,rfl⟩,eY q2,fun h=>by cases h⟩
  |box y =>
   obtain ⟨b,cs,T,k1,k2,k3,k4,k5⟩:=ho;rw[qS] at k1;refine ⟨_,_,rfl,hEm.trans k1,k1,⟨b,cs,T,hEm.trans k1,trivial,k3.aL (by rw[qS]),?_,k5⟩,fun b' hb =>?_⟩
   ·exact (ae.aR (p:=aw os) hin y _ (by simpa[ai.only] using h2)).1 k4
   ·cases hb;exact ⟨k2,k3.bx,k3.lt,fun _=>k5⟩
  |cz o =>
   obtain ⟨b,k1,k2,k3,k4,k5⟩:=ho;exact ⟨_,_,rfl,hEm.trans k1,k1,⟨b,hEm.trans k1,trivial,k3,k4,k5⟩,fun b' hb=>by cases hb;exact ⟨k2,⟨_,k3,ZB k4⟩,eY k3,fun _=>k5⟩⟩
  |b8 ks vs =>
   obtain ⟨b,es,ck,k1,k2,k3,k4,k5,k6,k7⟩:=ho;simp only[ai.only,zz0] at h2;exact ⟨_,_,rfl,hEm.trans k1,k1,⟨b,es,ck,hEm.trans k1,trivial,k3,k4,(aB.aR (p:=aw os) hin ks _ h2.1).1 k5,(aB.aR (p:=aw os) hin vs _ h2.2).1 k6,k7⟩,
    fun b' hb=>by cases hb;exact ⟨k2,⟨_,k3,rfl⟩,eY k3,fun _=>k7⟩⟩
  |it ks vs left cur=>cases h3
  |dL T xs =>
   obtain ⟨aH,k1,k2,k3⟩:=ho;refine ⟨_,_,rfl,hEm.trans k1,k1,⟨aH,hEm.trans k1,k2,?_⟩,fun b hb =>?_⟩
   ·cases aH with
    |none=>exact k3
    |some bc =>
     obtain ⟨b,cap⟩:=bc;obtain ⟨cs,r,q1,q2⟩:=k3;exact ⟨cs,r,trivial,q2⟩
   ·cases aH with
    |none=>cases hb
    |some bc =>
     obtain ⟨b',cap⟩:=bc;cases hb;obtain ⟨cs,r,q1,q2,_⟩:=k3;exact ⟨q1,⟨_,q2,rfl⟩,eY q2,fun h=>by cases h⟩
theorem aM.sA(hs:aM c (al ts os0) a w D E)(hg:eF ρ os os0){b:Nat}(hb:bU (az ρ os E) b):∃ m e,aw os m=true∧E (bo ρ m)=some e∧e.aH=some b∧c.ez b∧(∃ o,w.heap[b]?=some o∧tk o=true)∧b<w.heap.size:=by
 obtain ⟨m,e,h1,h2⟩:=hb;by_cases hm:aw os m=true
 ·obtain ⟨x,e',k1,k2,k3,k4,k5⟩:=hs.given hg hm;rw[k2,v6] at h1;subst h1;obtain ⟨q1,q2,q3,_⟩:=k5 b h2;exact ⟨m,_,hm,k3,h2,q1,q2,q3⟩
 ·simp[az,hm] at h1
theorem aM.BY(hs:aM c (al ts os0) a w D E)(hg:eF ρ os os0){D1:aJ}(hD:∀ b o,D b o→D1 b o)(hown:∀ b o,D1 b o→bU (az ρ os E) b→D b o):iX (fun _=>True) w D1 (az ρ os E) (aG os):=by
 refine ⟨fun n =>?_,fun n m e e' b h1 h2 h3 h4 =>?_⟩
 ·cases hx:aG os n with
  |none=>simp[cY,az,aw,hx]
  |some x =>
   have hm:aw os n=true:=by simp[aw,hx]
   obtain ⟨y,e,k1,k2,k3,k4,k5⟩:=hs.given hg hm;rw[hx,v6] at k1;subst k1;refine k4.later (E':=az ρ os E) ⟨hD,fun _ _ _ _ h=>h,fun _ _ _ h=>h,fun _ aH l h=>⟨aH,l,h,zz8 _,fun _=>rfl⟩,fun _ _ h=>h,fun _ _ h=>h,fun _ _ _ _ h=>h⟩ rfl fun e' b' he hb'=>⟨rfl,fun o ho =>?_⟩
   exact hown b' o ho ⟨n,e',he,hb'⟩
 ·have hn:aw os n=true:=by
   by_cases h:aw os n=true;· exact h
   ·simp[az,h] at h1
  have hm:aw os m=true:=by
    by_cases h:aw os m=true;· exact h
    ·simp[az,h] at h2
  simp only[az,hn,hm,if_true] at h1 h2;exact hg.inj n m hn hm (hs.cG _ _ e e' b h1 h2 h3 h4)
theorem aM.ln(hs:aM c (al ts os0) a w D E)(hg:eF ρ os os0){aE:Bool}{D1:aJ}(hD:∀ b o,D b o→D1 b o)(hbx:aE=false→∀ b o,D1 b o→D b o){w':World}{D':aJ}{E':aO}{v:Value}{r:I}{os':List (Nat×ai)}
  (hb:dj aE ρ os os0 r os') (hr:aQ w' D' E' r v) (hh:iX (fun b=>w.heap.size≤b∨bU (az ρ os E) b) w' D' E' (aG os')) (hk:eb (fun b=>w.heap.size≤b∨bU (az ρ os E) b) w w')
  (hlive:∀ b o,D' b o→b<w'.heap.size) (hup:∀ b o,D1 b o→D' b o) (hst:fS w D1 w') (hold:∀ b o,D' b o→b<w.heap.size→¬ bU (az ρ os E) b→D1 b o) (hbox:∀ n e,az ρ os E n=some e→aw os' n=true→∃ e',E' n=some e'∧e.fA e') :
  ∃ D2 E2,aM c (al ts (cD ρ os'++os0)) a w' D2 E2∧aQ w' D2 E2 (r.aR (bo ρ)) v∧∀ m e,az ρ os E m=some e→aw os' m=true→∃ e',E2 (bo ρ m)=some e'∧e.fA e':=by
 obtain ⟨M1,hM1⟩:∃ M1:Nat→Prop,M1=fun b=>w.heap.size≤b∨bU (az ρ os E) b:=⟨_,rfl⟩
 rw[←hM1] at hh hk;obtain ⟨D2,hD2⟩:∃ D2:aJ,D2=fun b o=>D b o∨(M1 b∧D' b o):=⟨_,rfl⟩
 obtain ⟨E2,hE2⟩:∃ E2:aO,E2=fun n=>match pre ρ os' n with | some m=>E' m | none=>E n:=⟨_,rfl⟩
 have jk:∀ b,M1 b→c.ez b:=fun b hb'=>by
  rw[hM1] at hb';rcases hb' with h | h
  ·exact .inl (Nat.le_trans hs.c8.size h)
  ·obtain ⟨m,e,_,_,_,h3,_⟩:=hs.sA hg h;exact h3
 have upD:∀ b o,D b o→D' b o:=fun b o hd=>hup b o (hD b o hd);have E2m:∀ m,aw os' m=true→E2 (bo ρ m)=E' m:=fun m hm=>by
  rw[hE2];simp only;cases hp:pre ρ os' (bo ρ m) with
  |none=>exact absurd rfl (Dk hp hm)
  |some m' =>
   obtain ⟨h1,h2⟩:=kd hp;rw[hb.inj m' m h1 hm h2]
 have E2o:∀ n,pre ρ os' n=none→E2 n=E n:=fun n hn=>by rw[hE2];simp only[hn]
 -- a name that has a new meaning: one that was handed over,or one that was free
 have cas:∀ n m,pre ρ os' n=some m→(aw os m=true∧∃ e e',E n=some e∧E' m=some e'∧e.fA e')∨(aw os m=false∧E n=none∧c.cA n=none):=fun n m hp=>by
  obtain ⟨h1,h2⟩:=kd hp;cases hm:aw os m with
  |true =>
   obtain ⟨y,e,k1,k2,k3,_⟩:=hs.given hg hm;rw[h2] at k3;obtain ⟨e',q1,q2⟩:=hbox m e k2 h1;exact .inl ⟨rfl,e,e',k3,q1,q2⟩
  |false =>
   obtain ⟨k1,k2⟩:=hb.mG m h1 hm;rw[h2] at k1 k2;have ho:=hs.bx n;simp only[al,k1] at ho;exact .inr ⟨rfl,ho,hs.jf (.inr k2)⟩
 have hl:da w D E w' D2 E2:=by
  have qx:∀ n e,E n=some e→∃ e',E2 n=some e'∧e.fA e':=fun n e he=>by
   cases hp:pre ρ os' n with
   |none=>exact ⟨e,by rw[E2o n hp];exact he,.refl e⟩
   |some m =>
    rw[hE2];simp only[hp];rcases cas n m hp with ⟨_,e1,e2,k1,k2,k3⟩ | ⟨_,k1,_⟩
    ·rw[he] at k1;cases k1;exact ⟨e2,k2,k3⟩
    ·rw[he] at k1;cases k1
  have keepf:∀ n e,E n=some e→e.dO=true→E2 n=some e:=fun n e he hf=>by
   obtain ⟨e',k1,k2⟩:=qx n e he;rw[k1,k2.eq hf]
  refine ⟨fun b o h=>by rw[hD2];exact .inl h,fun b o v' hd hv=>hst.cell b o v' (hD b o hd) hv,fun n b aL he=>keepf n _ he rfl,fun n aH l he =>?_,fun n b he=>keepf n _ he rfl,fun n b he=>keepf n _ he rfl,fun b es ck hd hm=>hst.iu b es ck (hD b 0 hd) hm⟩;obtain ⟨e',k1,k2⟩:=qx n _ he;rcases k2 with rfl | ⟨_,_,blk',l',e,rfl,k3,k4⟩
  ·exact ⟨aH,l,k1,zz8 _,fun _=>rfl⟩
  ·cases e;exact ⟨blk',l',k1,k3,k4⟩
 -- blocks of names that were not handed over
 have other:∀ n e b,pre ρ os' n=none→E n=some e→e.aH=some b→¬ M1 b:=fun n e b hp he hb' hm=>by
  rw[hM1] at hm;rcases hm with h | h
  ·exact absurd (hs.fy he hb') (by omega)
  ·obtain ⟨m,e',h1,h2,h3,_⟩:=hs.sA hg h;have:=hs.cG n (bo ρ m) e _ b he h2 hb' h3;exact Dk hp (hb.old m h1) this.symm
 have toD2:∀ {x:I} {cs:List Value},(aE=true→x.cX=true)→ae w' D' E2 x cs→ae w' D2 E2 x cs:=fun {x cs} hx h=>by
  cases hbb:aE with
  |true=>exact ae.cX x cs (hx hbb) h
  |false =>
   refine ae.later (E:=E2) ⟨fun b o hd =>?_,fun _ _ _ _ h=>h,fun _ _ _ h=>h,fun _ aH l h=>⟨aH,l,h,zz8 _,fun _=>rfl⟩,fun _ _ h=>h,fun _ _ h=>h,fun _ _ _ _ h=>h⟩ x cs h;rw[hD2];by_cases hm:M1 b
   ·exact .inr ⟨hm,hd⟩
   ·rw[hM1] at hm;exact .inl (hbx hbb b o (hold b o hd (Nat.lt_of_not_le fun h=>hm (.inl h)) fun h=>hm (.inr h)))
 have toD2c:∀ {xs:List I} {cs:List Value},I.cB (aw os') xs=true→(aE=true→I.jH xs=true)→aI w' D' E' xs cs→aI w' D2 E2 (I.cP (bo ρ) xs) cs:=fun {xs cs} ho hx h=>by
  cases hbb:aE with
  |true=>exact (aI.aR (w:=w') (D:=D2) (p:=aw os') (ρ:=bo ρ) (E:=E') (E':=E2) (fun n hn=>E2m n hn) xs cs ho).2 (aI.cX xs cs (hx hbb) h)
  |false =>
   have h2:=(aI.aR (w:=w') (D:=D') (p:=aw os') (ρ:=bo ρ) (E:=E') (E':=E2) (fun n hn=>E2m n hn) xs cs ho).2 h;refine aI.later (E:=E2) ⟨fun b o hd =>?_,fun _ _ _ _ h=>h,fun _ _ _ h=>h,fun _ aH l h=>⟨aH,l,h,zz8 _,fun _=>rfl⟩,fun _ _ h=>h,fun _ _ h=>h,fun _ _ _ _ h=>h⟩ _ cs h2;rw[hD2];by_cases hm:M1 b
   ·exact .inr ⟨hm,hd⟩
   ·rw[hM1] at hm;exact .inl (hbx hbb b o (hold b o hd (Nat.lt_of_not_le fun h=>hm (.inl h)) fun h=>hm (.inr h)))
 have toD2s:∀ {xs:List I} {cs:List Value},I.cB (aw os') xs=true→(aE=true→I.jH xs=true)→aB w' D' E' xs cs→aB w' D2 E2 (I.cP (bo ρ) xs) cs:=fun {xs cs} ho hx h=>by
  cases hbb:aE with
  |true=>exact (aB.aR (w:=w') (D:=D2) (p:=aw os') (ρ:=bo ρ) (E:=E') (E':=E2) (fun n hn=>E2m n hn) xs cs ho).2 (aB.cX xs cs (hx hbb) h)
  |false =>
   have h2:=(aB.aR (w:=w') (D:=D') (p:=aw os') (ρ:=bo ρ) (E:=E') (E':=E2) (fun n hn=>E2m n hn) xs cs ho).2 h;refine aB.later (E:=E2) ⟨fun b o hd =>?_,fun _ _ _ _ h=>h,fun _ _ _ h=>h,fun _ aH l h=>⟨aH,l,h,zz8 _,fun _=>rfl⟩,fun _ _ h=>h,fun _ _ h=>h,fun _ _ _ _ h=>h⟩ _ cs h2;rw[hD2];by_cases hm:M1 b
   ·exact .inr ⟨hm,hd⟩
   ·rw[hM1] at hm;exact .inl (hbx hbb b o (hold b o hd (Nat.lt_of_not_le fun h=>hm (.inl h)) fun h=>hm (.inr h)))
 refine ⟨D2,E2,⟨hs.sz,hs.ef.mono fun B _ hB =>?_,fun t=>aQ.later hl (hs.dn t),hs.c8.trans ⟨hk.os,hk.tape,hk.output,hk.size,fun k hk'=>hk.block k fun h=>hk' (jk k h)⟩,fun b o hd hm =>?_,fun b o hd =>?_,fun n =>?_,?_,fun n e hn =>?_,hs.eO,
  fun b o hd=>hl.cO b o (hs.cE b o hd),hs.fh,hs.kl hl⟩,?_,fun m e k1 k3=>by rw[E2m m k3];exact hbox m e k1 k3⟩
 ·refine (hk.block B fun hm =>?_).trans hB;rw[hM1] at hm;rcases hm with h | h
  ·exact absurd (zy5.1 hB).1 (by omega)
  ·obtain ⟨m,e,_,_,_,_,⟨o,h4,h5⟩,_⟩:=hs.sA hg h;rw[hB] at h4;cases h4;cases h5
 ·rw[hD2] at hd;rcases hd with hd | ⟨h1,_⟩
  ·exact hs.cO b o hd hm
  ·exact absurd (jk b h1) hm
 ·rw[hD2] at hd;rcases hd with hd | ⟨_,h1⟩
  ·exact Nat.lt_of_lt_of_le (hs.cQ b o hd) hk.size
  ·exact hlive b o h1
 ·simp only[al,oU];cases hp:pre ρ os' n with
  |none =>
   simp only;refine (hs.bx n).later hl (E2o n hp) fun e b he hb'=>⟨hk.block b (other n e b hp he hb'),fun o ho =>?_⟩
   rw[hD2] at ho;rcases ho with ho | ⟨h1,_⟩
   ·exact ho
   ·exact absurd h1 (other n e b hp he hb')
  |some m =>
   simp only;obtain ⟨h1,h2⟩:=kd hp;cases hx:aG os' m with
   |none=>simp[aw,hx] at h1
   |some x =>
    obtain ⟨k1,kf,k2⟩:=hb.aV m x hx;have ho:=hh.bx m;rw[hx] at ho;have noD:∀ b,(∀ o,¬ D' b o)→∀ o,¬ D2 b o:=fun b hno o ho=>by
     rw[hD2] at ho;rcases ho with ho | ⟨_,ho⟩
     ·exact hno o (upD b o ho)
     ·exact hno o ho
    cases x with
    |bM T sz es =>
     obtain ⟨aH,q1,q2,q3⟩:=ho;simp only[zy1,ai.aR,cY,qU];refine ⟨aH,by rw[←h2,E2m m h1];exact q1,fun e he =>?_,?_⟩
     ·rw[qV] at he;obtain ⟨e',he',rfl⟩:=zx1.1 he;rw[qT];exact q2 e' he'
     ·cases aH with
      |none=>simp only at q3 ⊢;rw[q3];rfl
      |some bc =>
       obtain ⟨b,cap⟩:=bc;obtain ⟨cs,pr,rest,g1,g2,g3,g4,g5,g6,g7,g8⟩:=q3;refine ⟨cs,pr,rest,jk b g1,g2,g3,toD2c (by simpa[ai.only] using k1) (fun h=>by simpa[ai.cX] using k2 h) g4,g5,g6,g7,fun o ho =>?_⟩;rw[hD2] at ho;rcases ho with ho | ⟨_,ho⟩
       ·exact g8 o (upD b o ho)
       ·exact g8 o ho
    |dL T xs =>
     obtain ⟨aH,q1,q2,q3⟩:=ho;simp only[zy1,ai.aR,cY];refine ⟨aH,by rw[←h2,E2m m h1];exact q1,q2,?_⟩;cases aH with
     |none=>exact q3
     |some bc =>
      obtain ⟨b,cap⟩:=bc;obtain ⟨cs,r,g1,g2,g3,g4,g5,g6,g7⟩:=q3;exact ⟨cs,r,jk b g1,g2,g3,g4,g5,g6,noD b g7⟩
    |cz x =>
     obtain ⟨b,q1,q2,q3,q4,q5⟩:=ho;simp only[zy1,ai.aR,cY];exact ⟨b,by rw[←h2,E2m m h1];exact q1,jk b q2,q3,q4,noD b q5⟩
    |it ks vs left cur=>cases kf
    |b8 ks vs =>
     obtain ⟨b,es,ck,q1,q2,q3,q4,q5,q6,q7⟩:=ho;simp only[zy1,ai.aR,cY];simp only[ai.only,zz0] at k1;simp only[ai.cX,zz0] at k2;exact ⟨b,es,ck,by rw[←h2,E2m m h1];exact q1,jk b q2,q3,q4,toD2s k1.1 (fun h=>(k2 h).1) q5,toD2s k1.2 (fun h=>(k2 h).2) q6,noD b q7⟩
    |box y =>
     obtain ⟨b,cs,T,q1,q2,q3,q4,q5⟩:=ho;simp only[zy1,ai.aR,cY];refine ⟨b,cs,T,by rw[qS,←h2,E2m m h1];exact q1,jk b q2,q3.aL (by rw[qS]),?_,noD b q5⟩;have h3:=(ae.aR (w:=w') (D:=D') (p:=aw os') (ρ:=bo ρ) (E:=E') (E':=E2) (fun n hn=>E2m n hn) y cs.toList (by simpa[ai.only] using k1)).2 q4;cases hbb:aE with
     |true =>
      have h4:ae w' D2 E' y cs.toList:=ae.cX y _ (k2 hbb) q4;exact (ae.aR (w:=w') (D:=D2) (p:=aw os') (ρ:=bo ρ) (E:=E') (E':=E2) (fun n hn=>E2m n hn) y cs.toList (by simpa[ai.only] using k1)).2 h4
     |false=>exact toD2 (fun h=>by rw[hbb] at h;cases h) h3
 ·intro n m e e' b h1 h2 h3 h4;have blk':∀ n m e,pre ρ os' n=some m→E2 n=some e→e.aH=some b→M1 b∧E' m=some e:=fun n m e hp he hb'=>by
   obtain ⟨k1,k2⟩:=kd hp;rw[←k2,E2m m k1] at he;cases hx:aG os' m with
   |none=>simp[aw,hx] at k1
   |some x =>
    obtain ⟨_,kf,_⟩:=hb.aV m x hx;have ho:=hh.bx m;rw[hx] at ho;cases x with
    |bM T sz es =>
     obtain ⟨aH,q1,q2,q3⟩:=ho;rw[q1,v6] at he;subst he;cases aH with
     |none=>cases hb'
     |some bc =>
      obtain ⟨b',cap⟩:=bc;cases hb';obtain ⟨cs,pr,rest,g1,_⟩:=q3;exact ⟨g1,q1⟩
    |it ks vs left cur=>cases kf
    |dL T xs =>
     obtain ⟨aH,q1,q2,q3⟩:=ho;rw[q1,v6] at he;subst he;cases aH with
     |none=>cases hb'
     |some bc =>
      obtain ⟨b',cap⟩:=bc;cases hb';obtain ⟨cs,r,g1,_⟩:=q3;exact ⟨g1,q1⟩
    |b8 ks vs =>
     obtain ⟨b',es,ck,q1,q2,_⟩:=ho;rw[q1,v6] at he;subst he;cases hb';exact ⟨q2,q1⟩
    |cz x =>
     obtain ⟨b',q1,q2,_⟩:=ho;rw[q1,v6] at he;subst he;cases hb';exact ⟨q2,q1⟩
    |box y =>
     obtain ⟨b',cs,T,q1,q2,_⟩:=ho;rw[q1,v6] at he;subst he;cases hb';exact ⟨q2,q1⟩
  cases hn:pre ρ os' n with
  |none =>
   have g1:E n=some e:=by rw[←E2o n hn];exact h1
   cases hm:pre ρ os' m with
   |none=>exact hs.cG n m e e' b g1 (by rw[←E2o m hm];exact h2) h3 h4
   |some m'=>exact absurd (blk' m m' e' hm h2 h4).1 (other n e b hn g1 h3)
  |some n' =>
   have g1:=blk' n n' e hn h1 h3;cases hm:pre ρ os' m with
   |none=>exact absurd g1.1 (other m e' b hm (by rw[←E2o m hm];exact h2) h4)
   |some m' =>
    have g2:=blk' m m' e' hm h2 h4;have:=hh.cG n' m' e e' b g1.2 g2.2 h3 h4;rw[←(kd hn).2,←(kd hm).2,this]
 ·cases hp:pre ρ os' n with
  |none=>rw[E2o n hp];exact hs.df n e hn
  |some m =>
   rcases cas n m hp with ⟨_,e1,e2,k1,k2,k3⟩ | ⟨_,_,k1⟩
   ·rcases hs.df n e hn with h | ⟨e3,h,h'⟩
    ·rw[h] at k1;cases k1
    ·rw[k1,v6] at h;subst h
     right
     rw[hE2];simp only[hp];exact ⟨e2,k2,h'.trans k3⟩
   ·rw[hn] at k1;cases k1
 ·have h3:=(aQ.aR (w:=w') (p:=aw os') (ρ:=bo ρ) (E:=E') (E':=E2) (D:=D') (fun n hn=>E2m n hn) (v:=v) hb.wT.1).2 hr;cases hbb:aE with
  |true=>exact (aQ.aR (w:=w') (p:=aw os') (ρ:=bo ρ) (E:=E') (E':=E2) (D:=D2) (fun n hn=>E2m n hn) (v:=v) hb.wT.1).2 (aQ.cX (hb.wT.2 hbb) hr)
  |false =>
   refine aQ.later (E:=E2) ⟨fun b o hd =>?_,fun _ _ _ _ h=>h,fun _ _ _ h=>h,fun _ aH l h=>⟨aH,l,h,zz8 _,fun _=>rfl⟩,fun _ _ h=>h,fun _ _ h=>h,fun _ _ _ _ h=>h⟩ h3;rw[hD2];by_cases hm:M1 b
   ·exact .inr ⟨hm,hd⟩
   ·rw[hM1] at hm;exact .inl (hbx hbb b o (hold b o hd (Nat.lt_of_not_le fun h=>hm (.inl h)) fun h=>hm (.inr h)))
end
theorem um(z:Array Value):∀ n:Nat,(Builtin.zeroCells z n).toList=(List.replicate n z.toList).flatten
 |0=>by simp[Builtin.zeroCells]
 |n+1=>by
  rw[List.replicate_succ,List.flatten_cons,←um z n];apply List.ext_getElem?;intro i;by_cases hz:z.size=0
  ·have hz':z = #[]:=Array.eq_empty_of_size_eq_zero hz;subst hz';simp[Builtin.zeroCells]
  have hpos:0<z.size:=Nat.pos_of_ne_zero hz;by_cases hi:i<z.toList.length
  ·rw[zx8 hi];have hi':i<z.size:=by simpa using hi
   have h1:i<(n+1)*z.size:=by rw[Nat.succ_mul];omega
   simp only[Builtin.zeroCells,Array.toList_map,Array.toList_range,zx2,List.getElem?_range h1,zy1,Nat.mod_eq_of_lt hi'];simp[hi']
  ·rw[List.getElem?_append_right (by omega)];have hi':z.size≤i:=by simpa using hi
   simp only[Builtin.zeroCells,Array.toList_map,Array.toList_range,zx2,zx6];by_cases h2:i<(n+1)*z.size
   ·have h3:i-z.size<n*z.size:=by rw[Nat.succ_mul] at h2;omega
    rw[List.getElem?_range h2,List.getElem?_range h3];simp only[zy1];rw[←Nat.mod_eq_sub_mod hi']
   ·have h3:¬ i-z.size<n*z.size:=by rw[Nat.succ_mul] at h2;omega
    rw[List.getElem?_eq_none (by simpa using h2),List.getElem?_eq_none (by simpa using h3)]
theorem qP{w:World}{D:aJ}{E:aO}{z:I}{cs:List Value}(h:ae w D E z cs):∀ n:Nat,aI w D E (List.replicate n z) (List.replicate n cs).flatten
 |0=>by simp[aI]
 |n+1=>by
  simp only[List.replicate_succ,List.flatten_cons,aI];exact ⟨cs,_,rfl,h,qP h n⟩
section
variable {c:ct} {A:ab} {a:Act} {w:World} {D:aJ} {E:aO}
theorem aM.view(h:aM c A a w D E){n:Nat}{p:List Nat}{sz lo k:Nat}{v:Value}{fs:List I}(hv:aQ w D E (.view n p sz lo k) v)(hx:b6 A (.ptr n p)=some (.agg fs)) :
  ∃ y b cs T off c1 c2 c3,A.o n=some (.box y)∧E n=some (.aE b y.aL)∧ea w b cs T y.aL∧y.at p=some (.agg fs)∧y.aL.off p=some off∧cs.toList=c1++c2++c3∧c1.length=off∧aI w D E fs c2 ∧
   ae w D E y cs.toList∧(∀ f∈fs,f.size=sz)∧lo+k≤fs.length∧fs.length≤maxLen∧v=.slice (some ⟨b,off+lo*sz,none⟩) k (fs.length-lo):=by
 obtain ⟨z,b',cs',T,off',c1,c2,c3,k1,k2,_,k3,k4,k5,k6,k7,k8,k9,_⟩:=h.at hx;obtain ⟨vs,g1,g2⟩:=hv;simp only[ae] at g2;obtain ⟨b,aL,off,l,h1,h2,h3,h4,h5,h6,h7⟩:=g2;rw[k2] at h1;simp only[v6,bD.aE.injEq] at h1;obtain ⟨rfl,rfl⟩:=h1;rw[k5,v6] at h2;subst h2;rw[lW p z _ k4] at h3;simp only[I.aL,v6,bY.ej.injEq] at h3;subst h3;rw[I.cM,zz2] at h4 h5 h6;refine ⟨z,b',cs',T,off',c1,c2,c3,k1,k2,k3,k4,k5,k6,k7,by simpa only[ae] using k8,k9,FA h7,h6,h5,?_⟩;simpa[bd,I.isAgg,h4] using g1.symm
theorem aM.l8(h:aM c A a w D E){sz:Nat}{x:I}{v:Value}{ys:List I}(hv:aQ w D E x v)(hs:cT A sz x=some ys) :
  ∃ ad cp news,v=.slice ad ys.length cp∧ys.length≤cp∧cp≤maxLen∧aI w D E ys news∧(∀ y∈ys,y.size=sz)∧(ys≠[]→∃ b o,ad=some ⟨b,o,none⟩∧∀ j u,news[j]?=some u→w.cell? ⟨b,o+j,none⟩=some u):=by
 cases x <;>simp only[cT] at hs <;>try (cases hs;done)
 case nils z =>
  simp only[v6] at hs;subst hs;obtain ⟨cs,q1,q2⟩:=hv;simp only[ae] at q2;exact ⟨none,0,[],by simpa[bd,I.isAgg,q2] using q1.symm,by simp,by simp[maxLen],by simp[aI],by simp,fun h=>absurd rfl h⟩
 case c0 z =>
  simp only[v6] at hs;subst hs;obtain ⟨cs,q1,q2⟩:=hv;simp only[ae] at q2;obtain ⟨ad,q2⟩:=q2;exact ⟨ad,0,[],by simpa[bd,I.isAgg,q2] using q1.symm,by simp,by simp[maxLen],by simp[aI],by simp,fun h=>absurd rfl h⟩
 case slice z es =>
  split at hs
  ·rename_i hz;simp only[v6] at hs;subst hs hz;obtain ⟨ad,cap,e1,e2,e3,e4,e5⟩:=kT hv;rcases e4 with rfl | ⟨b,off,cs,rfl,q1,q2⟩
   ·exact ⟨ad,cap,[],e1,e2,e3,by simp[aI],by simp,fun h=>absurd rfl h⟩
   ·exact ⟨_,cap,cs,e1,e2,e3,q2,e5,fun _=>⟨b,off,rfl,fun j u hj=>(q1 j u hj).1⟩⟩
  ·cases hs
 case own n l =>
  split at hs
  ·rename_i T z es hn;split at hs
   ·rename_i hz;obtain ⟨hz1,rfl⟩:=hz;simp only[v6] at hs;subst hs;obtain ⟨aH,k1,k2,k3⟩:=h.bM hn;obtain ⟨cs,q1,q2⟩:=hv;simp only[ae] at q2;obtain ⟨blk',l',g1,g2,_,g4⟩:=q2;rw[k1] at g1;simp only[v6,bD.rw.injEq] at g1;obtain ⟨rfl,rfl⟩:=g1
    replace g4:=g4 hz1
    cases aH with
    |none =>
     simp only at k3 g4;subst k3;have hv':v=.slice none 0 0:=by rw[g4] at q1;simpa[bd,I.isAgg] using q1.symm
     exact ⟨none,0,[],hv',by simp,by simp[maxLen],by simp[aI],by simp,fun h=>absurd rfl h⟩
    |some bc =>
     obtain ⟨b,cap⟩:=bc;simp only at g4;obtain ⟨cs',pre,rest,k4,k5,k6,k7,k8,k9,k10,k11⟩:=k3;refine ⟨some ⟨b,0,none⟩,cap,pre,by rw[←hz1];simpa[bd,I.isAgg,g4] using q1.symm,k9,k10,k7,k2,fun _=>⟨b,0,rfl,fun j u hj =>?_⟩⟩;have:=(tN (D:=fun _ _=>True) (c1:=[]) (c2:=pre) (c3:=rest) k5 (by simpa using k6) (fun _ _=>trivial)) j u hj;simpa using this.1
   ·cases hs
  ·cases hs
 case view n p z lo k =>
  split at hs
  ·rename_i fs hx;split at hs
   ·rename_i hk;obtain ⟨hk,rfl⟩:=hk;simp only[v6] at hs;subst hs;obtain ⟨y,b,cs,T,off,c1,c2,c3,k1,k2,k3,k4,k5,k6,k7,k8,k9,k10,k11,k12,rfl⟩:=h.view hv hx;obtain ⟨d1,d2,d3,rfl,q1,q2,q3⟩:=tL k8 k10 lo k hk;have hlen:((fs.drop lo).take k).length=k:=by rw[zy0,zx5];omega
    refine ⟨some ⟨b,off+lo*z,none⟩,fs.length-lo,d2,by rw[hlen],by rw[hlen];omega,by omega,q2,fun y hy=>k10 y (List.mem_of_mem_drop (List.mem_of_mem_take hy)),fun _=>⟨b,_,rfl,fun j u hj =>?_⟩⟩;have:=(tM (D:=fun _ _=>True) (c1:=c1++d1) (c2:=d2) (c3:=d3++c3) k3 (by rw[k6];simp) (fun _ _=>trivial)) j u hj;rw[zz1,k7,q1] at this;exact this.1
   ·cases hs
  ·cases hs
theorem aM.hE(h:aM c A a w D E){n:Nat}{p:List Nat}{sz j:Nat}{y:I}{fs ys:List I}{b off:Nat}{cs:Array Value}{T:TypeId}{c1 c2 c3 ds:List Value}(hn:A.o n=some (.box y))(az:E n=some (.aE b y.aL))(hb:ea w b cs T y.aL)
  (hat:y.at p=some (.agg fs)) (hoff:y.aL.off p=some off) (hcs:cs.toList=c1++c2++c3) (hc1:c1.length=off) (hfs:aI w D E fs c2) (hy:ae w D E y cs.toList) (hsz:∀ f∈fs,f.size=sz) (hys:aI w D E ys ds) (hj:j+ys.length≤fs.length)
  (hsh:I.cI ys=I.cI ((fs.drop j).take ys.length)) (P:Program) :
  ∃ w',(storeCells ⟨b,off+j*sz,none⟩ ds 0).run P w=.ok () w'∧aM c (A.aN n (.box (y.dm p (.agg (fs.take j++(ys++fs.drop (j+ys.length))))))) a w' D E:=by
 obtain ⟨d1,d2,d3,rfl,q1,q2,q3⟩:=tL hfs hsz j ys.length hj;have hd1:aI w D E (fs.take j) d1:=by
  have e1:fs=fs.take j++fs.drop j:=(List.take_append_drop j fs).symm;rw[e1] at hfs;obtain ⟨e1,e2,he,k1,k2⟩:=tK _ _ _ hfs;have hl:e1.length=d1.length:=by
   rw[aI.length _ _ k1,I.gv _ (fun x hx=>hsz x (List.mem_of_mem_take hx)),q1,zy0];congr 1;omega
  have:e1=d1:=by
   have:=congrArg (List.take d1.length) he;rw[List.take_left,←hl,List.take_left] at this;exact this.symm
  rw[←this];exact k1
 have hlen:ds.length=d2.length:=by rw[aI.length _ _ hys,aI.length _ _ q2,←I.lX,←I.lX,hsh]
 have hds:ae w D E (.agg (fs.take j++(ys++fs.drop (j+ys.length)))) (d1++(ds++d3)):=by
  simp only[ae];refine jq _ _ _ _ hd1 (jq _ _ _ _ hys ?_);rw[List.drop_drop] at q3;exact q3
 have hshape:(I.agg (fs.take j++(ys++fs.drop (j+ys.length)))).aL=(I.agg fs).aL:=by
  simp only[I.aL,bY.ej.injEq,I.cM,zx4];rw[←I.cM ys,hsh,I.cM,←zx4,←zx4]
  congr 1
  rw[←List.drop_drop,List.take_append_drop,List.take_append_drop]
 obtain ⟨off',g1,g2,g3,g4⟩:=tI p y _ _ _ _ hy hat hds hshape;rw[hoff,v6] at g1;subst g1;have hst:=tW P b (off+j*sz) T ds 0 cs w hb (by
  have:cs.size=cs.toList.length:=by simp
  rw[this,hcs];simp only[zz1];omega) (aI.kL _ _ hys)
 simp only[Nat.add_zero] at hst;refine ⟨_,hst,?_⟩;refine h.xh hn az g4 ?_;have e:cs.toList.take (off+j*sz)++ds++cs.toList.drop (off+j*sz+ds.length)=cs.toList.take off++(d1++(ds++d3))++cs.toList.drop (off+(d1++(ds++d3)).length):=by
  rw[hcs];have t1:(c1++(d1++(d2++d3))++c3).take (off+j*sz)=c1++d1:=by
   rw[←hc1,←q1,zy3,List.take_length_add_append,zy3,List.take_left]
  have t2:(c1++(d1++(d2++d3))++c3).drop (off+j*sz+ds.length)=d3++c3:=by
   rw[←hc1,←q1,hlen,zy3,Nat.add_assoc,List.drop_length_add_append,zy3,List.drop_length_add_append,zy3,List.drop_left]
  have t3:(c1++(d1++(d2++d3))++c3).take off=c1:=by rw[←hc1,zy3,List.take_left]
  have t4:(c1++(d1++(d2++d3))++c3).drop (off+(d1++(ds++d3)).length)=c3:=by
   have:(d1++(ds++d3)).length=(d1++(d2++d3)).length:=by simp[hlen]
   rw[this,←hc1,zy3,List.drop_length_add_append,List.drop_left]
  rw[t1,t2,t3,t4];simp
 rw[e];simpa using g3
end
end Go.Abs
