/-
  A part of the proof that the law RollTexts returns true for every input; five variables of Go's library start as the text lays them (the card ties them); conditions: none beyond the statement's own. (part 1 of 6)
-/
import Derived.WalkKit
import Derived.Orders
import Derived.Still
import Derived.RangeFuncSeq
import Derived.RangeFuncLeaves
import Derived.RangeFuncOwn
import Derived.Great.FillDense
import Derived.Great.BuildSlice
import Derived.Laws.CopyRow
import Derived.ChangeKeysEq
import Derived.Laws.AppendOwn
set_option linter.unusedSimpArgs false
set_option linter.unusedVariables false
set_option maxHeartbeats 16000000
set_option maxRecDepth 100000
namespace Go
theorem y6:type_of% @And.intro:=@And.intro
theorem v6:type_of% @Option.some.injEq:=@Option.some.injEq
theorem t7:type_of% @Option.map_eq_some_iff:=@Option.map_eq_some_iff
theorem t8:type_of% @Nat.le_of_ble_eq_true:=@Nat.le_of_ble_eq_true
theorem Z0:type_of% @Bool.and_eq_true:=@Bool.and_eq_true
theorem Z1:type_of% @List.length_append:=@List.length_append
theorem Z2:type_of% @List.length_map:=@List.length_map
theorem Z3:type_of% @List.append_assoc:=@List.append_assoc
theorem Z4:type_of% @List.map_cons:=@List.map_cons
theorem Z5:type_of% @Nat.le_refl:=@Nat.le_refl
theorem Z6:type_of% @List.length_take:=@List.length_take
theorem Z7:type_of% @Bool.false_eq_true:=@Bool.false_eq_true
theorem Z8:type_of% @List.getElem?_eq_some_iff:=@List.getElem?_eq_some_iff
theorem Z9:type_of% @Nat.zero_add:=@Nat.zero_add
theorem Y0:type_of% @Int.eq_ofNat_of_zero_le:=@Int.eq_ofNat_of_zero_le
theorem Y1:type_of% @Option.map_some:=@Option.map_some
theorem Y2:type_of% @List.cons_append:=@List.cons_append
theorem Y3:type_of% @Array.getElem?_eq_some_iff:=@Array.getElem?_eq_some_iff
theorem Y4:type_of% @List.getElem?_eq_getElem:=@List.getElem?_eq_getElem
theorem Y5:type_of% @List.all_eq_true:=@List.all_eq_true
theorem Y6:type_of% @Option.isSome_iff_exists:=@Option.isSome_iff_exists
theorem Y7:type_of% @List.getD_eq_getElem?_getD:=@List.getD_eq_getElem?_getD
theorem Y8:type_of% @List.mem_append:=@List.mem_append
theorem Y9:type_of% @List.cons.injEq:=@List.cons.injEq
theorem zz0:type_of% @List.map_nil:=@List.map_nil
theorem zz1:type_of% @List.mem_map:=@List.mem_map
theorem zz2:type_of% @List.nil_append:=@List.nil_append
theorem zz3:type_of% @Option.map_none:=@Option.map_none
theorem zz4:type_of% @List.length_cons:=@List.length_cons
theorem zz5:type_of% @Array.length_toList:=@Array.length_toList
theorem zz6:type_of% @List.getElem?_map:=@List.getElem?_map
theorem zz7:type_of% @List.getElem?_append_left:=@List.getElem?_append_left
theorem zz8:type_of% @List.map_append:=@List.map_append
theorem zz9:type_of% @List.eq_nil_of_length_eq_zero:=@List.eq_nil_of_length_eq_zero
theorem zy0:type_of% @List.mem_cons:=@List.mem_cons
theorem zy1:type_of% @List.length_nil:=@List.length_nil
theorem zy2:type_of% @List.mem_singleton:=@List.mem_singleton
theorem zy3:type_of% @Option.bind_eq_some_iff:=@Option.bind_eq_some_iff
theorem zy4:type_of% @List.take_append_drop:=@List.take_append_drop
theorem zy5:type_of% @Option.bind_some:=@Option.bind_some
theorem zy6:type_of% @List.append_nil:=@List.append_nil
theorem zy7:type_of% @List.take_left:=@List.take_left
end Go
namespace Go.Abs
open Go
inductive I where
 |undef | cU
 |bool (b:Bool)
 |int (k:IntKind) (n:Int)
 |aj (s:ByteArray)
 |nilp | c8 | cN
 |any
 |raw (v:Value)
 |nils (sz:Nat)
 |c0 (sz:Nat)
 |slice (sz:Nat) (es:List I)
 |agg (fs:List I)
 |tuple (fs:List I)
 |ref (c:I)
 |func (f:FuncId) (caps:List I)
 |iface (t:TypeId) (v:I)
 |ptr (n:Nat) (p:List Nat)
 |own (n:Nat) (k:Nat)
 |view (n:Nat) (p:List Nat) (sz lo k:Nat)
 |mref (n:Nat)
 |cR (n:Nat)
 |cW (ks vs:List I)
 deriving Inhabited
inductive bL where
 |one
 |eJ (l:List bL)
 deriving Inhabited
mutual
def bL.size:bL→Nat
 | .one=>1
 | .eJ l=>bL.sizes l
def bL.sizes:List bL→Nat
 | []=>0
 |s::l=>s.size+bL.sizes l
end
mutual
def I.aK:I→bL
 | .agg fs=>.eJ (I.cK fs)
 |_=>.one
def I.cK:List I→List bL
 | []=>[]
 |f::fs=>f.aK::I.cK fs
end
mutual
def I.size:I→Nat
 | .agg fs=>I.sizes fs
 |_=>1
def I.sizes:List I→Nat
 | []=>0
 |f::fs=>f.size+I.sizes fs
end
def I.isAgg:I→Bool
 | .agg _=>true
 |_=>false
def bL.off:bL→List Nat→Option Nat
 |_,[]=>some 0
 | .one,_::_=>none
 | .eJ l,i::p=>match l[i]? with
  |some s=>(s.off p).map (bL.sizes (l.take i) + ·)
  |none=>none
def bL.part:bL→List Nat→Option bL
 |s,[]=>some s
 | .one,_::_=>none
 | .eJ l,i::p=>match l[i]? with
  |some s=>s.part p
  |none=>none
def I.at:I→List Nat→Option I
 |c,[]=>some c
 | .agg fs,i::p=>match fs[i]? with
  |some f=>f.at p
  |none=>none
 |_,_::_=>none
def I.dz:I→List Nat→I→I
 |_,[],v=>v
 | .agg fs,i::p,v=>match fs[i]? with
  |some f=>.agg (fs.set i (f.dz p v))
  |none=>.agg fs
 |c,_::_,_=>c
inductive br where
 |aB (b:Nat) (aK:bL)
 |rw (aA:Option (Nat×Nat)) (len:Nat)
 |op (b:Nat)
 |b7 (b:Nat)
 |it (b:Nat)
def br.eh:br→Bool
 | .rw _ _=>false
 |_=>true
def br.fo(e e':br):Prop:=e'=e∨∃ aA l blk' l',e=.rw aA l∧e'=.rw blk' l'∧l≤l'∧(l'=l→blk'=aA)
theorem br.fo.refl(e:br):e.fo e:=.inl rfl
theorem br.fo.eq{e e':br}(h:e.fo e')(hf:e.eh=true):e'=e:=by
 rcases h with h | ⟨aA,l,blk',l',rfl,_⟩
 ·exact h
 ·cases hf
theorem br.fo.trans{a b c:br}(h:a.fo b)(k:b.fo c):a.fo c:=by
 rcases h with rfl | ⟨aA,l,blk',l',rfl,rfl,h1,h2⟩
 ·exact k
 ·rcases k with rfl | ⟨_,_,blk2,l2,e,rfl,h3,h4⟩
  ·exact .inr ⟨aA,l,blk',l',rfl,rfl,h1,h2⟩
  ·cases e;exact .inr ⟨aA,l,blk2,l2,rfl,rfl,by omega,fun e=>by rw[h4 (by omega),h2 (by omega)]⟩
abbrev aD:=Nat→Nat→Prop
abbrev aN:=Nat→Option br
def reads(w:World)(D:aD)(b off:Nat)(cs:List Value):Prop :=
 ∀ j v,cs[j]?=some v→w.cell? ⟨b,off+j,none⟩=some v∧D b (off+j)
def nh(es:Array MapEntry)(clock:Nat):Prop:=(∀ x∈es.toList,x.born<clock)∧(es.toList.map (·.born)).Nodup
def mw(w:World)(D:aD)(b:Nat)(es:Array MapEntry)(clock:Nat):Prop:=w.heap[b]?=some (.map es clock)∧D b 0∧nh es clock
def aW(e:I)(v:Value)(cs:List Value):Prop:=if e.isAgg then v=.agg cs.toArray else cs=[v]
def iH(f:Nat)(vs:List Value):Value:=if f<1000000 then .func (.func f) #[] vs.toArray else .func (.func (f-1000000)) vs.toArray #[]
theorem lC{f:Nat}(h:f<1000000)(vs:List Value):iH f vs=.func (.func f) #[] vs.toArray:=by simp only[iH,if_pos h]
theorem pq(f:Nat)(vs:List Value):iH (f+1000000) vs=.func (.func f) vs.toArray #[]:=by
 simp only[iH,if_neg (show ¬ f+1000000<1000000 by omega),Nat.add_sub_cancel]
theorem Lw{f:Nat}{vs vs':List Value}(h:iH f vs=iH f vs'):vs=vs':=by
 rcases Nat.lt_or_ge f 1000000 with hf | hf
 ·rw[lC hf,lC hf] at h;simpa using h
 ·obtain ⟨g,rfl⟩:∃ g,f=g+1000000:=⟨f-1000000,by omega⟩
  rw[pq,pq] at h;simpa using h
theorem zT(f:Nat)(vs:List Value):(iH f vs).oneCell'=true:=by
 simp only[iH];split <;>simp[Value.oneCell']
mutual
/-- These cells hold this value. -/
def ae(w:World)(D:aD)(E:aN):I→List Value→Prop
 | .agg fs,cs=>az w D E fs cs
 | .bool b,cs=>cs=[.bool b]
 | .int k n,cs=>cs=[.int k n]∧k.min≤n∧n≤k.max
 | .aj s,cs=>cs=[.string s]∧s.size≤maxLen
 | .nilp,cs=>cs=[.pointer none]
 | .c8,cs=>cs=[.nilFunc]
 | .cN,cs=>cs=[.nilIface]
 | .any,cs=>∃ v:Value,cs=[v]∧v.oneCell'=true
 | .raw u,cs=>cs=[u]∧u.oneCell'=true
 | .nils _,cs=>cs=[.slice none 0 0]
 | .c0 _,cs=>∃ a,cs=[.slice a 0 0]
 | .slice sz es,cs=>∃ a cap,cs=[.slice a es.length cap]∧es.length≤cap∧cap≤maxLen ∧
   (es=[]∨∃ b off cs',a=some ⟨b,off,none⟩∧reads w D b off cs'∧az w D E es cs')∧∀ e∈es,e.size=sz
 | .ref c,cs=>∃ b off cs',cs=[.pointer (some ⟨b,off,none⟩)]∧reads w D b off cs'∧ae w D E c cs'
 | .func f caps,cs=>∃ vs:List Value,cs=[iH f vs]∧ao w D E caps vs
 | .iface t v,cs=>∃ u cs',cs=[.iface t u]∧aW v u cs'∧ae w D E v cs'
 | .ptr n p,cs=>∃ b aK off,E n=some (.aB b aK)∧aK.off p=some off∧cs=[.pointer (some ⟨b,off,none⟩)]
 | .own n k,cs=>∃ aA l,E n=some (.rw aA l)∧k≤l∧(∃ a m c,cs=[.slice a m c]) ∧
   (k=l→match aA with | none=>cs=[.slice none 0 0] | some (b,cap)=>cs=[.slice (some ⟨b,0,none⟩) k cap])
 | .view n p sz lo k,cs=>∃ b aK off l,E n=some (.aB b aK)∧aK.off p=some off∧aK.part p=some (.eJ l)∧cs=[.slice (some ⟨b,off+lo*sz,none⟩) k (l.length-lo)]∧l.length≤maxLen∧lo+k≤l.length∧∀ s∈l,s.size=sz
 | .mref n,cs=>∃ b,E n=some (.b7 b)∧cs=[.map (some b)]
 | .cR n,cs=>∃ b,E n=some (.it b)∧cs=[.pointer (some ⟨b,0,none⟩)]
 | .cW ks vs,cs=>∃ b es clock,cs=[.map (some b)]∧mw w D b es clock∧ao w D E ks (es.toList.map (·.key))∧ao w D E vs (es.toList.map (·.val))
 | .undef,_ | .cU,_ | .tuple _,_=>False
def az(w:World)(D:aD)(E:aN):List I→List Value→Prop
 | [],cs=>cs=[]
 |e::es,cs=>∃ c1 c2,cs=c1++c2∧ae w D E e c1∧az w D E es c2
def ao(w:World)(D:aD)(E:aN):List I→List Value→Prop
 | [],vs=>vs=[]
 |e::es,vs=>∃ v rest cs,vs=v::rest∧aW e v cs∧ae w D E e cs∧ao w D E es rest
end
def aP(w:World)(D:aD)(E:aN)(x:I)(v:Value):Prop :=
 match x with
 | .undef=>v=undef
 | .cU=>True
 | .tuple fs=>∃ vs:List Value,v=.tuple vs.toArray∧ao w D E fs vs
 |x=>∃ cs,aW x v cs∧ae w D E x cs
structure dh (w:World) (D:aD) (E:aN) (w':World) (D':aD) (E':aN):Prop where
 cI:∀ b o,D b o→D' b o
 cell:∀ b o v,D b o→w.cell? ⟨b,o,none⟩=some v→w'.cell? ⟨b,o,none⟩=some v
 aB:∀ n b aK,E n=some (.aB b aK)→E' n=some (.aB b aK)
 rw:∀ n aA l,E n=some (.rw aA l)→∃ blk' l',E' n=some (.rw blk' l')∧l≤l'∧(l'=l→blk'=aA)
 b7:∀ n b,E n=some (.b7 b)→E' n=some (.b7 b)
 it:∀ n b,E n=some (.it b)→E' n=some (.it b)
 ik:∀ b es ck,D b 0→w.heap[b]?=some (.map es ck)→w'.heap[b]?=some (.map es ck)
structure fM (w:World) (D:aD) (w':World):Prop where
 cell:∀ b o v,D b o→w.cell? ⟨b,o,none⟩=some v→w'.cell? ⟨b,o,none⟩=some v
 ik:∀ b es ck,D b 0→w.heap[b]?=some (.map es ck)→w'.heap[b]?=some (.map es ck)
theorem fM.refl(w:World)(D:aD):fM w D w:=⟨fun _ _ _ _ h=>h,fun _ _ _ _ h=>h⟩
theorem fM.trans{w w' w'':World}{D D':aD}(h:fM w D w')(hD:∀ b o,D b o→D' b o)(k:fM w' D' w''):fM w D w'' :=
 ⟨fun b o v hd hv=>k.cell b o v (hD b o hd) (h.cell b o v hd hv),fun b es ck hd hm=>k.ik b es ck (hD b 0 hd) (h.ik b es ck hd hm)⟩
theorem dh.fb{w w':World}{D D':aD}{E E':aN}(h:dh w D E w' D' E'):fM w D w':=⟨h.cell,h.ik⟩
theorem mw.later{w w':World}{D D':aD}{E E':aN}(h:dh w D E w' D' E'){b:Nat}{es:Array MapEntry}{clock:Nat}(hr:mw w D b es clock):mw w' D' b es clock :=
 ⟨h.ik _ _ _ hr.2.1 hr.1,h.cI _ _ hr.2.1,hr.2.2⟩
theorem reads.later{w w':World}{D D':aD}{E E':aN}(h:dh w D E w' D' E'){b off:Nat}{cs:List Value}(hr:reads w D b off cs):reads w' D' b off cs :=
 fun j v hj=>⟨h.cell _ _ _ (hr j v hj).2 (hr j v hj).1,h.cI _ _ (hr j v hj).2⟩
mutual
theorem ae.later{w w':World}{D D':aD}{E E':aN}(h:dh w D E w' D' E'):∀ (x:I) (cs:List Value),ae w D E x cs→ae w' D' E' x cs
 | .agg fs,cs,hr=>by simp only[ae] at *;exact az.later h fs cs hr
 | .bool b,cs,hr=>by simpa only[ae] using hr
 | .int k n,cs,hr=>by simpa only[ae] using hr
 | .aj s,cs,hr=>by simpa only[ae] using hr
 | .nilp,cs,hr=>by simpa only[ae] using hr
 | .c8,cs,hr=>by simpa only[ae] using hr
 | .cN,cs,hr | .any,cs,hr=>by simpa only[ae] using hr
 | .raw _,cs,hr=>by simpa only[ae] using hr
 | .nils _,cs,hr=>by simpa only[ae] using hr
 | .c0 _,cs,hr=>by simpa only[ae] using hr
 | .slice sz es,cs,hr=>by
  simp only[ae] at *;obtain ⟨a,cap,h1,h2,h3,h4,h5⟩:=hr;refine ⟨a,cap,h1,h2,h3,?_,h5⟩;rcases h4 with h4 | ⟨b,off,cs',h6,h7,h8⟩
  ·exact .inl h4
  ·exact .inr ⟨b,off,cs',h6,h7.later h,az.later h es cs' h8⟩
 | .ref c,cs,hr=>by
  simp only[ae] at *;obtain ⟨b,off,cs',h1,h2,h3⟩:=hr;exact ⟨b,off,cs',h1,h2.later h,ae.later h c cs' h3⟩
 | .func f caps,cs,hr=>by
  simp only[ae] at *;obtain ⟨vs,h1,h2⟩:=hr;exact ⟨vs,h1,ao.later h caps vs h2⟩
 | .iface t v,cs,hr=>by
  simp only[ae] at *;obtain ⟨u,cs',h1,h2,h3⟩:=hr;exact ⟨u,cs',h1,h2,ae.later h v cs' h3⟩
 | .ptr n p,cs,hr=>by
  simp only[ae] at *;obtain ⟨b,aK,off,h1,h2,h3⟩:=hr;exact ⟨b,aK,off,h.aB _ _ _ h1,h2,h3⟩
 | .own n k,cs,hr=>by
  simp only[ae] at *;obtain ⟨aA,l,h1,h2,h3,h4⟩:=hr;obtain ⟨blk',l',h5,h6,h7⟩:=h.rw _ _ _ h1;refine ⟨blk',l',h5,Nat.le_trans h2 h6,h3,fun e =>?_⟩;have e1:l'=l:=by omega
  rw[h7 e1];exact h4 (by omega)
 | .view n p _ _ _,cs,hr=>by
  simp only[ae] at *;obtain ⟨b,aK,off,l,h1,h2⟩:=hr;exact ⟨b,aK,off,l,h.aB _ _ _ h1,h2⟩
 | .mref n,cs,hr=>by
  simp only[ae] at *;obtain ⟨b,h1,h2⟩:=hr;exact ⟨b,h.b7 _ _ h1,h2⟩
 | .cR n,cs,hr=>by
  simp only[ae] at *;obtain ⟨b,h1,h2⟩:=hr;exact ⟨b,h.it _ _ h1,h2⟩
 | .cW ks vs,cs,hr=>by
  simp only[ae] at *;obtain ⟨b,es,clock,h1,h2,h3,h4⟩:=hr;exact ⟨b,es,clock,h1,h2.later h,ao.later h ks _ h3,ao.later h vs _ h4⟩
 | .undef,_,hr=>by simp only[ae] at hr
 | .cU,_,hr=>by simp only[ae] at hr
 | .tuple _,_,hr=>by simp only[ae] at hr
theorem az.later{w w':World}{D D':aD}{E E':aN}(h:dh w D E w' D' E'):∀ (xs:List I) (cs:List Value),az w D E xs cs→az w' D' E' xs cs
 | [],cs,hr=>by simpa only[az] using hr
 |x::xs,cs,hr=>by
  simp only[az] at *;obtain ⟨c1,c2,h1,h2,h3⟩:=hr;exact ⟨c1,c2,h1,ae.later h x c1 h2,az.later h xs c2 h3⟩
theorem ao.later{w w':World}{D D':aD}{E E':aN}(h:dh w D E w' D' E'):∀ (xs:List I) (vs:List Value),ao w D E xs vs→ao w' D' E' xs vs
 | [],vs,hr=>by simpa only[ao] using hr
 |x::xs,vs,hr=>by
  simp only[ao] at *;obtain ⟨v,rest,cs,h1,h2,h3,h4⟩:=hr;exact ⟨v,rest,cs,h1,h2,ae.later h x cs h3,ao.later h xs rest h4⟩
end
theorem aP.later{w w':World}{D D':aD}{E E':aN}(h:dh w D E w' D' E'){x:I}{v:Value}(hr:aP w D E x v):aP w' D' E' x v:=by
 cases x <;>simp only[aP] at * <;>first
  |exact hr
  |(obtain ⟨vs,h1,h2⟩:=hr;exact ⟨vs,h1,ao.later h _ _ h2⟩)
  |(obtain ⟨cs,h1,h2⟩:=hr;exact ⟨cs,h1,ae.later h _ _ h2⟩)
mutual
theorem I.hE:∀ x:I,x.aK.size=x.size
 | .agg fs=>by simp only[I.aK,I.size,bL.size];exact I.lh fs
 | .undef | .cU | .bool _ | .int _ _ | .aj _ | .nilp | .c8 | .cN | .any | .raw _ | .nils _ | .c0 _ | .slice _ _ | .tuple _ | .ref _ | .func _ _ | .iface _ _ | .ptr _ _ | .own _ _ | .view _ _ _ _ _ | .mref _ | .cR _ | .cW _ _=>by simp only[I.aK,I.size,bL.size]
theorem I.lh:∀ xs:List I,bL.sizes (I.cK xs)=I.sizes xs
 | []=>by simp only[I.cK,I.sizes,bL.sizes]
 |x::xs=>by simp only[I.cK,I.sizes,bL.sizes];rw[I.hE x,I.lh xs]
end
mutual
theorem ae.length{w:World}{D:aD}{E:aN} : ∀ (x:I) (cs:List Value),ae w D E x cs→cs.length=x.size
 | .agg fs,cs,hr=>by simp only[ae,I.size] at *;exact az.length fs cs hr
 | .bool b,cs,hr=>by simp only[ae] at hr;simp[hr,I.size]
 | .int k n,cs,hr=>by simp only[ae] at hr;simp[hr.1,I.size]
 | .aj s,cs,hr=>by simp only[ae] at hr;simp[hr.1,I.size]
 | .nilp,cs,hr=>by simp only[ae] at hr;simp[hr,I.size]
 | .c8,cs,hr=>by simp only[ae] at hr;simp[hr,I.size]
 | .cN,cs,hr=>by simp only[ae] at hr;simp[hr,I.size]
 | .any,cs,hr=>by simp only[ae] at hr;obtain ⟨v,rfl,_⟩:=hr;simp[I.size]
 | .raw u,cs,hr=>by simp only[ae] at hr;simp[hr.1,I.size]
 | .nils _,cs,hr=>by simp only[ae] at hr;simp[hr,I.size]
 | .c0 _,cs,hr=>by simp only[ae] at hr;obtain ⟨a,rfl⟩:=hr;simp[I.size]
 | .slice sz es,cs,hr=>by simp only[ae] at hr;obtain ⟨a,cap,rfl,_⟩:=hr;simp[I.size]
 | .ref c,cs,hr=>by simp only[ae] at hr;obtain ⟨b,off,cs',rfl,_⟩:=hr;simp[I.size]
 | .func f caps,cs,hr=>by simp only[ae] at hr;obtain ⟨vs,rfl,_⟩:=hr;simp[I.size]
 | .iface t v,cs,hr=>by simp only[ae] at hr;obtain ⟨u,cs',rfl,_⟩:=hr;simp[I.size]
 | .ptr n p,cs,hr=>by simp only[ae] at hr;obtain ⟨b,aK,off,_,_,rfl⟩:=hr;simp[I.size]
 | .own n k,cs,hr=>by simp only[ae] at hr;obtain ⟨aA,l,_,_,⟨a,m,c,rfl⟩,_⟩:=hr;simp[I.size]
 | .view n p _ _ _,cs,hr=>by simp only[ae] at hr;obtain ⟨b,aK,off,l,_,_,_,rfl,_⟩:=hr;simp[I.size]
 | .mref n,cs,hr=>by simp only[ae] at hr;obtain ⟨b,_,rfl⟩:=hr;simp[I.size]
 | .cR n,cs,hr=>by simp only[ae] at hr;obtain ⟨b,_,rfl⟩:=hr;simp[I.size]
 | .cW ks vs,cs,hr=>by simp only[ae] at hr;obtain ⟨b,es,ck,rfl,_⟩:=hr;simp[I.size]
 | .undef,_,hr=>by simp only[ae] at hr
 | .cU,_,hr=>by simp only[ae] at hr
 | .tuple _,_,hr=>by simp only[ae] at hr
theorem az.length{w:World}{D:aD}{E:aN} : ∀ (xs:List I) (cs:List Value),az w D E xs cs→cs.length=I.sizes xs
 | [],cs,hr=>by simp only[az] at hr;simp[hr,I.sizes]
 |x::xs,cs,hr=>by
  simp only[az] at hr;obtain ⟨c1,c2,rfl,h1,h2⟩:=hr;simp only[Z1,I.sizes,ae.length x c1 h1,az.length xs c2 h2]
end
mutual
theorem ae.j6{w:World}{D:aD}{E:aN} : ∀ (x:I) (cs:List Value),ae w D E x cs→∀ v∈cs,v.oneCell'=true
 | .agg fs,cs,hr=>by simp only[ae] at hr;exact az.j6 fs cs hr
 | .bool b,cs,hr=>by simp only[ae] at hr;simp[hr,Value.oneCell']
 | .int k n,cs,hr=>by simp only[ae] at hr;simp[hr.1,Value.oneCell']
 | .aj s,cs,hr=>by simp only[ae] at hr;simp[hr.1,Value.oneCell']
 | .nilp,cs,hr=>by simp only[ae] at hr;simp[hr,Value.oneCell']
 | .c8,cs,hr=>by simp only[ae] at hr;simp[hr,Value.oneCell']
 | .cN,cs,hr=>by simp only[ae] at hr;simp[hr,Value.oneCell']
 | .any,cs,hr=>by simp only[ae] at hr;obtain ⟨v,rfl,h⟩:=hr;simpa using h
 | .raw u,cs,hr=>by simp only[ae] at hr;simpa[hr.1] using hr.2
 | .nils _,cs,hr=>by simp only[ae] at hr;simp[hr,Value.oneCell']
 | .c0 _,cs,hr=>by simp only[ae] at hr;obtain ⟨a,rfl⟩:=hr;simp[Value.oneCell']
 | .slice sz es,cs,hr=>by simp only[ae] at hr;obtain ⟨a,cap,rfl,_⟩:=hr;simp[Value.oneCell']
 | .ref c,cs,hr=>by simp only[ae] at hr;obtain ⟨b,off,cs',rfl,_⟩:=hr;simp[Value.oneCell']
 | .func f caps,cs,hr=>by simp only[ae] at hr;obtain ⟨vs,rfl,_⟩:=hr;simp only[iH];split <;>simp[Value.oneCell']
 | .iface t v,cs,hr=>by simp only[ae] at hr;obtain ⟨u,cs',rfl,_⟩:=hr;simp[Value.oneCell']
 | .ptr n p,cs,hr=>by simp only[ae] at hr;obtain ⟨b,aK,off,_,_,rfl⟩:=hr;simp[Value.oneCell']
 | .own n k,cs,hr=>by simp only[ae] at hr;obtain ⟨aA,l,_,_,⟨a,m,c,rfl⟩,_⟩:=hr;simp[Value.oneCell']
 | .view n p _ _ _,cs,hr=>by simp only[ae] at hr;obtain ⟨b,aK,off,l,_,_,_,rfl,_⟩:=hr;simp[Value.oneCell']
 | .mref n,cs,hr=>by simp only[ae] at hr;obtain ⟨b,_,rfl⟩:=hr;simp[Value.oneCell']
 | .cR n,cs,hr=>by simp only[ae] at hr;obtain ⟨b,_,rfl⟩:=hr;simp[Value.oneCell']
 | .cW ks vs,cs,hr=>by simp only[ae] at hr;obtain ⟨b,es,ck,rfl,_⟩:=hr;simp[Value.oneCell']
 | .undef,_,hr=>by simp only[ae] at hr
 | .cU,_,hr=>by simp only[ae] at hr
 | .tuple _,_,hr=>by simp only[ae] at hr
theorem az.j6{w:World}{D:aD}{E:aN} : ∀ (xs:List I) (cs:List Value),az w D E xs cs→∀ v∈cs,v.oneCell'=true
 | [],cs,hr=>by simp only[az] at hr;simp[hr]
 |x::xs,cs,hr=>by
  simp only[az] at hr;obtain ⟨c1,c2,rfl,h1,h2⟩:=hr;intro v hv;rcases Y8.1 hv with h | h
  ·exact ae.j6 x c1 h1 v h
  ·exact az.j6 xs c2 h2 v h
end
theorem aW.cells{x:I}{v:Value}{cs:List Value}{w:World}{D:aD}{E:aN}(h:aW x v cs)(hr:ae w D E x cs):v.cells.toList=cs:=by
 unfold aW at h;split at h
 ·rw[h];simp[Value.cells]
 ·subst h;have:=ae.j6 x _ hr v (by simp);cases v <;>simp[Value.cells,Value.oneCell'] at *
theorem kU{w:World}{D:aD}{E:aN} : ∀ (xs:List I) (cs:List Value) (i:Nat) (x:I),az w D E xs cs→xs[i]?=some x →
  ∃ c1 c2 c3,cs=c1++c2++c3∧c1.length=I.sizes (xs.take i)∧az w D E (xs.take i) c1∧ae w D E x c2∧az w D E (xs.drop (i+1)) c3
 | [],_,i,x,_,h=>by simp at h
 |y::ys,cs,0,x,hr,h=>by
  simp only[List.getElem?_cons_zero,v6] at h;subst h;simp only[az] at hr;obtain ⟨c1,c2,rfl,h1,h2⟩:=hr;exact ⟨[],c1,c2,by simp,by simp[I.sizes],by simp[az],h1,by simpa using h2⟩
 |y::ys,cs,i+1,x,hr,h=>by
  simp only[List.getElem?_cons_succ] at h;simp only[az] at hr;obtain ⟨c0,c',rfl,h1,h2⟩:=hr;obtain ⟨c1,c2,c3,rfl,h3,h4,h5,h6⟩:=kU ys c' i x h2 h;refine ⟨c0++c1,c2,c3,by simp,?_,?_,h5,by simpa using h6⟩
  ·simp only[Z1,List.take_succ_cons,I.sizes,h3,ae.length y c0 h1]
  ·simp only[List.take_succ_cons,az];exact ⟨c0,c1,rfl,h1,h4⟩
theorem iK{w:World}{D:aD}{E:aN} : ∀ (xs ys:List I) (cs ds:List Value),az w D E xs cs→az w D E ys ds→az w D E (xs++ys) (cs++ds)
 | [],ys,cs,ds,h,k=>by simp only[az] at h;subst h;simpa using k
 |x::xs,ys,cs,ds,h,k=>by
  simp only[az,Y2] at *;obtain ⟨c1,c2,rfl,h1,h2⟩:=h;exact ⟨c1,c2++ds,by simp,h1,iK xs ys c2 ds h2 k⟩
theorem I.fY{sz:Nat} : ∀ (xs:List I),(∀ x∈xs,x.size=sz)→I.sizes xs=xs.length*sz
 | [],_=>by simp[I.sizes]
 |x::xs,h=>by
  simp only[I.sizes,zz4];rw[h x (by simp),I.fY xs (fun y hy=>h y (by simp[hy])),Nat.add_mul];omega
theorem I.cF:∀ xs:List I,I.cK xs=xs.map I.aK
 | []=>by simp[I.cK]
 |x::xs=>by simp[I.cK,I.cF xs]
theorem vO{w:World}{D:aD}{E:aN} : ∀ (p:List Nat) (c x:I) (cs:List Value),ae w D E c cs→c.at p=some x →
  ∃ off c1 c2 c3,c.aK.off p=some off∧cs=c1++c2++c3∧c1.length=off∧ae w D E x c2
 | [],c,x,cs,hr,h=>by
  simp only[I.at,v6] at h;subst h;exact ⟨0,[],cs,[],by cases c.aK <;>simp[bL.off],by simp,rfl,hr⟩
 |i::p,.agg fs,x,cs,hr,h=>by
  simp only[I.at] at h;simp only[ae] at hr;cases hf:fs[i]? with
  |none=>simp[hf] at h
  |some f =>
   simp only[hf] at h;obtain ⟨c1,c2,c3,rfl,h1,_,h3,_⟩:=kU fs cs i f hr hf;obtain ⟨off,d1,d2,d3,h4,rfl,h6,h7⟩:=vO p f x c2 h3 h;refine ⟨I.sizes (fs.take i)+off,c1++d1,d2,d3++c3,?_,by simp,by simp[h1,h6],h7⟩;simp only[I.aK,bL.off,I.cF,zz6,hf,Y1,h4];rw[←List.map_take,←I.cF,I.lh]
 |_::_,.undef,_,_,_,h | _::_,.cU,_,_,_,h | _::_,.bool _,_,_,_,h | _::_,.int _ _,_,_,_,h | _::_,.aj _,_,_,_,h | _::_,.nilp,_,_,_,h
 |_::_,.c8,_,_,_,h | _::_,.cN,_,_,_,h | _::_,.any,_,_,_,h | _::_,.raw _,_,_,_,h | _::_,.nils _,_,_,_,h | _::_,.c0 _,_,_,_,h | _::_,.slice _ _,_,_,_,h | _::_,.tuple _,_,_,_,h
 |_::_,.ref _,_,_,_,h | _::_,.func _ _,_,_,_,h | _::_,.iface _ _,_,_,_,h | _::_,.ptr _ _,_,_,_,h | _::_,.own _ _,_,_,_,h | _::_,.view _ _ _ _ _,_,_,_,h | _::_,.mref _,_,_,_,h | _::_,.cR _,_,_,_,h | _::_,.cW _ _,_,_,_,h=>by simp[I.at] at h
theorem sI{w:World}{D:aD}{E:aN} : ∀ (p:List Nat) (c x y:I) (cs ds:List Value),ae w D E c cs→c.at p=some x→ae w D E y ds→y.aK=x.aK →
  ∃ off,c.aK.off p=some off∧off+ds.length≤cs.length∧ae w D E (c.dz p y) (cs.take off++ds++cs.drop (off+ds.length))∧(c.dz p y).aK=c.aK
 | [],c,x,y,cs,ds,hr,h,hy,hs=>by
  simp only[I.at,v6] at h;subst h;have hl:ds.length=cs.length:=by rw[ae.length _ _ hy,ae.length _ _ hr,←I.hE,←I.hE,hs]
  refine ⟨0,by cases c.aK <;>simp[bL.off],by omega,?_,by simpa[I.dz] using hs⟩;simpa[I.dz,hl] using hy
 |i::p,.agg fs,x,y,cs,ds,hr,h,hy,hs=>by
  simp only[I.at] at h;simp only[ae] at hr;cases hf:fs[i]? with
  |none=>simp[hf] at h
  |some f =>
   simp only[hf] at h;obtain ⟨c1,c2,c3,rfl,h1,h2,h3,h3'⟩:=kU fs cs i f hr hf;obtain ⟨off,h4,h5,h6,h7⟩:=sI p f x y c2 ds h3 h hy hs;have hi:i<fs.length:=(Z8.1 hf).1;have hfi:fs[i]=f:=(Z8.1 hf).2;refine ⟨I.sizes (fs.take i)+off,?_,?_,?_,?_⟩
   ·simp only[I.aK,bL.off,I.cF,zz6,hf,Y1,h4];rw[←List.map_take,←I.cF,I.lh]
   ·simp only[Z1,h1];omega
   ·simp only[I.dz,hf,ae];have e1:fs.set i (f.dz p y)=fs.take i++f.dz p y::fs.drop (i+1):=by rw[List.set_eq_take_append_cons_drop];simp[hi]
    rw[e1];have e2:(c1++c2++c3).take (I.sizes (fs.take i)+off)++ds++(c1++c2++c3).drop (I.sizes (fs.take i)+off+ds.length)=c1++((c2.take off++ds++c2.drop (off+ds.length))++c3):=by
     rw[←h1,Z3 c1 c2 c3,List.take_length_add_append,Nat.add_assoc,List.drop_length_add_append,List.take_append_of_le_length (by omega),List.drop_append_of_le_length (by omega)];simp
    rw[e2];refine iK _ _ _ _ h2 ?_;simp only[az];exact ⟨_,_,rfl,h6,h3'⟩
   ·simp only[I.dz,hf,I.aK,I.cF,List.map_set,h7,bL.eJ.injEq];apply List.ext_getElem?;intro k;rw[List.getElem?_set];split
    ·rename_i hk;subst hk;simp[hi,hfi]
    ·rfl
 |_::_,.undef,_,_,_,_,_,h,_,_ | _::_,.cU,_,_,_,_,_,h,_,_ | _::_,.bool _,_,_,_,_,_,h,_,_ | _::_,.int _ _,_,_,_,_,_,h,_,_ | _::_,.aj _,_,_,_,_,_,h,_,_ | _::_,.nilp,_,_,_,_,_,h,_,_
 |_::_,.c8,_,_,_,_,_,h,_,_ | _::_,.cN,_,_,_,_,_,h,_,_ | _::_,.any,_,_,_,_,_,h,_,_ | _::_,.raw _,_,_,_,_,_,h,_,_ | _::_,.nils _,_,_,_,_,_,h,_,_ | _::_,.c0 _,_,_,_,_,_,h,_,_ | _::_,.slice _ _,_,_,_,_,_,h,_,_ | _::_,.tuple _,_,_,_,_,_,h,_,_
 |_::_,.ref _,_,_,_,_,_,h,_,_ | _::_,.func _ _,_,_,_,_,_,h,_,_ | _::_,.iface _ _,_,_,_,_,_,h,_,_ | _::_,.ptr _ _,_,_,_,_,_,h,_,_ | _::_,.own _ _,_,_,_,_,_,h,_,_ | _::_,.view _ _ _ _ _,_,_,_,_,_,h,_,_ | _::_,.mref _,_,_,_,_,_,h,_,_ | _::_,.cR _,_,_,_,_,_,h,_,_ | _::_,.cW _ _,_,_,_,_,_,h,_,_=>by simp[I.at] at h
theorem lg:∀ (p:List Nat) (c x:I),c.at p=some x→c.aK.part p=some x.aK
 | [],c,x,h=>by simp only[I.at,v6] at h;subst h;cases c.aK <;>rfl
 |i::p,.agg fs,x,h=>by
  simp only[I.at] at h;cases hf:fs[i]? with
  |none=>simp[hf] at h
  |some f =>
   simp only[hf] at h;simp only[I.aK,bL.part,I.cF,zz6,hf,Y1];exact lg p f x h
 |_::_,.undef,_,h | _::_,.cU,_,h | _::_,.bool _,_,h | _::_,.int _ _,_,h | _::_,.aj _,_,h | _::_,.nilp,_,h
 |_::_,.c8,_,h | _::_,.cN,_,h | _::_,.any,_,h | _::_,.raw _,_,h | _::_,.nils _,_,h | _::_,.c0 _,_,h | _::_,.slice _ _,_,h | _::_,.tuple _,_,h
 |_::_,.ref _,_,h | _::_,.func _ _,_,h | _::_,.iface _ _,_,h | _::_,.ptr _ _,_,h | _::_,.own _ _,_,h | _::_,.view _ _ _ _ _,_,h | _::_,.mref _,_,h | _::_,.cR _,_,h | _::_,.cW _ _,_,h=>by simp[I.at] at h
end Go.Abs
namespace Go.Abs
open Go Go.RowKit
inductive ai where
 |box (c:I)
 |bE (T:TypeId) (sz:Nat) (es:List I)
 |db (o:Obj)
 |b7 (ks vs:List I)
 |it (ks vs:List I) (left:List Nat) (cur:Option Nat)
 |dL (T:TypeId) (xs:List Int)
 deriving Inhabited
def ai.eh:ai→Bool
 | .it _ _ _ _=>false
 |_=>true
structure ab where
 t:Nat→I
 o:Nat→Option ai
def ab.put(A:ab)(d:Nat)(v:I):ab:=⟨fun k=>if k=d then v else A.t k,A.o⟩
def ab.aM(A:ab)(d:Option Nat)(v:I):ab:=match d with | some d=>A.put d v | none=>A
def ab.aO(A:ab)(n:Nat)(x:ai):ab:=⟨A.t,fun k=>if k=n then some x else A.o k⟩
def b9:List (Nat×I)→Nat→I
 | [],_=>.cU
 |(k,v)::r,t=>if t=k then v else b9 r t
def aH:List (Nat×ai)→Nat→Option ai
 | [],_=>none
 |(k,v)::r,t=>if t=k then some v else aH r t
def aw(ts:List (Nat×I))(os:List (Nat×ai)):ab:=⟨b9 ts,aH os⟩
def aC(os:List (Nat×ai))(n:Nat):Bool:=(aH os n).isSome
abbrev b6:=I→List (Nat×ai)→Prop
structure cm where
 P:Program
 cP:World
 bH:aD
 n:Nat
 own:Nat→Prop
 cu:aN
 Y:Value→List I→List (Nat×ai)→b6→Prop
 qg:Option Nat
 dC:Option (List Deferred):=none
def fu:Value→List I→List (Nat×ai)→b6→Prop:=fun _ _ _ _=>False
def cm.bh(c:cm):Fence:=match c.qg with
 |none=>Fence.wide
 |some l=>Fence.wide.inRound l
def cm.eg(c:cm)(b:Nat):Prop:=c.cP.heap.size≤b∨c.own b
structure er (M:Nat→Prop) (w w':World):Prop where
 os:w'.os=w.os
 tape:w'.tape=w.tape
 output:w'.output=w.output
 size:w.heap.size≤w'.heap.size
 block:∀ k,¬ M k→w'.heap[k]?=w.heap[k]?
theorem er.refl(M:Nat→Prop)(w:World):er M w w:=⟨rfl,rfl,rfl,Z5 _,fun _ _=>rfl⟩
theorem er.trans{M:Nat→Prop}{a b c:World}(h:er M a b)(k:er M b c):er M a c :=
 ⟨k.os.trans h.os,k.tape.trans h.tape,k.output.trans h.output,Nat.le_trans h.size k.size,fun i hi=>(k.block i hi).trans (h.block i hi)⟩
theorem er.grow{M:Nat→Prop}{w w':World}{B:Nat}(h:Below B w w')(hB:∀ k,B≤k→M k):er M w w' :=
 ⟨h.os,h.tape,h.output,h.size,fun k hk=>h.block k (Nat.lt_of_not_le fun hle=>hk (hB k hle))⟩
theorem er.F4{M:Nat→Prop}{w w':World}{B:Nat}(h:er M w w')(hB:∀ k,k<B→¬ M k):Below B w w' :=
 ⟨h.os,h.tape,h.output,h.size,fun k hk=>h.block k (hB k hk)⟩
def br.aA:br→Option Nat
 | .aB b _=>some b
 | .rw (some (b,_)) _=>some b
 | .rw none _=>none
 | .op b=>some b
 | .b7 b=>some b
 | .it b=>some b
def br.ew:br→Bool
 | .op _ | .b7 _ | .it _=>true
 |_=>false
def nS:Obj→Bool
 | .loop _=>true
 |_=>false
def sk:Obj→Bool
 | .deferred _=>false
 |_=>true
theorem Vc{o:Obj}(h:nS o=true):sk o=true:=by cases o <;>first | rfl | cases h
def mr(es:Array MapEntry)(seen:Array Nat):List Nat:=(List.range es.size).filter fun i=>match es[i]? with
 |some e => !seen.contains e.born
 |none=>false
def bL.AI:bL→Bool
 | .one=>true
 | .eJ _=>false
def bL.flat:bL→Bool
 | .one=>false
 | .eJ l=>l.all bL.AI
def dZ(w:World)(b:Nat)(cs:Array Value)(T:TypeId)(s:bL):Prop:=∃ fz:Nat×Nat,w.heap[b]?=some (.cells cs T fz)∧(fz=(0,0)∨(fz.1=cs.size∧s.flat=true))
section
variable {w w':World} {b:Nat} {cs cs':Array Value} {T:TypeId} {s:bL}
theorem dZ.VU(h:w.heap[b]?=some (.cells cs T (0,0))):dZ w b cs T s:=⟨_,h,.inl rfl⟩
theorem dZ.lt(h:dZ w b cs T s):b<w.heap.size:=by obtain ⟨_,h,_⟩:=h;exact (Y3.1 h).1
theorem dZ.VW(h:dZ w b cs T s)(k:w'.heap[b]?=w.heap[b]?):dZ w' b cs T s:=by obtain ⟨fz,h,hf⟩:=h;exact ⟨fz,k.trans h,hf⟩
theorem dZ.Bl(h:dZ w b cs T s){q:Option (List Deferred)}(k:w.heap[b]?=some (.deferred q)):False:=by obtain ⟨_,h,_⟩:=h;rw[h] at k;cases k
theorem dZ.bz(h:dZ w b cs T s):∃ o,w.heap[b]?=some o∧sk o=true:=by obtain ⟨_,h,_⟩:=h;exact ⟨_,h,rfl⟩
theorem dZ.setRow(h:dZ w b cs T s)(hs:cs'.size=cs.size):dZ (w.setRow b cs') b cs' T s:=by
 obtain ⟨fz,h,hf⟩:=h;exact ⟨fz,setRow_heap w b cs cs' T _ h,hf.imp id fun k=>⟨k.1.trans hs.symm,k.2⟩⟩
theorem dZ.aK{s':bL}(h:dZ w b cs T s)(e:s'=s):dZ w b cs T s':=e▸h
theorem dZ.Ly(h:dZ w b cs T s){o:Nat}(ho:o<cs.size):w.frozen? ⟨b,o,none⟩=false:=by
 obtain ⟨⟨z1,z2⟩,h,hf⟩:=h;cases hq:w.frozen? ⟨b,o,none⟩ with
 |false=>rfl
 |true =>
  simp only[World.frozen?,h,Z0,decide_eq_true_eq] at hq;rcases hf with hf | hf
  ·simp only[Prod.mk.injEq] at hf;omega
  ·have:=hf.1;simp only at this;omega
theorem dZ.plain(h:dZ w b cs T s)(hs:s.flat=false):w.heap[b]?=some (.cells cs T (0,0)):=by
 obtain ⟨fz,h,hf | hf⟩:=h
 ·rw[←hf];exact h
 ·rw[hs] at hf;cases hf.2
end
def cX(M:Nat→Prop)(w:World)(D:aD)(E:aN)(n:Nat):Option ai→Prop
 |none=>E n=none
 |some (.box x)=>∃ b cs T,E n=some (.aB b x.aK)∧M b∧dZ w b cs T x.aK∧ae w D E x cs.toList∧∀ o,¬ D b o
 |some (.bE T sz es)=>∃ aA,E n=some (.rw aA es.length)∧(∀ e∈es,e.size=sz)∧match aA with
  |none=>es=[]
  |some (b,cap)=>∃ cs pre rest,M b∧w.heap[b]?=some (.cells cs T (0,0))∧cs.toList=pre++rest∧az w D E es pre ∧
    cs.size=cap*sz∧es.length≤cap∧cap≤maxLen∧∀ o,D b o→o<pre.length
 |some (.db x)=>∃ b,E n=some (.op b)∧M b∧w.heap[b]?=some x∧nS x=true∧∀ o,¬ D b o
 |some (.b7 ks vs)=>∃ b es clock,E n=some (.b7 b)∧M b∧w.heap[b]?=some (.map es clock)∧nh es clock∧ao w D E ks (es.toList.map (·.key))∧ao w D E vs (es.toList.map (·.val))∧∀ o,¬ D b o
 |some (.it ks vs left cur)=>∃ r b es clock since seen last,E n=some (.it r)∧M r∧w.heap[r]?=some (.mapIter (some b) since seen last)∧mw w D b es clock∧ao w D E ks (es.toList.map (·.key))∧ao w D E vs (es.toList.map (·.val)) ∧
   (∀ x∈es.toList,x.born<since)∧(since≤last∧since≤clock)∧left=mr es seen∧(∀ i,cur=some i→∃ e,es[i]?=some e∧seen.back?=some e.born∧last=clock)∧∀ o,¬ D r o
 |some (.dL T xs)=>∃ aA,E n=some (.rw aA xs.length)∧(∀ x∈xs,IntKind.i64.min≤x∧x≤IntKind.i64.max)∧match aA with
  |none=>xs=[]
  |some (b,cap)=>∃ cs m,M b∧w.heap[b]?=some (.cells cs T (0,0))∧cs.toList=(xs++List.replicate m 0).map (Value.int .i64)∧xs≠[]∧xs.length+m=cap∧cap≤maxLen∧∀ o,¬ D b o
def bQ(E:aN)(b:Nat):Prop:=∃ n e,E n=some e∧e.aA=some b
structure iR (M:Nat→Prop) (w:World) (D:aD) (E:aN) (o:Nat→Option ai):Prop where
 bz:∀ n,cX M w D E n (o n)
 cz:∀ n m e e' b,E n=some e→E m=some e'→e.aA=some b→e'.aA=some b→n=m
def lZ(run:Array Value→World→(Ending→World→Prop)→Prop)(since:World→aD→aN→Prop)(args:List I)(os:List (Nat×ai))(post:b6):Prop :=
 ∀ (w:World) (D:aD) (E:aN) (vs:List Value),since w D E→(∀ b o,D b o→b<w.heap.size)→iR (fun _=>True) w D E (aH os)→ao w D E args vs →
  run vs.toArray w fun e w'=>∃ v D' E' r os',e=.returned v∧post r os'∧aP w' D' E' r v∧iR (fun b=>w.heap.size≤b∨bQ E b) w' D' E' (aH os') ∧
   er (fun b=>w.heap.size≤b∨bQ E b) w w'∧(∀ b o,D b o→D' b o)∧(∀ b o,D' b o→b<w'.heap.size)∧(∀ b o,D' b o→b<w.heap.size→¬ bQ E b→D b o) ∧
   (∀ n e,E n=some e→aC os' n=true→∃ e',E' n=some e'∧e.fo e')∧fM w D w'
def rU : String := "internal/strconv.uint64pow10"
def AN:Array Value:=(((List.range 20).map fun i=>((10^i:Nat):Int)).map fun z=>Value.int .u64 z).toArray
inductive tu where
 |sD | int | nJ
def rV:tu→Array Value→Prop
 | .sD,v=>v=AN
 | .int,v=>∃ m:Int,v = #[.int .i64 m]
 | .nJ,v=>∃ t p,v = #[.iface t p]
def mq : List (String × tu) := [(rU, .sD), ("internal/bytealg.MaxLen", .int), ("strconv.ErrSyntax", .nJ), ("strconv.ErrRange", .nJ)]
def eA(P:Program)(w:World)(own:Nat→Prop):Prop :=
 ∀ q∈mq,∀ g,P.globalNamed q.1=some g→¬ own g∧∃ v,w.var? P q.1=some v∧rV q.2 v
theorem eA.rY{P:Program}{w:World}{own own':Nat→Prop}(h:eA P w own)(ho:∀ b,own' b→own b):eA P w own':=fun q hq g hg=>⟨fun k=>(h q hq g hg).1 (ho g k),(h q hq g hg).2⟩
theorem eA.AM{P:Program}{w w':World}{own own' M:Nat→Prop}(h:eA P w own)(hk:er M w w')(hM:∀ b,M b→w.heap.size≤b∨own b)(ho:∀ b,own' b→M b):eA P w' own':=fun q hq g hg=>by
 obtain ⟨h1,v,h2,hv⟩:=h q hq g hg;have h3:=h2;unfold World.var? at h2;rw[hg] at h2;simp only[zy5] at h2;have hlt:g<w.heap.size:=by
  rcases Nat.lt_or_ge g w.heap.size with h | h
  ·exact h
  ·rw[Array.getElem?_eq_none h] at h2;cases h2
 have hn:¬ M g:=fun hm=>by
  rcases hM g hm with h | h
  ·omega
  ·exact h1 h
 refine ⟨fun k=>hn (ho g k),v,?_,hv⟩;unfold World.var?;rw[hg];simp only[zy5];rw[hk.block g hn];exact h2
theorem eA.rI{P:Program}{w:World}{own:Nat→Prop}(h:eA P w own){n:String}{k:tu}(hm:(n,k)∈mq){g:Nat}(hg:P.globalNamed n=some g):∃ v,w.var? P n=some v∧rV k v:=(h _ hm g hg).2
structure xg (c:cm) (w:World) (D:aD) (E:aN):Prop where
 df:er c.eg c.cP w
 cw:∀ b o,c.bH b o→D b o
 cI:∀ b o,D b o→¬ c.eg b→c.bH b o
 dy:∀ n e,c.cu n=some e→E n=none∨∃ e',E n=some e'∧e.fo e'
 fb:fM c.cP c.bH w
 pH:eA c.P w (bQ E)
def qK(P:Program)(v:Value)(vs:Array Value)(w:World)(R:Ending→World→Prop):Prop :=
 ∃ l,v=.func (.yield l) #[] #[]∧YieldAt Fence.wide 9 P l vs w R
def nv(c:cm):Prop:=eA c.P c.cP c.own∧∀ v args os post,c.Y v args os post→lZ (qK c.P v) (xg c) args os post
def l8(dC:Option (List Deferred))(cP:World)(ds:List Deferred)(w:World):Prop:=match dC with
 |none=>∃ Bs:List Nat,ds=Bs.map (fun B => { target:=.collected B,args := #[] })∧Bs.Nodup∧∀ B∈Bs,cP.heap.size≤B∧w.heap[B]?=some (.deferred (some []))
 |some l=>ds=l
theorem l8.mono{dC:Option (List Deferred)}{cP w w':World}{ds:List Deferred}(h:l8 dC cP ds w)(hk:∀ B,cP.heap.size≤B→w.heap[B]?=some (.deferred (some []))→w'.heap[B]?=some (.deferred (some []))):l8 dC cP ds w':=by
 cases dC with
 |none =>
  obtain ⟨Bs,h1,h2,h3⟩:=h;exact ⟨Bs,h1,h2,fun B hB=>⟨(h3 B hB).1,hk B (h3 B hB).1 (h3 B hB).2⟩⟩
 |some l=>exact h
theorem l8.grow{dC:Option (List Deferred)}{cP w w':World}{ds:List Deferred}(h:l8 dC cP ds w)(hk:Below w.heap.size w w'):l8 dC cP ds w' :=
 h.mono fun B _ hB=>(hk.block B (Y3.1 hB).1).trans hB
structure aL (c:cm) (A:ab) (a:Act) (w:World) (D:aD) (E:aN):Prop where
 sz:a.tmps.size=c.n
 ec:l8 c.dC c.cP a.defers w
 dB:∀ t,aP w D E (A.t t) (a.tmps.getD t undef)
 df:er c.eg c.cP w
 cI:∀ b o,D b o→¬ c.eg b→c.bH b o
 cL:∀ b o,D b o→b<w.heap.size
 bz:∀ n,cX c.eg w D E n (A.o n)
 cz:∀ n m e e' b,E n=some e→E m=some e'→e.aA=some b→e'.aA=some b→n=m
 dy:∀ n e,c.cu n=some e→E n=none∨∃ e',E n=some e'∧e.fo e'
 eF:∀ n,c.cu n≠none→c.n≤n∧1000000≤n
 cw:∀ b o,c.bH b o→D b o
 eI:nv c
 fb:fM c.cP c.bH w
def bA(c:cm)(A:ab)(a:Act)(w:World):Prop:=∃ D E,aL c A a w D E
section
variable {c:cm} {A:ab} {a:Act} {w:World} {D:aD} {E:aN}
theorem aL.jL(h:aL c A a w D E){w':World}{D':aD}{E':aN}(hl:dh w D E w' D' E'):fM c.cP c.bH w':=h.fb.trans h.cw hl.fb
theorem aL.uN(h:aL c A a w D E){n:Nat}{e:br}(hn:c.cu n=some e)(hf:e.eh=true):E n=none∨E n=some e:=by
 rcases h.dy n e hn with k | ⟨e',k,hle⟩
 ·exact .inl k
 ·rw[hle.eq hf] at k;exact .inr k
theorem pQ{M:Nat→Prop}{n:Nat}{x:ai}(h:cX M w D E n (some x)):E n≠none:=by
 cases x with
 |box x=>obtain ⟨b,cs,T,h1,_⟩:=h;rw[h1];simp
 |bE T sz es=>obtain ⟨aA,h1,_⟩:=h;rw[h1];simp
 |db o=>obtain ⟨b,h1,_⟩:=h;rw[h1];simp
 |b7 ks vs=>obtain ⟨b,es,ck,h1,_⟩:=h;rw[h1];simp
 |it ks vs left=>obtain ⟨r,b,es,ck,dK,se,la,h1,_⟩:=h;rw[h1];simp
 |dL T xs=>obtain ⟨aA,h1,_⟩:=h;rw[h1];simp
theorem eG{w:World}{b:Nat}{o:Obj}(h:w.heap[b]?=some o):b<w.heap.size:=(Y3.1 h).1
theorem aL.eW(h:aL c A a w D E){n:Nat}{e:br}{b:Nat}(he:E n=some e)(hb:e.aA=some b):b<w.heap.size:=by
 have:=h.bz n;unfold cX at this;split at this
 ·simp[this] at he
 ·obtain ⟨b',cs,T,h1,h2,h3,_⟩:=this;rw[h1,v6] at he;subst he;simp only[br.aA,v6] at hb;subst hb;exact h3.lt
 ·obtain ⟨aA,h1,h2,h3⟩:=this;rw[h1,v6] at he;subst he;split at h3
  ·simp[br.aA] at hb
  ·obtain ⟨cs,pre,rest,h4,h5,_⟩:=h3;simp only[br.aA,v6] at hb;subst hb;exact eG h5
 ·obtain ⟨b',h1,h2,h3,_⟩:=this;rw[h1,v6] at he;subst he;simp only[br.aA,v6] at hb;subst hb;exact eG h3
 ·obtain ⟨b',es,ck,h1,h2,h3,_⟩:=this;rw[h1,v6] at he;subst he;simp only[br.aA,v6] at hb;subst hb;exact eG h3
 ·obtain ⟨r,b',es,ck,dK,se,la,h1,h2,h3,_⟩:=this;rw[h1,v6] at he;subst he;simp only[br.aA,v6] at hb;subst hb;exact eG h3
 ·obtain ⟨aA,h1,h2,h3⟩:=this;rw[h1,v6] at he;subst he;split at h3
  ·simp[br.aA] at hb
  ·obtain ⟨cs,m,h4,h5,_⟩:=h3;simp only[br.aA,v6] at hb;subst hb;exact eG h5
theorem aL.vG(h:aL c A a w D E){n b:Nat}{e:br}(he:E n=some e)(ho:e.ew=true)(hb:e.aA=some b):∀ o,¬ D b o:=by
 have:=h.bz n;unfold cX at this;split at this
 ·rw[this] at he;cases he
 ·obtain ⟨b',cs,T,h1,_⟩:=this;rw[h1] at he;cases he;cases ho
 ·obtain ⟨aA,h1,_⟩:=this;rw[h1] at he;cases he;cases ho
 ·obtain ⟨b',h1,_,_,_,h5⟩:=this;rw[h1] at he;cases he;cases hb;exact h5
 ·obtain ⟨b',es,ck,h1,_,_,_,_,_,h5⟩:=this;rw[h1] at he;cases he;cases hb;exact h5
 ·obtain ⟨r,b',es,ck,dK,se,la,h1,_,_,_,_,_,_,_,_,_,h5⟩:=this;rw[h1] at he;cases he;cases hb;exact h5
 ·obtain ⟨aA,h1,_⟩:=this;rw[h1] at he;cases he;cases ho
theorem cX.later{M:Nat→Prop}{w':World}{D':aD}{E':aN}{n:Nat}{x:Option ai}(h:cX M w D E n x)(hl:dh w D E w' D' E')(aq:E' n=E n)
  (hheap:∀ e b,E n=some e→e.aA=some b→w'.heap[b]?=w.heap[b]?∧∀ o,D' b o→D b o):cX M w' D' E' n x:=by
 unfold cX at *;split
 ·rw[aq];exact h
 ·obtain ⟨b,cs,T,h1,h2,h3,h4,h5⟩:=h;obtain ⟨k1,k2⟩:=hheap _ b h1 rfl;exact ⟨b,cs,T,aq.trans h1,h2,h3.VW k1,ae.later hl _ _ h4,fun o ho=>h5 o (k2 o ho)⟩
 ·obtain ⟨aA,h1,h2,h3⟩:=h;refine ⟨aA,aq.trans h1,h2,?_⟩;split
  ·exact h3
  ·rename_i b cap;obtain ⟨cs,pre,rest,h4,h5,h6,h7,h8,h9,h10,h11⟩:=h3;obtain ⟨k1,k2⟩:=hheap _ b h1 rfl;exact ⟨cs,pre,rest,h4,k1.trans h5,h6,az.later hl _ _ h7,h8,h9,h10,fun o ho=>h11 o (k2 o ho)⟩
 ·obtain ⟨b,h1,h2,h3,h4,h5⟩:=h;obtain ⟨k1,k2⟩:=hheap _ b h1 rfl;exact ⟨b,aq.trans h1,h2,k1.trans h3,h4,fun o ho=>h5 o (k2 o ho)⟩
 ·obtain ⟨b,es,ck,h1,h2,h3,h4,h5,h6,h7⟩:=h;obtain ⟨k1,k2⟩:=hheap _ b h1 rfl;exact ⟨b,es,ck,aq.trans h1,h2,k1.trans h3,h4,ao.later hl _ _ h5,ao.later hl _ _ h6,fun o ho=>h7 o (k2 o ho)⟩
 ·obtain ⟨r,b,es,ck,dK,se,la,h1,h2,h3,h4,h5,h6,h7,h8,h9,h9',h10⟩:=h;obtain ⟨k1,k2⟩:=hheap _ r h1 rfl;exact ⟨r,b,es,ck,dK,se,la,aq.trans h1,h2,k1.trans h3,h4.later hl,ao.later hl _ _ h5,ao.later hl _ _ h6,h7,h8,h9,h9',fun o ho=>h10 o (k2 o ho)⟩
 ·obtain ⟨aA,h1,h2,h3⟩:=h;refine ⟨aA,aq.trans h1,h2,?_⟩;split
  ·exact h3
  ·rename_i b cap;obtain ⟨cs,m,h4,h5,h6,h7,h8,h9,h10⟩:=h3;obtain ⟨k1,k2⟩:=hheap _ b h1 rfl;exact ⟨cs,m,h4,k1.trans h5,h6,h7,h8,h9,fun o ho=>h10 o (k2 o ho)⟩
theorem dh.grow{w':World}{D':aD}(hb:Below w.heap.size w w')(hD:∀ b o,D b o→D' b o):dh w D E w' D' E:=by
 refine ⟨hD,fun b o v _ hv =>?_,fun _ _ _ h=>h,fun _ aA l h=>⟨aA,l,h,Z5 _,fun _=>rfl⟩,fun _ _ h=>h,fun _ _ h=>h,fun b es ck _ hm=>(hb.block b (eG hm)).trans hm⟩;rw[hb.cell (World.block_lt_of_cell? w _ hv)];exact hv
theorem aL.Ap(h:aL c A a w D E){w':World}(hb:Below w.heap.size w w'):er c.eg w w':=er.grow hb fun k hk=>.inl (Nat.le_trans h.df.size hk)
theorem aL.old(h:aL c A a w D E){b:Nat}(hm:¬ c.eg b):b<w.heap.size :=
 Nat.lt_of_lt_of_le (Nat.lt_of_not_le fun hle=>hm (.inl hle)) h.df.size
theorem aL.iY(h:aL c A a w D E){d:Nat}(hd:d<c.n∨d<1000000):c.cu d=none:=by
 cases hh:c.cu d with
 |none=>rfl
 |some e=>have:=h.eF d (by rw[hh];simp);omega
theorem aL.grow(h:aL c A a w D E){w':World}{D':aD}(hb:Below w.heap.size w w')(hD:∀ b o,D b o→D' b o)
  (hold:∀ b o,D' b o→b<w.heap.size→D b o) (hlive:∀ b o,D' b o→b<w'.heap.size):aL c A a w' D' E:=by
 have hl:dh w D E w' D' E:=dh.grow hb hD;refine ⟨h.sz,h.ec.grow hb,fun t=>aP.later hl (h.dB t),h.df.trans (h.Ap hb),fun b o hd hm=>h.cI b o (hold b o hd (h.old hm)) hm,hlive,
  fun n=>(h.bz n).later hl rfl (fun e b he hb'=>⟨hb.block b (h.eW he hb'),fun o ho=>hold b o ho (h.eW he hb')⟩),h.cz,h.dy,h.eF,fun b o hd=>hD b o (h.cw b o hd),h.eI,h.jL hl⟩
theorem aL.Er(h:aL c A a w D E){D':aD}(hD:∀ b o,D b o→D' b o)
  (hold:∀ b o,D' b o→¬ c.eg b→c.bH b o) (hlive:∀ b o,D' b o→b<w.heap.size)
  (hbox:∀ n x b,A.o n=some (.box x)→E n=some (.aB b x.aK)→∀ o,¬ D' b o)
  (hrow:∀ n T sz es b cap,A.o n=some (.bE T sz es)→E n=some (.rw (some (b,cap)) es.length)→∀ o,D' b o→o<es.length*sz)
  (hui:∀ n T xs b cap,A.o n=some (.dL T xs)→E n=some (.rw (some (b,cap)) xs.length)→∀ o,¬ D' b o)
  (hopq:∀ n e b,E n=some e→e.ew=true→e.aA=some b→∀ o,¬ D' b o):aL c A a w D' E:=by
 have hl:dh w D E w D' E:=⟨hD,fun _ _ _ _ h=>h,fun _ _ _ h=>h,fun _ aA l h=>⟨aA,l,h,Z5 _,fun _=>rfl⟩,fun _ _ h=>h,fun _ _ h=>h,fun _ _ _ _ h=>h⟩
 refine ⟨h.sz,h.ec,fun t=>aP.later hl (h.dB t),h.df,hold,hlive,fun n =>?_,h.cz,h.dy,h.eF,fun b o hd=>hD b o (h.cw b o hd),h.eI,h.fb⟩;have ho:=h.bz n;cases hx:A.o n with
 |none=>rw[hx] at ho;exact ho
 |some x =>
  cases x with
  |box x =>
   rw[hx] at ho;obtain ⟨b,cs,T,h1,h2,h3,h4,h5⟩:=ho;exact ⟨b,cs,T,h1,h2,h3,ae.later hl _ _ h4,hbox n x b hx h1⟩
  |bE T sz es =>
   rw[hx] at ho;obtain ⟨aA,h1,h2,h3⟩:=ho;refine ⟨aA,h1,h2,?_⟩;cases aA with
   |none=>exact h3
   |some bc =>
    obtain ⟨b,cap⟩:=bc;obtain ⟨cs,pre,rest,h4,h5,h6,h7,h8,h9,h10,h11⟩:=h3;refine ⟨cs,pre,rest,h4,h5,h6,az.later hl _ _ h7,h8,h9,h10,fun o hd =>?_⟩;rw[az.length _ _ h7,I.fY _ h2];exact hrow n T sz es b cap hx h1 o hd
  |db x =>
   rw[hx] at ho;obtain ⟨b,h1,h2,h3,h4,h5⟩:=ho;exact ⟨b,h1,h2,h3,h4,hopq n _ b h1 rfl rfl⟩
  |b7 ks vs =>
   rw[hx] at ho;obtain ⟨b,es,ck,h1,h2,h3,h4,h5,h6,h7⟩:=ho;exact ⟨b,es,ck,h1,h2,h3,h4,ao.later hl _ _ h5,ao.later hl _ _ h6,hopq n _ b h1 rfl rfl⟩
  |it ks vs left cur =>
   rw[hx] at ho;obtain ⟨r,b,es,ck,dK,se,la,h1,h2,h3,h4,h5,h6,h7,h8,h9,h9',h10⟩:=ho;exact ⟨r,b,es,ck,dK,se,la,h1,h2,h3,h4.later hl,ao.later hl _ _ h5,ao.later hl _ _ h6,h7,h8,h9,h9',hopq n _ r h1 rfl rfl⟩
  |dL T xs =>
   rw[hx] at ho;obtain ⟨aA,h1,h2,h3⟩:=ho;refine ⟨aA,h1,h2,?_⟩;cases aA with
   |none=>exact h3
   |some bc =>
    obtain ⟨b,cap⟩:=bc;obtain ⟨cs,m,h4,h5,h6,h7,h8,h9,h10⟩:=h3;exact ⟨cs,m,h4,h5,h6,h7,h8,h9,hui n T xs b cap hx h1⟩
theorem Tj(a:Act)(d:Nat)(v:Value)(t:Nat)(hd:d<a.tmps.size):(a.put (some d) v).tmps.getD t undef=if t=d then v else a.tmps.getD t undef:=by
 simp only[Act.put,Array.getD_eq_getD_getElem?,Array.getElem?_setIfInBounds];by_cases h:t=d
 ·subst h;simp[hd]
 ·simp[h,Ne.symm h]
theorem aL.put(h:aL c A a w D E){d:Nat}{x:I}{v:Value}(hd:d<c.n)(hv:aP w D E x v):aL c (A.put d x) (a.put (some d) v) w D E:=by
 refine ⟨by simp[Act.put,h.sz],by exact h.ec,fun t =>?_,h.df,h.cI,h.cL,h.bz,h.cz,h.dy,h.eF,h.cw,h.eI,h.fb⟩;rw[Tj a d v t (by rw[h.sz];exact hd)];simp only[ab.put];split
 ·exact hv
 ·exact h.dB t
theorem aL.aM(h:aL c A a w D E){d:Option Nat}{x:I}{v:Value}(hd:∀ k,d=some k→k<c.n)(hv:aP w D E x v):aL c (A.aM d x) (a.put d v) w D E:=by
 cases d with
 |none=>exact h
 |some d=>exact h.put (hd d rfl) hv
theorem iU(w:World)(o:Obj):Below w.heap.size w (w.alloc o):=(Below.refl _ _).alloc (Z5 _) o
theorem Dw{w:World}{D:aD}{E:aN} : ∀ {xs:List I} {vs:List Value},ao w D E xs vs→vs.length=xs.length
 | [],vs,h=>by simp only[ao] at h;subst h;rfl
 |x::xs,vs,h=>by
  simp only[ao] at h;obtain ⟨v,rest,cs,rfl,_,_,h3⟩:=h;simp[Dw h3]
theorem aL.si(h:aL c A a w D E){d:Nat}{x:ai}{o':Obj}{e:br}(hdn:d<c.n∨d<1000000)(hd:A.o d=none)(heb:e.aA=some w.heap.size)
  (hx:dh w D E (w.alloc o') D (fun n=>if n=d then some e else E n)→(∀ o,¬ D w.heap.size o)→cX c.eg (w.alloc o') D (fun n=>if n=d then some e else E n) d (some x)) :
  aL c (A.aO d x) a (w.alloc o') D (fun n=>if n=d then some e else E n):=by
 have hEd:E d=none:=by have:=h.bz d;rw[hd] at this;exact this
 have hne:∀ {n:Nat} {e:br},E n=some e→n≠d:=fun he e'=>by rw[e',hEd] at he;cases he
 have hl:dh w D E (w.alloc o') D (fun n=>if n=d then some e else E n):=by
  refine ⟨fun _ _ h=>h,fun b o v _ hv =>?_,fun n b aK he =>?_,fun n aA l he =>?_,fun n b he =>?_,fun n b he =>?_,fun b es ck _ hm=>(Below.heap_alloc w _ b (eG hm)).trans hm⟩
  ·rw[World.cell?_alloc_lt _ _ _ (World.block_lt_of_cell? w _ hv)];exact hv
  ·simp only[if_neg (hne he)];exact he
  ·exact ⟨aA,l,by simp only[if_neg (hne he)];exact he,Z5 _,fun _=>rfl⟩
  ·simp only[if_neg (hne he)];exact he
  ·simp only[if_neg (hne he)];exact he
 refine ⟨h.sz,h.ec.grow (iU w _),fun t=>aP.later hl (h.dB t),h.df.trans (h.Ap (iU w _)),h.cI,fun b o hd'=>by have:=h.cL b o hd';simp;omega,fun n =>?_,?_,fun n e' hn =>?_,h.eF,h.cw,h.eI,h.jL hl⟩
 ·simp only[ab.aO];by_cases hn:n=d
  ·subst hn;simp only[if_true];exact hx hl fun o ho=>Nat.lt_irrefl _ (h.cL _ o ho)
  ·simp only[if_neg hn];exact (h.bz n).later hl (by simp only[if_neg hn]) fun e b he hb=>⟨Below.heap_alloc w _ b (h.eW he hb),fun _ ho=>ho⟩
 ·intro n m e1 e2 b h1 h2 h3 h4;by_cases hn:n=d <;>by_cases hm:m=d
  ·rw[hn,hm]
  ·simp only[if_pos hn,v6] at h1;simp only[if_neg hm] at h2;subst h1;rw[heb] at h3;cases h3;have:=h.eW h2 h4;omega
  ·simp only[if_neg hn] at h1;simp only[if_pos hm,v6] at h2;subst h2;rw[heb] at h4;cases h4;have:=h.eW h1 h3;omega
  ·simp only[if_neg hn] at h1;simp only[if_neg hm] at h2;exact h.cz n m e1 e2 b h1 h2 h3 h4
 ·have hnd:n≠d:=fun e=>by rw[e,h.iY hdn] at hn;cases hn
  simp only[if_neg hnd];exact h.dy n e' hn
theorem aL.pP(h:aL c A a w D E){d:Nat}{x:I}{cs:Array Value}{T:TypeId}(hdn:d<c.n∨d<1000000)(hd:A.o d=none)(hx:ae w D E x cs.toList) :
  aL c (A.aO d (.box x)) a (w.alloc (.cells cs T)) D (fun n=>if n=d then some (.aB w.heap.size x.aK) else E n) :=
 h.si hdn hd rfl fun hl hno=>⟨w.heap.size,cs,T,by simp,.inl h.df.size,.VU (heap_alloc_new w _),ae.later hl _ _ hx,hno⟩
theorem aL.U6(h:aL c A a w D E){d:Nat}(hdn:d<c.n∨d<1000000)(hd:A.o d=none) :
  aL c (A.aO d (.b7 [] [])) a (w.alloc (.map #[] 0)) D (fun n=>if n=d then some (.b7 w.heap.size) else E n) :=
 h.si hdn hd rfl fun _ hno=>⟨w.heap.size,#[],0,by simp,.inl h.df.size,heap_alloc_new w _,⟨by simp,by simp⟩,by simp[ao],by simp[ao],hno⟩
theorem aL.U5(h:aL c A a w D E){d b clock:Nat}{ks vs:List I}{es:Array MapEntry}(hdn:d<c.n∨d<1000000)(hd:A.o d=none)(hm:mw w D b es clock)(hk:ao w D E ks (es.toList.map (·.key)))(hv:ao w D E vs (es.toList.map (·.val))) :
  aL c (A.aO d (.it ks vs (List.range ks.length) none)) a (w.alloc (.mapIter (some b) clock #[] clock)) D (fun n=>if n=d then some (.it w.heap.size) else E n) :=
 h.si hdn hd rfl fun hl hno=>⟨w.heap.size,b,es,clock,clock,#[],clock,by simp,.inl h.df.size,heap_alloc_new w _,hm.later hl,ao.later hl _ _ hk,ao.later hl _ _ hv,hm.2.2.1,⟨Z5 _,Z5 _⟩,by
  have e:ks.length=es.size:=by have:=Dw hk;simpa using this.symm
  rw[e];unfold mr;exact (List.filter_eq_self.2 fun i hi=>by
   have hi':i<es.size:=by simpa using hi
   simp[Array.getElem?_eq_getElem hi']).symm,(fun i hi=>by cases hi),hno⟩
theorem tZ(w:World)(g:Nat)(cs:Array Value)(p:Addr)(h:p.block≠g):(w.setRow g cs).cell? p=w.cell? p :=
 World.cell?_of_block (setRow_other w g p.block cs h)
theorem u9{M:Nat→Prop}{cP w:World}(h:er M cP w){g:Nat}(hg:M g)(cs:Array Value):er M cP (w.setRow g cs) :=
 h.trans ⟨rfl,rfl,rfl,by simp[World.setRow],fun k hk=>setRow_other w g k cs (fun e=>hk (e▸hg))⟩
theorem aL.wj(h:aL c A a w D E){n b:Nat}{x y:I}{cs':Array Value}(hn:A.o n=some (.box x))(aq:E n=some (.aB b x.aK))(hs:y.aK=x.aK)(hy:ae w D E y cs'.toList) :
  aL c (A.aO n (.box y)) a (w.setRow b cs') D E:=by
 have ho:=h.bz n;rw[hn] at ho;obtain ⟨b',cs,T,h1,h2,h3,h4,h5⟩:=ho;rw[aq] at h1;simp only[v6,br.aB.injEq,and_true] at h1;subst h1;have hl:dh w D E (w.setRow b cs') D E:=by
  refine ⟨fun _ _ h=>h,fun b1 o v hd hv =>?_,fun _ _ _ h=>h,fun _ aA l h=>⟨aA,l,h,Z5 _,fun _=>rfl⟩,fun _ _ h=>h,fun _ _ h=>h,fun b1 es ck hd hm=>(setRow_other w b b1 _ (fun e=>h5 0 (by rw[←e];exact hd))).trans hm⟩;rw[tZ _ _ _ _ (fun e=>h5 o (by rw[←e];exact hd))];exact hv
 refine ⟨h.sz,h.ec.mono fun B _ hB=>(setRow_other w b B cs' (fun e=>h3.Bl (by rw[←e];exact hB))).trans hB,fun t=>aP.later hl (h.dB t),u9 h.df h2 _,h.cI,fun b1 o hd=>by have:=h.cL b1 o hd;simpa[World.setRow] using this,fun m =>?_,h.cz,h.dy,h.eF,h.cw,h.eI,h.jL hl⟩;simp only[ab.aO];by_cases hm:m=n
 ·subst hm;simp only[if_true,cX];exact ⟨b,cs',T,by rw[hs];exact aq,h2,dZ.aK (h3.setRow (by have a1:=ae.length _ _ hy;have a2:=ae.length _ _ h4;rw[←I.hE,hs,I.hE,←a2] at a1;simpa using a1)) hs,ae.later hl _ _ hy,h5⟩
 ·simp only[if_neg hm];refine (h.bz m).later hl rfl fun e b1 he hb=>⟨setRow_other w b b1 cs' (fun e1=>hm (h.cz m n e _ b he aq (by rw[hb,e1]) rfl)),fun _ ho=>ho⟩
theorem ua{w:World}{B:Nat}{o o':Obj}(h:w.heap[B]?=some o)(ho:o.isCells=false){b off:Nat}{v:Value}(hv:w.cell? ⟨b,off,none⟩=some v):(w.putObj B o').cell? ⟨b,off,none⟩=some v:=by
 have hne:b≠B:=fun e=>by
  obtain ⟨o2,h2,h3⟩:=cells_of_cell hv;simp only at h2;rw[e,h] at h2;cases h2;rw[ho] at h3;cases h3
 rw[World.cell?_of_block (w:=w) (World.putObj_heap_other hne)];exact hv
theorem aL.wm(h:aL c A a w D E){n b:Nat}{e:br}{x:ai}{o0 o':Obj}(aq:E n=some e)(ho:e.ew=true)(hb:e.aA=some b)(hw:w.heap[b]?=some o0)(hnc:o0.isCells=false)(hnd:∀ q,o0≠.deferred q)(hmine:c.eg b)
  (hx:dh w D E (w.putObj b o') D E→(w.putObj b o').heap[b]?=some o'→(∀ o,¬ D b o)→cX c.eg (w.putObj b o') D E n (some x)):aL c (A.aO n x) a (w.putObj b o') D E:=by
 have hno:=h.vG aq ho hb;have hlt:b<w.heap.size:=eG hw;have hl:dh w D E (w.putObj b o') D E:=⟨fun _ _ h=>h,fun b1 o1 v _ hv=>ua hw hnc hv,fun _ _ _ h=>h,fun _ aA l h=>⟨aA,l,h,Z5 _,fun _=>rfl⟩,fun _ _ h=>h,fun _ _ h=>h,
  fun b1 es ck hd hm=>(World.putObj_heap_other (fun e1=>hno 0 (by rw[←e1];exact hd))).trans hm⟩
 refine ⟨h.sz,h.ec.mono fun B _ hB=>(World.putObj_heap_other (fun e1=>by rw[e1,hw] at hB;exact hnd _ (Option.some.inj hB))).trans hB,fun t=>aP.later hl (h.dB t),h.df.trans ⟨rfl,rfl,rfl,by simp,fun k hk=>World.putObj_heap_other (fun e1=>hk (e1▸hmine))⟩,h.cI,
  fun b1 o1 hd=>by have:=h.cL b1 o1 hd;simpa using this,fun m =>?_,h.cz,h.dy,h.eF,h.cw,h.eI,h.jL hl⟩
 simp only[ab.aO];by_cases hm:m=n
 ·subst hm;simp only[if_true];exact hx hl (World.putObj_heap_same hlt) hno
 ·simp only[if_neg hm];exact (h.bz m).later hl rfl fun e' b1 he hb'=>⟨World.putObj_heap_other (fun e1=>hm (h.cz m n e' _ b1 he aq hb' (by rw[e1];exact hb))),fun _ ho=>ho⟩
end
inductive au where
 |t (n:Nat)
 |c (x:I)
 deriving Inhabited
inductive bZ where
 |i (k:IntKind)
 |b
 |s
 |aV (l:List bZ)
 |oT (n:Nat) (e:bZ)
 deriving Inhabited
mutual
def bZ.size:bZ→Nat
 | .i _ | .b | .s=>1
 | .aV l=>bZ.sizes l
 | .oT n e=>n*e.size
def bZ.sizes:List bZ→Nat
 | []=>0
 |t::ts=>t.size+bZ.sizes ts
end
inductive tw where
 |dK
 |ss (lo hi:Bool)
 |mz (neg:Bool)
 |min2
 |lI (T:TypeId)
 |j8
 deriving Inhabited,DecidableEq
inductive bq where
 |mv (x:au)
 |pick (c a b:au)
 |bin (op:BinOp) (x y:au)
 |eqv (ty:bZ) (neg:Bool) (x y:au)
 |nilS (neg:Bool) (x:au)
 |conv (k:IntKind) (x:au)
 |un (op:UnOp) (x:au)
 |ld (s:Option Nat) (x:au)
 |fa (f off:Nat) (x:au)
 |fl (f off:Nat) (s:Option Nat) (x:au)
 |ia (n esz:Nat) (x i:au)
 |is (esz:Nat) (x i:au)
 |ix (n esz:Nat) (s:Option Nat) (x i:au)
 |len (x:au)
 |lenT (x:au)
 |va (n esz:Nat) (x:au)
 |sl (esz:Nat) (x:au) (lo hi mx:Option au)
 |bld (zs:List I) (parts:List (Nat×au))
 |bs (T esz:Nat) (parts:List au)
 |ext (x:au) (i:Nat)
 |mk (f:FuncId) (caps:List au)
 |alloc (z:I)
 |box (x:au)
 |aV (s:Option Nat) (x v:au)
 |dM (e:TypeId) (esz bytes:Nat) (z:I) (s x:au)
 |jj (e:TypeId) (esz bytes:Nat) (z:I) (s n:au)
 |cap (x:au)
 |bs0 (esz:Nat)
 |iV (esz:Nat) (z:I) (x:au)
 |fP (esz:Nat) (x y:au)
 |call (f:FuncId) (args:List au)
 |eX (x:au) (args:List au)
 |gv (f:FuncId) (args:List au)
 |nilC (x:au)
 |ptrE (neg:Bool) (x y:au)
 |max2 (x y:au)
 |prim (p:tw) (xs:List au)
 |b2s (x:au)
 |ef (x:au)
 |jd (e:TypeId) (bytes:Nat) (z:I) (n:au)
 |j5
 |lk (ty:bZ) (z:I) (ok:Bool) (m k:au)
 |jA (ty:bZ) (m k v:au)
 |kR (ty:bZ) (m k:au)
 |jI (x:au)
 |jB (x:au)
 |ent (x:au)
 deriving Inhabited
def qV(sz:Nat):Value→Option I
 | .bool b=>some (.bool b)
 | .int k n=>if k.min≤n∧n≤k.max then some (.int k n) else none
 | .string s=>if s.size≤1000000 then some (.aj s) else none
 | .pointer none=>some .nilp
 | .slice none 0 0=>some (.nils sz)
 | .nilFunc=>some .c8
 | .nilIface=>some .cN
 | .map none=>some (.raw (.map none))
 |_=>none
theorem Gv{sz:Nat}{v:Value}{x:I}(h:qV sz v=some x)(w:World)(D:aD)(E:aN):aP w D E x v:=by
 unfold qV at h;split at h
 case h_2 =>
  split at h
  ·rename_i hh;simp only[v6] at h;subst h;exact ⟨_,by simp[aW,I.isAgg];rfl,by simp only[ae,true_and];exact hh⟩
  ·simp at h
 case h_3 =>
  split at h
  ·rename_i hh;simp only[v6] at h;subst h;exact ⟨_,by simp[aW,I.isAgg];rfl,by simp only[ae,true_and];unfold maxLen;omega⟩
  ·simp at h
 case h_9=>simp at h
 all_goals
  simp only[v6] at h;subst h;exact ⟨_,by simp[aW,I.isAgg];rfl,by simp[ae,Value.oneCell']⟩
def K4(P:Program)(t:TypeId):Nat:=match P.underlying t with | some (.slice e)=>P.cellsOf e | _=>0
def aS(P:Program)(t:TypeId):Operand→Option au
 | .tmp n=>some (.t n)
 | .const v=>(qV (K4 P t) v).map .c
 | .func f=>if f<1000000 then some (.c (.func f [])) else none
 | .global _=>none
def af(A:ab):au→I
 | .t n=>A.t n
 | .c x=>x
section
variable {c:cm} {A:ab} {a:Act} {w:World} {D:aD} {E:aN}
theorem bn(h:aL c A a w D E){P:Program}{t:TypeId}{x:Operand}{y:au}(hc:aS P t x=some y):aP w D E (af A y) (a.eval x):=by
 cases x with
 |tmp n=>simp only[aS,v6] at hc;subst hc;exact h.dB n
 |const v =>
  simp only[aS,t7] at hc;obtain ⟨z,hz,rfl⟩:=hc;exact Gv hz w D E
 |global g=>simp[aS] at hc
 |func f =>
  simp only[aS] at hc;split at hc
  case isFalse=>cases hc
  rename_i hf;simp only[v6] at hc;subst hc;exact ⟨[.func (.func f) #[] #[]],by simp[aW,I.isAgg,af,Act.eval],by simp only[ae,af,ao];exact ⟨[],by rw[lC hf],rfl⟩⟩
theorem kc{b:Bool}{v:Value}(h:aP w D E (.bool b) v):v=.bool b:=by
 obtain ⟨cs,h1,h2⟩:=h;simp only[ae] at h2;simp[aW,I.isAgg,h2] at h1;exact h1.symm
theorem dp{k:IntKind}{n:Int}{v:Value}(h:aP w D E (.int k n) v):v=.int k n∧k.min≤n∧n≤k.max:=by
 obtain ⟨cs,h1,h2⟩:=h;simp only[ae] at h2;simp[aW,I.isAgg,h2.1] at h1;exact ⟨h1.symm,h2.2⟩
theorem fL{s:ByteArray}{v:Value}(h:aP w D E (.aj s) v):v=.string s∧s.size≤maxLen:=by
 obtain ⟨cs,h1,h2⟩:=h;simp only[ae] at h2;simp[aW,I.isAgg,h2.1] at h1;exact ⟨h1.symm,h2.2⟩
theorem Bi{x:I}{v:Value}(hx:x.isAgg=false)(h:ae w D E x [v]):aP w D E x v:=by
 cases x <;>simp only[ae] at h <;>first | (simp[I.isAgg] at hx;done) | exact ⟨[v],by simp[aW,I.isAgg],by simpa only[ae] using h⟩
theorem iu{fs:List I}{v:Value}(h:aP w D E (.agg fs) v):∃ cs:List Value,v=.agg cs.toArray∧az w D E fs cs:=by
 obtain ⟨cs,h1,h2⟩:=h;simp only[ae] at h2;exact ⟨cs,by simpa[aW,I.isAgg] using h1,h2⟩
theorem Bg{fs:List I}{cs:List Value}(h:az w D E fs cs):aP w D E (.agg fs) (.agg cs.toArray):=⟨cs,by simp[aW,I.isAgg],by simpa only[ae] using h⟩
theorem j4(b:Bool):aP w D E (.bool b) (.bool b):=⟨[.bool b],by simp[aW,I.isAgg],by simp[ae]⟩
theorem gS{k:IntKind}{n:Int}(h:k.min≤n∧n≤k.max):aP w D E (.int k n) (.int k n):=⟨[.int k n],by simp[aW,I.isAgg],by simp only[ae,true_and];exact h⟩
theorem kd{n:Nat}{p:List Nat}{v:Value}(h:aP w D E (.ptr n p) v):∃ b aK off,E n=some (.aB b aK)∧aK.off p=some off∧v=.pointer (some ⟨b,off,none⟩):=by
 obtain ⟨cs,h1,h2⟩:=h;simp only[ae] at h2;obtain ⟨b,aK,off,h3,h4,h5⟩:=h2;exact ⟨b,aK,off,h3,h4,by simpa[aW,I.isAgg,h5] using h1.symm⟩
theorem oj{x:I}{v:Value}(h:aP w D E (.ref x) v):∃ b off cs,v=.pointer (some ⟨b,off,none⟩)∧reads w D b off cs∧ae w D E x cs:=by
 obtain ⟨cs,h1,h2⟩:=h;simp only[ae] at h2;obtain ⟨b,off,cs',h3,h4,h5⟩:=h2;exact ⟨b,off,cs',by simpa[aW,I.isAgg,h3] using h1.symm,h4,h5⟩
theorem sa{x:I}{b off:Nat}{cs:List Value}(h1:reads w D b off cs)(h2:ae w D E x cs):aP w D E (.ref x) (.pointer (some ⟨b,off,none⟩)) :=
 ⟨_,by simp[aW,I.isAgg];rfl,by simp only[ae];exact ⟨b,off,cs,rfl,h1,h2⟩⟩
theorem ke{sz:Nat}{es:List I}{v:Value}(h:aP w D E (.slice sz es) v):∃ ad cap,v=.slice ad es.length cap∧es.length≤cap∧cap≤maxLen ∧
  (es=[]∨∃ b off cs,ad=some ⟨b,off,none⟩∧reads w D b off cs∧az w D E es cs)∧∀ e∈es,e.size=sz:=by
 obtain ⟨cs,h1,h2⟩:=h;simp only[ae] at h2;obtain ⟨ad,cap,h3,h4⟩:=h2;exact ⟨ad,cap,by simpa[aW,I.isAgg,h3] using h1.symm,h4⟩
theorem sc{sz:Nat}{es:List I}{ad:Option Addr}{n cap:Nat}(hn:n=es.length)(h1:n≤cap)(h2:cap≤maxLen)
  (h3:es=[]∨∃ b off cs,ad=some ⟨b,off,none⟩∧reads w D b off cs∧az w D E es cs) (h4:∀ e∈es,e.size=sz):aP w D E (.slice sz es) (.slice ad n cap):=by
 subst hn;exact ⟨_,by simp[aW,I.isAgg];rfl,by simp only[ae];exact ⟨ad,cap,rfl,h1,h2,h3,h4⟩⟩
end
def bF(op:BinOp)(x y:I):Option I :=
 match x,y with
 | .int k a,.int k' b =>
  match op with
  | .shl=>if 0≤b then some (.int k (k.wrap (a*2^(min b.toNat k.bits)))) else none
  | .shr=>if 0≤b then some (.int k (a.fdiv (2^(min b.toNat k.bits)))) else none
  |op=>if k=k' then
   match op with
   | .add=>some (.int k (k.wrap (a+b)))
   | .sub=>some (.int k (k.wrap (a-b)))
   | .mul=>some (.int k (k.wrap (a*b)))
   | .quo=>if b=0 then none else some (.int k (k.wrap (a.tdiv b)))
   | .rem=>if b=0 then none else some (.int k (a.tmod b))
   | .and=>some (.int k (k.wrap ((BitVec.ofInt k.bits a &&& BitVec.ofInt k.bits b).toNat:Int)))
   | .or=>some (.int k (k.wrap ((BitVec.ofInt k.bits a ||| BitVec.ofInt k.bits b).toNat:Int)))
   | .xor=>some (.int k (k.wrap ((BitVec.ofInt k.bits a ^^^ BitVec.ofInt k.bits b).toNat:Int)))
   | .andNot=>some (.int k (k.wrap ((BitVec.ofInt k.bits a &&& ~~~ BitVec.ofInt k.bits b).toNat:Int)))
   | .eql=>some (.bool (a==b))
   | .neq=>some (.bool (a != b))
   | .lss=>some (.bool (decide (a<b)))
   | .leq=>some (.bool (decide (a≤b)))
   | .gtr=>some (.bool (decide (a>b)))
   | .geq=>some (.bool (decide (a≥b)))
   |_=>none
   else none
 | .aj s,.aj t =>
  match op with
  | .eql=>some (.bool (s.toList==t.toList))
  | .neq=>some (.bool (!(s.toList==t.toList)))
  | .lss=>some (.bool (Op.bytesLess s.toList t.toList))
  | .leq=>some (.bool (Op.bytesLess s.toList t.toList||s.toList==t.toList))
  | .gtr=>some (.bool (!(Op.bytesLess s.toList t.toList||s.toList==t.toList)))
  | .geq=>some (.bool (!(Op.bytesLess s.toList t.toList)))
  | .add=>if s.size+t.size≤9223372036854775807 then some (.aj (s++t)) else none
  |_=>none
 |_,_=>none
theorem oC(k:IntKind)(n:Int):k.min≤k.wrap n∧k.wrap n≤k.max:=by
 cases k <;>simp only[IntKind.min,IntKind.max,IntKind.wrap,IntKind.bits,IntKind.signed] <;>simp <;>(try split) <;>omega
theorem XN(a b:Int):(0≤a→0≤a.tmod b∧a.tmod b≤a)∧(a<0→a≤a.tmod b∧a.tmod b≤0):=by
 have key:∀ n:Nat,0≤(n:Int).tmod b∧(n:Int).tmod b≤n:=by
  intro n;cases b with
  |ofNat m=>show 0≤((n%m:Nat):Int)∧((n%m:Nat):Int)≤n;have:=Nat.mod_le n m;omega
  |negSucc m=>show 0≤((n%(m+1):Nat):Int)∧((n%(m+1):Nat):Int)≤n;have:=Nat.mod_le n (m+1);omega
 refine ⟨fun h =>?_,fun h =>?_⟩
 ·obtain ⟨n,rfl⟩:=Y0 h;exact key n
 ·obtain ⟨n,hn⟩:=Y0 (show 0≤-a by omega);have:=key n;rw[←hn,Int.neg_tmod] at this;omega
theorem XO(k:IntKind)(a b:Int)(h:k.min≤a∧a≤k.max):k.min≤a.tmod b∧a.tmod b≤k.max:=by
 have h0:k.min≤0∧0≤k.max:=by cases k <;>simp[IntKind.min,IntKind.max,IntKind.bits,IntKind.signed]
 have:=XN a b;omega
theorem Lh(a:Int)(m:Int)(hm:0<m):(0≤a→0≤a.fdiv m∧a.fdiv m≤a)∧(a<0→a≤a.fdiv m∧a.fdiv m≤0):=by
 rw[Int.fdiv_eq_ediv_of_nonneg _ (by omega)];have h1:=Int.mul_ediv_add_emod a m;have h2:=Int.emod_nonneg a (show m≠0 by omega);refine ⟨fun h=>⟨Int.ediv_nonneg h (by omega),Int.ediv_le_self _ h⟩,fun h=>⟨?_,?_⟩⟩
 ·rw[Int.le_ediv_iff_mul_le hm];have:a*m≤a*1:=Int.mul_le_mul_of_nonpos_left (by omega) (by omega);omega
 ·have:=Int.ediv_neg_of_neg_of_pos h hm;omega
theorem Li(k:IntKind)(a:Int)(n:Nat)(h:k.min≤a∧a≤k.max):k.min≤a.fdiv (2^n)∧a.fdiv (2^n)≤k.max:=by
 have h0:k.min≤0∧0≤k.max:=by cases k <;>simp[IntKind.min,IntKind.max,IntKind.bits,IntKind.signed]
 have:=Lh a (2^n) (Int.pow_pos (by omega));omega
def bO(A:ab):I→Option I
 | .ref x=>some x
 | .ptr n p=>match A.o n with
  |some (.box x)=>x.at p
  |_=>none
 |_=>none
mutual
def I.bu:I→Bool
 | .agg fs=>I.cj fs
 | .slice _ es=>I.cj es
 | .ref x=>x.bu
 | .func _ caps=>I.cj caps
 | .iface _ v=>v.bu
 | .cW ks vs=>I.cj ks&&I.cj vs
 | .ptr _ _ | .own _ _ | .view _ _ _ _ _ | .mref _ | .cR _ | .undef | .cU | .tuple _=>false
 | .bool _ | .int _ _ | .aj _ | .nilp | .c8 | .cN | .any | .raw _ | .nils _ | .c0 _=>true
def I.cj:List I→Bool
 | []=>true
 |x::xs=>x.bu&&I.cj xs
end
def gG(f:I→Option I):List I→Option (List I)
 | []=>some []
 |x::xs=>match f x,gG f xs with
  |some y,some ys=>some (y::ys)
  |_,_=>none
def fS(A:ab):Nat→I→Option I
 |0,_=>none
 |k+1,x=>if x.bu then some x else match x with
  | .agg fs=>(gG (fS A k) fs).map .agg
  | .func f caps=>if f<1000000 then (gG (fS A k) caps).map (.func f) else some .any
  | .ptr n p=>match bO A (.ptr n p) with
   |some y=>(fS A k y).map .ref
   |none=>none
  | .view n p sz lo l=>match bO A (.ptr n p) with
   |some (.agg fs)=>if I.cj ((fs.drop lo).take l)=true then some (.slice sz ((fs.drop lo).take l)) else none
   |_=>none
  | .mref n=>match A.o n with
   |some (.b7 ks vs)=>if I.cj ks=true then (gG (fS A k) vs).map (.cW ks) else none
   |_=>none
  | .own n l=>match A.o n with
   |some (.bE _ sz es)=>if l=es.length∧I.cj es=true then some (.slice sz es) else none
   |_=>none
  |_=>none
mutual
/-- The value for others to hold: pointers to the frame's own variables and rows become what they hold. -/
def aZ(aB:Bool)(A:ab):I→Option I
 | .ptr n p=>if aB then (match bO A (.ptr n p) with | some x=>if x.bu then some (.ref x) else (fS A 9 x).map .ref | none=>none) else none
 | .own n k=>match A.o n with
  |some (.bE _ sz es)=>if k=es.length∧I.cj es=true then some (.slice sz es) else none
  |_=>none
 | .view n p sz lo k=>if aB then (match bO A (.ptr n p) with
  |some (.agg fs)=>if I.cj ((fs.drop lo).take k)=true then some (.slice sz ((fs.drop lo).take k)) else none
  |_=>none) else none
 | .mref n=>if aB then (match A.o n with
  |some (.b7 ks vs)=>if I.cj ks=true then (gG (fS A 9) vs).map (.cW ks) else none
  |_=>none) else none
 | .cR _=>none
 | .cW ks vs=>if I.cj ks&&I.cj vs then some (.cW ks vs) else none
 | .nils sz=>some (.slice sz [])
 | .c0 sz=>some (.slice sz [])
 | .func f caps=>if f<1000000 then (bC aB A caps).map (.func f) else some .any
 | .agg fs=>(bC aB A fs).map .agg
 | .tuple _=>none
 | .undef=>none
 | .cU=>none
 | .bool b=>some (.bool b)
 | .int k n=>some (.int k n)
 | .aj s=>some (.aj s)
 | .nilp=>some .nilp
 | .c8=>some .c8
 | .cN=>some .cN
 | .any=>some .any
 | .raw u=>some (.raw u)
 | .slice sz es=>if I.cj es then some (.slice sz es) else none
 | .ref x=>if x.bu then some (.ref x) else none
 | .iface t v=>if v.bu then some (.iface t v) else none
def bC(aB:Bool)(A:ab):List I→Option (List I)
 | []=>some []
 |x::xs=>match aZ aB A x,bC aB A xs with
  |some y,some ys=>some (y::ys)
  |_,_=>none
end
def bS(s:Option Nat)(x:I):Bool:=match s with
 |none => !x.isAgg
 |some n=>x.isAgg&&x.size==n
def I.cv:I→Bool
 | .undef | .cU | .tuple _=>false
 |_=>true
def fR(n esz:Nat)(fs:List I):Bool:=fs.length==n&&fs.all fun f=>f.size==esz
def e9(zs:List I):List (Nat×I)→Option (List I)
 | []=>some zs
 |(i,v)::rest=>match zs[i]? with
  |some z=>if v.cv=true∧v.size=z.size then e9 (zs.set i v) rest else none
  |none=>none
def gf(x:Option I)(d:Int):Option Int:=match x with
 |none=>some d
 |some (.int _ n)=>some n
 |_=>none
def gL(sz:Nat)(es:List I)(lo hi mx:Option I):Option I :=
 match gf hi es.length with
 |none=>none
 |some h=>match gf mx es.length with
  |none=>none
  |some m=>match gf lo 0 with
   |none=>none
   |some l=>if 0≤l∧l≤h∧h≤m∧m≤es.length then
     (if mx.isSome∧m=l then some (.c0 sz) else some (.slice sz ((es.take h.toNat).drop l.toNat))) else none
def iw(n:Nat)(p:List Nat)(sz lo k total:Nat)(lo' hi' mx':Option I):Option I :=
 match gf hi' k with
 |none=>none
 |some h=>match gf lo' 0 with
  |none=>none
  |some l=>match mx' with
   |none=>if 0≤l∧l≤h∧h≤((total-lo:Nat):Int) then (if l=((total-lo:Nat):Int) then some (.c0 sz) else some (.view n p sz (lo+l.toNat) (h.toNat-l.toNat))) else none
   |some (.int _ m)=>if 0≤l∧l≤h∧h≤m∧m≤((total-lo:Nat):Int) then some .cU else none
   |_=>none
def ic(a b:Option Bool):Option Bool:=match a,b with
 |some x,some y=>some (x&&y)
 |_,_=>none
mutual
/-- '==',part by part. -/
def bR:bZ→I→I→Option Bool
 | .i k,x,y=>match x,y with
  | .int k1 a,.int k2 b=>if k1=k∧k2=k then some (a==b) else none
  |_,_=>none
 | .b,x,y=>match x,y with
  | .bool a,.bool b=>some (a==b)
  |_,_=>none
 | .s,x,y=>match x,y with
  | .aj a,.aj b=>some (a.toList==b.toList)
  |_,_=>none
 | .aV l,x,y=>match x,y with
  | .agg fs,.agg gs=>gj l fs gs
  |_,_=>none
 | .oT n e,x,y=>match x,y with
  | .agg fs,.agg gs=>if fs.length=n∧gs.length=n then (fs.zip gs).foldr (fun p acc=>ic (bR e p.1 p.2) acc) (some true) else none
  |_,_=>none
def gj:List bZ→List I→List I→Option Bool
 | [],fs,gs=>match fs,gs with
  | [],[]=>some true
  |_,_=>none
 |t::ts,fs,gs=>match fs,gs with
  |f::fs,g::gs=>ic (bR t f g) (gj ts fs gs)
  |_,_=>none
end
def nE(k:IntKind)(n:Int):Int:=k.wrap ((BitVec.ofInt k.bits (if k.signed then -1 else k.max) ^^^ BitVec.ofInt k.bits n).toNat:Int)
def gP(ty:bZ)(k:I):List I→Nat→Option (Option Nat)
 | [],_=>some none
 |x::xs,i=>match bR ty k x with
  |some true=>some (some i)
  |some false=>gP ty k xs (i+1)
  |none=>none
def fH(A:ab):I→Option (List I×List I)
 | .cW ks vs=>some (ks,vs)
 | .mref n=>match A.o n with
  |some (.b7 ks vs)=>some (ks,vs)
  |_=>none
 | .raw (.map none)=>some ([],[])
 |_=>none
def pL(ty:bZ)(z k:I)(ks vs:List I):Option (I×Bool) :=
 if (bR ty k k).isSome then (match gP ty k ks 0 with
  |some (some i)=>(vs[i]?).map fun v=>(v,true)
  |some none=>some (z,false)
  |none=>none) else none
def gR:I→Option Bool
 | .nilp=>some true
 | .ptr _ _=>some false
 | .ref _=>some false
 |_=>none
def pO(ty:bZ)(k v:I)(ks vs:List I):Option (List I×List I) :=
 if (bR ty k k).isSome=true∧k.cv=true∧v.cv=true then (match gP ty k ks 0 with
  |some (some i)=>some (ks,vs.set i v)
  |some none=>some (ks++[k],vs++[v])
  |none=>none) else none
def vk(ty:bZ)(k:I)(ks vs:List I):Option (List I×List I) :=
 if (bR ty k k).isSome=true then (match gP ty k ks 0 with
  |some (some i)=>some (ks.eraseIdx i,vs.eraseIdx i)
  |some none=>some (ks,vs)
  |none=>none) else none
def my:I→Option I
 | .ptr n p=>some (.ptr n p)
 | .ref x=>some (.ref x)
 |_=>none
def vt:I→I→Option I
 | .int k a,.int k2 b=>if k=k2 then some (.int k (if b>a then b else a)) else none
 |_,_=>none
def lN(neg:Bool):Option Bool→Option Bool→Option I
 |some a,some b=>if a||b then some (.bool (if neg then !(a&&b) else (a&&b))) else none
 |_,_=>none
def pK(ok:Bool):Option (I×Bool)→Option I
 |some (v,b)=>some (if ok then .tuple [v,.bool b] else v)
 |none=>none
def pJ(ty:bZ)(z:I)(ok:Bool)(k:I):Option (List I×List I)→Option I
 |some (ks,vs)=>pK ok (pL ty z k ks vs)
 |none=>none
def rp(ks vs:List I):Option Nat→Option I
 |some i=>match ks[i]?,vs[i]? with
  |some k,some v=>some (.tuple [k,v])
  |_,_=>none
 |none=>none
def me:List I→Option (List UInt8)
 | []=>some []
 |x::xs=>match x,me xs with
  | .int .u8 n,some l=>some (UInt8.ofNat n.toNat::l)
  |_,_=>none
def cO(A:ab)(sz:Nat):I→Option (List I)
 | .slice z es=>if z=sz then some es else none
 | .nils _=>some []
 | .c0 _=>some []
 | .own n l=>match A.o n with
  |some (.bE _ z es)=>if l=es.length∧z=sz then some es else none
  |_=>none
 | .view n p z lo k=>match bO A (.ptr n p) with
  |some (.agg fs)=>if lo+k≤fs.length∧z=sz then some ((fs.drop lo).take k) else none
  |_=>none
 |_=>none
def ej:tw→List I→Option I
 | .dK,[.aj s,.int _ i]=>if 0≤i then (s.data.toList[i.toNat]?).map fun b=>.int .u8 b.toNat else none
 | .ss false true,[.aj s,.int _ h]=>if 0≤h∧h≤s.size then some (.aj (s.extract 0 h.toNat)) else none
 | .ss true false,[.aj s,.int _ l]=>if 0≤l∧l≤s.size then some (.aj (s.extract l.toNat s.size)) else none
 | .ss true true,[.aj s,.int _ l,.int _ h]=>if 0≤l∧l≤h∧h≤s.size then some (.aj (s.extract l.toNat h.toNat)) else none
 | .mz neg,[.cN]=>some (.bool (!neg))
 | .mz neg,[.iface _ _]=>some (.bool neg)
 | .min2,[.int k a,.int k2 b]=>if k=k2 then some (.int k (if b<a then b else a)) else none
 | .lI T,[x]=>if x.bu=true∧x.cv=true then some (.iface T x) else none
 |_,_=>none
def kC:Option (List I)→Option I
 |some es=>(me es).map fun l=>.aj ⟨l.toArray⟩
 |none=>none
def jK(A:ab)(sz:Nat):I→Option (List I)
 | .aj s=>if sz=1 then some (s.data.toList.map fun b=>.int .u8 b.toNat) else none
 |x=>cO A sz x
def kZ:I→Option (List I)
 | .aj s=>some (s.data.toList.map fun b=>.int .u8 b.toNat)
 |_=>none
def aT(A:ab):bq→Option I
 | .mv x=>some (af A x)
 | .pick c a b=>match af A c with | .bool t=>some (if t then af A a else af A b) | _=>none
 | .bin op x y=>bF op (af A x) (af A y)
 | .eqv ty neg x y=>(bR ty (af A x) (af A y)).map fun b=>.bool (if neg then !b else b)
 | .nilS neg x=>match af A x with
  | .nils _=>some (.bool (!neg))
  | .slice _ es=>if es.isEmpty then none else some (.bool neg)
  | .view _ _ _ _ _=>some (.bool neg)
  |_=>none
 | .conv k x=>match af A x with | .int _ n=>some (.int k (k.wrap n)) | _=>none
 | .un op x=>match op,af A x with
  | .not,.bool b=>some (.bool !b)
  | .neg,.int k n=>some (.int k (k.wrap (0-n)))
  | .xor,.int k n=>some (.int k (nE k n))
  |_,_=>none
 | .ld s x=>match bO A (af A x) with | some v=>if bS s v then some v else none | none=>none
 | .fa f off x=>match af A x with
  | .ref (.agg fs)=>match fs[f]? with | some v=>if I.sizes (fs.take f)=off then some (.ref v) else none | none=>none
  | .ptr n p=>match bO A (.ptr n p) with | some (.agg fs)=>if f<fs.length∧I.sizes (fs.take f)=off then some (.ptr n (p++[f])) else none | _=>none
  |_=>none
 | .fl f off s x=>match af A x with
  | .agg fs=>match fs[f]? with | some v=>if I.sizes (fs.take f)=off∧bS s v=true then some v else none | none=>none
  |_=>none
 | .ia n esz x i=>match af A i with
  | .int _ k=>if 0≤k∧k<n then (match af A x with
   | .ref (.agg fs)=>if fR n esz fs then (fs[k.toNat]?).map .ref else none
   | .ptr m p=>match bO A (.ptr m p) with | some (.agg fs)=>if fR n esz fs then some (.ptr m (p++[k.toNat])) else none | _=>none
   |_=>none) else none
  |_=>none
 | .is esz x i=>match af A i with
  | .int _ k=>match af A x with
   | .slice sz es=>if sz=esz∧0≤k∧k<es.length then (es[k.toNat]?).map .ref else none
   | .own m l=>match A.o m with | some (.bE _ sz es)=>if l=es.length∧sz=esz∧0≤k∧k<es.length then (es[k.toNat]?).map .ref else none | _=>none
   | .view m p sz lo l=>match bO A (.ptr m p) with | some (.agg _)=>if sz=esz∧0≤k∧k<l then some (.ptr m (p++[lo+k.toNat])) else none | _=>none
   |_=>none
  |_=>none
 | .ix n esz s x i=>match af A i with
  | .int _ k=>if 0≤k∧k<n then (match af A x with
   | .agg fs=>if fR n esz fs then (match fs[k.toNat]? with | some v=>if bS s v then some v else none | none=>none) else none
   |_=>none) else none
  |_=>none
 | .len x=>match af A x with
  | .slice _ es=>some (.int .i64 es.length)
  | .nils _ | .c0 _=>some (.int .i64 0)
  | .own m l=>match A.o m with | some (.bE _ _ es)=>if l=es.length then some (.int .i64 es.length) else none | _=>none
  | .view _ _ _ _ k=>some (.int .i64 k)
  |_=>none
 | .cap x=>match af A x with
  | .nils _ | .c0 _=>some (.int .i64 ((0:Nat):Int))
  | .view n p _ lo _=>match bO A (.ptr n p) with | some (.agg fs)=>some (.int .i64 ((fs.length-lo:Nat):Int)) | _=>none
  |_=>none
 | .bs0 esz=>some (.c0 esz)
 | .lenT x=>match af A x with
  | .aj s=>some (.int .i64 s.size)
  |_=>none
 | .va n esz x=>match af A x with
  | .ptr m p=>match bO A (.ptr m p) with | some (.agg fs)=>if fR n esz fs=true∧n≤maxLen∧n≠0 then some (.view m p esz 0 n) else none | _=>none
  | .ref (.agg fs)=>if fR n esz fs=true∧n≤maxLen∧n≠0 then some (.slice esz fs) else none
  |_=>none
 | .sl esz x lo hi mx=>match af A x with
  | .slice sz es=>if sz=esz then gL sz es (lo.map (af A)) (hi.map (af A)) (mx.map (af A)) else none
  | .nils sz=>if sz=esz then gL sz [] (lo.map (af A)) (hi.map (af A)) (mx.map (af A)) else none
  | .c0 sz=>if sz=esz then gL sz [] (lo.map (af A)) (hi.map (af A)) (mx.map (af A)) else none
  | .view n p sz l0 k=>match bO A (.ptr n p) with | some (.agg fs)=>if sz=esz then iw n p sz l0 k fs.length (lo.map (af A)) (hi.map (af A)) (mx.map (af A)) else none | _=>none
  |_=>none
 | .bld zs parts=>(e9 zs (parts.map fun p=>(p.1,af A p.2))).map .agg
 | .nilC x=>my (af A x)
 | .max2 x y=>vt (af A x) (af A y)
 | .prim p xs=>ej p (xs.map (af A))
 | .b2s x=>kC (cO A 1 (af A x))
 | .ptrE neg x y=>lN neg (gR (af A x)) (gR (af A y))
 | .lk ty z ok m k=>pJ ty z ok (af A k) (fH A (af A m))
 | .ent x=>match af A x with
  | .cR n=>match A.o n with
   |some (.it ks vs _ cur)=>rp ks vs cur
   |_=>none
  |_=>none
 | .bs _ esz parts=>match bC false A (parts.map (af A)) with
  |some es=>if (es.all fun e=>e.size==esz)∧I.cj es then some (.slice esz es) else none
  |none=>none
 | .ext x i=>match af A x with | .tuple fs=>fs[i]? | _=>none
 | .mk f caps=>if ((caps.map (af A)).all fun y=>y.cv)=true then some (.func f (caps.map (af A))) else none
 |_=>none
mutual
theorem ae.eP{w:World}{D D':aD}{E E':aN}(hD:∀ b o,D b o→D' b o):∀ (x:I) (cs:List Value),x.bu=true→ae w D E x cs→ae w D' E' x cs
 | .agg fs,cs,hc,hr=>by simp only[ae,I.bu] at *;exact az.eP hD fs cs hc hr
 | .bool b,cs,_,hr=>by simpa only[ae] using hr
 | .int k n,cs,_,hr=>by simpa only[ae] using hr
 | .aj s,cs,_,hr=>by simpa only[ae] using hr
 | .nilp,cs,_,hr=>by simpa only[ae] using hr
 | .c8,cs,_,hr=>by simpa only[ae] using hr
 | .cN,cs,_,hr | .any,cs,_,hr=>by simpa only[ae] using hr
 | .raw _,cs,_,hr=>by simpa only[ae] using hr
 | .nils _,cs,_,hr=>by simpa only[ae] using hr
 | .c0 _,cs,_,hr=>by simpa only[ae] using hr
 | .slice sz es,cs,hc,hr=>by
  simp only[ae,I.bu] at *;obtain ⟨a,cap,h1,h2,h3,h4,h5⟩:=hr;refine ⟨a,cap,h1,h2,h3,?_,h5⟩;rcases h4 with h4 | ⟨b,off,cs',h6,h7,h8⟩
  ·exact .inl h4
  ·exact .inr ⟨b,off,cs',h6,fun j v hj=>⟨(h7 j v hj).1,hD _ _ (h7 j v hj).2⟩,az.eP hD es cs' hc h8⟩
 | .ref x,cs,hc,hr=>by
  simp only[ae,I.bu] at *;obtain ⟨b,off,cs',h1,h2,h3⟩:=hr;exact ⟨b,off,cs',h1,fun j v hj=>⟨(h2 j v hj).1,hD _ _ (h2 j v hj).2⟩,ae.eP hD x cs' hc h3⟩
 | .func f caps,cs,hc,hr=>by
  simp only[ae,I.bu] at *;obtain ⟨vs,h1,h2⟩:=hr;exact ⟨vs,h1,ao.eP hD caps vs hc h2⟩
 | .iface t v,cs,hc,hr=>by
  simp only[ae,I.bu] at *;obtain ⟨u,cs',h1,h2,h3⟩:=hr;exact ⟨u,cs',h1,h2,ae.eP hD v cs' hc h3⟩
 | .ptr n p,_,hc,_=>by simp[I.bu] at hc
 | .own n k,_,hc,_=>by simp[I.bu] at hc
 | .view n p _ _ _,_,hc,_=>by simp[I.bu] at hc
 | .mref n,_,hc,_=>by simp[I.bu] at hc
 | .cR n,_,hc,_=>by simp[I.bu] at hc
 | .cW ks vs,cs,hc,hr=>by
  simp only[ae,I.bu,Z0] at *;obtain ⟨b,es,ck,h1,h2,h3,h4⟩:=hr;exact ⟨b,es,ck,h1,⟨h2.1,hD _ _ h2.2.1,h2.2.2⟩,ao.eP hD ks _ hc.1 h3,ao.eP hD vs _ hc.2 h4⟩
 | .undef,_,hc,_=>by simp[I.bu] at hc
 | .cU,_,hc,_=>by simp[I.bu] at hc
 | .tuple _,_,hc,_=>by simp[I.bu] at hc
theorem az.eP{w:World}{D D':aD}{E E':aN}(hD:∀ b o,D b o→D' b o):∀ (xs:List I) (cs:List Value),I.cj xs=true→az w D E xs cs→az w D' E' xs cs
 | [],cs,_,hr=>by simpa only[az] using hr
 |x::xs,cs,hc,hr=>by
  simp only[az,I.cj,Z0] at *;obtain ⟨c1,c2,h1,h2,h3⟩:=hr;exact ⟨c1,c2,h1,ae.eP hD x c1 hc.1 h2,az.eP hD xs c2 hc.2 h3⟩
theorem ao.eP{w:World}{D D':aD}{E E':aN}(hD:∀ b o,D b o→D' b o):∀ (xs:List I) (vs:List Value),I.cj xs=true→ao w D E xs vs→ao w D' E' xs vs
 | [],vs,_,hr=>by simpa only[ao] using hr
 |x::xs,vs,hc,hr=>by
  simp only[ao,I.cj,Z0] at *;obtain ⟨v,rest,cs,h1,h2,h3,h4⟩:=hr;exact ⟨v,rest,cs,h1,h2,ae.eP hD x cs hc.1 h3,ao.eP hD xs rest hc.2 h4⟩
end
theorem sN{w:World}{D:aD}{b:Nat}{cs:Array Value}{T:TypeId}{fz:Nat×Nat}(hb:w.heap[b]?=some (.cells cs T fz)){c1 c2 c3:List Value}(hc:cs.toList=c1++c2++c3)
  (hD:∀ o,o<c1.length+c2.length→D b o):reads w D b c1.length c2:=by
 intro j v hj;have hjl:j<c2.length:=(Z8.1 hj).1;refine ⟨?_,hD _ (by omega)⟩;have e:cs[c1.length+j]?=some v:=by
  rw[←Array.getElem?_toList,hc,Z3,List.getElem?_append_right (by omega),Nat.add_sub_cancel_left,zz7 (by omega)];exact hj
 simp[World.cell?,hb,e]
theorem sU(P:Program)(g o:Nat)(t:TypeId){s:bL} : ∀ (vs:List Value) (i:Nat) (cur:Array Value) (w:World),dZ w g cur t s→o+i+vs.length≤cur.size→(∀ v∈vs,v.oneCell'=true) →
  (storeCells ⟨g,o,none⟩ vs i).run P w=.ok () (w.setRow g (cur.toList.take (o+i)++vs++cur.toList.drop (o+i+vs.length)).toArray)
 | [],i,cur,w,hg,_,_=>by
  obtain ⟨fz,hg,_⟩:=hg;simp only[storeCells,zy6,zy1,Nat.add_zero,zy4,Array.toArray_toList];rw[setRow_self w g cur t fz hg];rfl
 |v::rest,i,cur,w,hg,hl,h1=>by
  have hi:o+i<cur.size:=by simp at hl;omega
  have hg2:=hg.setRow (cs':=cur.setIfInBounds (o+i) v) (by simp);have hfro:=hg.Ly hi;obtain ⟨fz,hg,_⟩:=hg;have hadd:(⟨g,o,none⟩:Addr).add i=⟨g,o+i,none⟩:=by unfold Addr.add;split <;>simp_all
  have hcell:w.cell? ⟨g,o+i,none⟩=some cur[o+i]:=by simp[World.cell?,hg,hi]
  have hst:(store ((⟨g,o,none⟩:Addr).add i) v).run P w=.ok () (w.setRow g (cur.setIfInBounds (o+i) v)):=by
   rw[hadd,run_store P w _ v _ (h1 v (by simp)),hcell];simp[hfro,setCell_eq_setRow w g (o+i) cur t fz v hg]
  have ih:=sU P g o t rest (i+1) (cur.setIfInBounds (o+i) v) (w.setRow g (cur.setIfInBounds (o+i) v)) hg2 (by simp at hl ⊢;omega) (fun x hx=>h1 x (by simp[hx]));simp only[storeCells,Sem.run_bind,hst,Result.andThen_ok,ih,setRow_setRow]
  congr 3
  have e:=list_seg_step cur.toList (o+i) v rest (by simp at hl ⊢;omega);simpa[Array.toList_setIfInBounds,Nat.add_assoc] using e
theorem sM{w:World}{D:aD}{b:Nat}{cs:Array Value}{T:TypeId}{s:bL}(hb:dZ w b cs T s){c1 c2 c3:List Value}(hc:cs.toList=c1++c2++c3)
  (hD:∀ o,o<c1.length+c2.length→D b o):reads w D b c1.length c2:=by
 obtain ⟨_,hb,_⟩:=hb;exact sN hb hc hD
section
variable {c:cm} {A:ab} {a:Act} {w:World} {D:aD} {E:aN}
theorem aL.box(h:aL c A a w D E){n:Nat}{x:I}(hn:A.o n=some (.box x)) :
  ∃ b cs T,E n=some (.aB b x.aK)∧c.eg b∧dZ w b cs T x.aK∧ae w D E x cs.toList∧∀ o,¬ D b o:=by
 have:=h.bz n;rw[hn] at this;exact this
theorem aL.bE(h:aL c A a w D E){n sz:Nat}{T:TypeId}{es:List I}(hn:A.o n=some (.bE T sz es)) :
  ∃ aA,E n=some (.rw aA es.length)∧(∀ e∈es,e.size=sz)∧match aA with
  |none=>es=[]
  |some (b,cap)=>∃ cs pre rest,c.eg b∧w.heap[b]?=some (.cells cs T (0,0))∧cs.toList=pre++rest∧az w D E es pre ∧
    cs.size=cap*sz∧es.length≤cap∧cap≤maxLen∧∀ o,D b o→o<pre.length:=by
 have:=h.bz n;rw[hn] at this;exact this
theorem aL.wM(h:aL c A a w D E){n:Nat}{T:TypeId}{xs:List Int}(hn:A.o n=some (.dL T xs)) :
  ∃ aA,E n=some (.rw aA xs.length)∧(∀ x∈xs,IntKind.i64.min≤x∧x≤IntKind.i64.max)∧match aA with
  |none=>xs=[]
  |some (b,cap)=>∃ cs m,c.eg b∧w.heap[b]?=some (.cells cs T (0,0))∧cs.toList=(xs++List.replicate m 0).map (Value.int .i64)∧xs≠[]∧xs.length+m=cap∧cap≤maxLen∧∀ o,¬ D b o:=by
 have:=h.bz n;rw[hn] at this;exact this
theorem aL.map(h:aL c A a w D E){n:Nat}{ks vs:List I}(hn:A.o n=some (.b7 ks vs)) :
  ∃ b es clock,E n=some (.b7 b)∧c.eg b∧w.heap[b]?=some (.map es clock)∧nh es clock∧ao w D E ks (es.toList.map (·.key))∧ao w D E vs (es.toList.map (·.val))∧∀ o,¬ D b o:=by
 have:=h.bz n;rw[hn] at this;exact this
theorem aL.at(h:aL c A a w D E){n:Nat}{p:List Nat}{x:I}(hx:bO A (.ptr n p)=some x) :
  ∃ y b cs T off c1 c2 c3,A.o n=some (.box y)∧E n=some (.aB b y.aK)∧c.eg b∧dZ w b cs T y.aK∧y.at p=some x∧y.aK.off p=some off ∧
   cs.toList=c1++c2++c3∧c1.length=off∧ae w D E x c2∧ae w D E y cs.toList∧∀ o,¬ D b o:=by
 simp only[bO] at hx;split at hx
 ·rename_i y hn;obtain ⟨b,cs,T,h1,h2,h3,h4,h5⟩:=h.box hn;obtain ⟨off,c1,c2,c3,h6,h7,h8,h9⟩:=vO p y x _ h4 hx;exact ⟨y,b,cs,T,off,c1,c2,c3,hn,h1,h2,h3,hx,h6,h7,h8,h9,h4,h5⟩
 ·cases hx
theorem aL.xz(h:aL c A a w D E){x y:I}{v:Value}(hv:aP w D E x v)(hx:bO A x=some y) :
  ∃ b off cs,v=.pointer (some ⟨b,off,none⟩)∧(∀ j u,cs[j]?=some u→w.cell? ⟨b,off+j,none⟩=some u)∧ae w D E y cs:=by
 cases x with
 |ref z =>
  simp only[bO,v6] at hx;subst hx;obtain ⟨b,off,cs,h1,h2,h3⟩:=oj hv;exact ⟨b,off,cs,h1,fun j u hj=>(h2 j u hj).1,h3⟩
 |ptr n p =>
  obtain ⟨b,aK,off,h1,h2,h3⟩:=kd hv;obtain ⟨z,b',cs,T,off',c1,c2,c3,k1,k2,_,k3,_,k5,k6,k7,k8,_,_⟩:=h.at hx;rw[k2] at h1;simp only[v6,br.aB.injEq] at h1;obtain ⟨rfl,rfl⟩:=h1;rw[k5,v6] at h2;subst h2;refine ⟨b',off',c2,h3,fun j u hj =>?_,k8⟩;have:=sM (D:=fun _ _=>True) k3 k6 (fun _ _=>trivial);rw[k7] at this;exact (this j u hj).1
 |_=>simp[bO] at hx
theorem sK{w:World}{D:aD}{E:aN} : ∀ (xs ys:List I) (cs:List Value),az w D E (xs++ys) cs→∃ c1 c2,cs=c1++c2∧az w D E xs c1∧az w D E ys c2
 | [],ys,cs,hr=>⟨[],cs,rfl,by simp[az],hr⟩
 |x::xs,ys,cs,hr=>by
  simp only[Y2,az] at hr;obtain ⟨d1,d2,rfl,k1,k2⟩:=hr;obtain ⟨e1,e2,rfl,k3,k4⟩:=sK xs ys d2 k2;exact ⟨d1++e1,e2,by simp,by simp only[az];exact ⟨d1,e1,rfl,k1,k3⟩,k4⟩
theorem DM{fs:List I}{sz:Nat}(h:∀ s∈I.cK fs,s.size=sz):∀ f∈fs,f.size=sz:=by
 intro f hf;rw[←I.hE];exact h _ (by rw[I.cF];exact zz1.2 ⟨f,hf,rfl⟩)
theorem sL{w:World}{D:aD}{E:aN}{fs:List I}{cs:List Value}{sz:Nat}(hr:az w D E fs cs)(hev:∀ f∈fs,f.size=sz)(lo k:Nat)(h:lo+k≤fs.length) :
  ∃ d1 d2 d3,cs=d1++(d2++d3)∧d1.length=lo*sz∧az w D E ((fs.drop lo).take k) d2∧az w D E ((fs.drop lo).drop k) d3:=by
 have e1:fs=fs.take lo++((fs.drop lo).take k++(fs.drop lo).drop k):=by rw[zy4,zy4]
 rw[e1] at hr;obtain ⟨d1,d',rfl,q1,q2⟩:=sK _ _ _ hr;obtain ⟨d2,d3,rfl,q3,q4⟩:=sK _ _ _ q2;refine ⟨d1,d2,d3,rfl,?_,q3,q4⟩;rw[az.length _ _ q1,I.fY _ (fun x hx=>hev x (List.mem_of_mem_take hx)),Z6]
 congr 1
 omega
structure gw (aB:Bool) (A:ab) (D:aD) (E:aN) (D':aD):Prop where
 cI:∀ b o,D b o→D' b o
 bE:∀ n T sz es b cap,A.o n=some (.bE T sz es)→E n=some (.rw (some (b,cap)) es.length)→∀ o,o<es.length*sz→D' b o
 box:aB=true→∀ n x b aK,A.o n=some (.box x)→E n=some (.aB b aK)→∀ o,o<x.size→D' b o
 map:aB=true→∀ n ks vs b,A.o n=some (.b7 ks vs)→E n=some (.b7 b)→D' b 0
def dw(A A':ab):Prop:=∀ n x,A.o n=some x→A'.o n=some x
theorem ig{A A':ab}(hu:dw A A'){x v:I}(h:bO A x=some v):bO A' x=some v:=by
 cases x <;>simp only[bO] at h ⊢ <;>try exact h
 rename_i n p;cases ho:A.o n with
 |none=>rw[ho] at h;cases h
 |some y=>rw[ho] at h;rw[hu n y ho];exact h
theorem zj{A0 A:ab}(hu:dw A0 A){n:Nat}{p:List Nat}{x z:I}(h:bO A0 (.ptr n p)=some x)(hz:A.o n=some (.box z)):A0.o n=some (.box z):=by
 simp only[bO] at h;split at h
 ·rename_i y hy;have:=hu n _ hy;rw[hz] at this;rw[hy,←this]
 ·cases h
theorem aL.Dd(h:aL c A a w D E){A0:ab}(hu:dw A0 A){D':aD}(hw:gw true A0 D E D'){n:Nat}{p:List Nat}{x:I}{cs:List Value}(hx:bO A0 (.ptr n p)=some x)(hr:ae w D E (.ptr n p) cs) :
  ∃ b off c2,cs=[.pointer (some ⟨b,off,none⟩)]∧reads w D' b off c2∧ae w D E x c2:=by
 obtain ⟨z,b',cs',T,off',c1,c2,c3,k1,k2,_,k3,k4,k5,k6,k7,k8,k9,_⟩:=h.at (ig hu hx);have k1:=zj hu hx k1;simp only[ae] at hr;obtain ⟨b,aK,off,h1,h2,h3⟩:=hr;rw[k2] at h1;simp only[v6,br.aB.injEq] at h1;obtain ⟨rfl,rfl⟩:=h1;rw[k5,v6] at h2;subst h2;have hsz:=ae.length z _ k9;rw[k6] at hsz;simp only[Z1] at hsz;refine ⟨b',off',c2,h3,?_,k8⟩;rw[←k7];exact sM k3 k6 (fun o ho=>hw.box rfl n z b' _ k1 k2 o (by omega))
theorem aL.gL(h:aL c A a w D E){A0:ab}(hu:dw A0 A){D':aD}{E':aN}(hw:gw true A0 D E D'){n:Nat}{p:List Nat}{sz lo k:Nat}{fs:List I}{cs:List Value}(hx:bO A0 (.ptr n p)=some (.agg fs))(hr:ae w D E (.view n p sz lo k) cs)
  (hcl:I.cj ((fs.drop lo).take k)=true):ae w D' E' (.slice sz ((fs.drop lo).take k)) cs:=by
 obtain ⟨z,b',cs',T,off',c1,c2,c3,k1,k2,_,k3,k4,k5,k6,k7,k8,k9,_⟩:=h.at (ig hu hx);have k1:=zj hu hx k1;simp only[ae] at hr k8 ⊢;obtain ⟨b,aK,off,l,h1,h2,h3,h4,h5,h6,h7⟩:=hr;rw[k2] at h1;simp only[v6,br.aB.injEq] at h1;obtain ⟨rfl,rfl⟩:=h1;rw[k5,v6] at h2;subst h2;rw[lg p z _ k4] at h3;simp only[I.aK,v6,bL.eJ.injEq] at h3;subst h3;have hsz:=ae.length z _ k9;rw[k6] at hsz;rw[I.cF,Z2] at h4 h5 h6;have hev:=DM h7;obtain ⟨d1,d2,d3,rfl,q1,q2,q3⟩:=sL k8 hev lo k h6;simp only[Z1] at hsz;have hlen:((fs.drop lo).take k).length=k:=by rw[Z6,List.length_drop];omega
 refine ⟨some ⟨b',off'+lo*sz,none⟩,fs.length-lo,by rw[hlen];exact h4,by rw[hlen];omega,by omega,.inr ⟨b',off'+lo*sz,d2,rfl,?_,az.eP hw.cI _ d2 hcl q2⟩,?_⟩
 ·have:=sM (D:=D') (c1:=c1++d1) (c2:=d2) (c3:=d3++c3) k3 (by rw[k6];simp) (fun o ho=>hw.box rfl n z b' _ k1 k2 o (by rw[Z1] at ho;omega));rw[Z1,k7,q1] at this;exact this
 ·intro e he;exact hev e (List.mem_of_mem_drop (List.mem_of_mem_take he))
theorem aL.Dn(h:aL c A a w D E){aB:Bool}{A0:ab}(hu:dw A0 A){D':aD}{E':aN}(hw:gw aB A0 D E D'){n k T sz:Nat}{es:List I}{cs:List Value}(hn:A0.o n=some (.bE T sz es))(hcl:I.cj es=true)(hk:k=es.length)(hr:ae w D E (.own n k) cs):ae w D' E' (.slice sz es) cs:=by
 subst hk;simp only[ae] at hr;obtain ⟨aA,l,h1,h2,_,h4⟩:=hr;obtain ⟨blk',k1,k2,k3⟩:=h.bE (hu n _ hn);rw[k1] at h1;simp only[v6,br.rw.injEq] at h1;obtain ⟨rfl,rfl⟩:=h1;have h4:=h4 rfl;cases blk' with
 |none =>
  simp only at k3 h4;subst k3;simp only[ae];exact ⟨none,0,by simpa using h4,by simp,by simp[maxLen],by simp,by simp⟩
 |some bc =>
  obtain ⟨b,cap⟩:=bc;simp only at h4;obtain ⟨cs',pre,rest,k4,k5,k6,k7,k8,k9,k10,k11⟩:=k3;simp only[ae];refine ⟨some ⟨b,0,none⟩,cap,h4,k9,k10,.inr ⟨b,0,pre,rfl,?_,az.eP hw.cI es pre hcl k7⟩,k2⟩;have hp:pre.length=es.length*sz:=by rw[az.length _ _ k7,I.fY _ k2]
  have:=sN (D:=D') (c1:=[]) k5 (by simpa using k6) (fun o ho=>hw.bE n T sz es b cap hn k1 o (by simp at ho;omega));simpa using this
theorem Bc{w:World}{D D':aD}{E E':aN}{f:I→Option I}(hf:∀ x y cs,ae w D E x cs→f x=some y→ae w D' E' y cs):∀ (xs ys:List I) (cs:List Value),az w D E xs cs→gG f xs=some ys→az w D' E' ys cs
 | [],ys,cs,hr,h=>by simp only[gG,v6] at h;subst h;simpa only[az] using hr
 |x::xs,ys,cs,hr,h=>by
  simp only[gG] at h;split at h
  ·rename_i y ys' h1 h2;simp only[v6] at h;subst h;simp only[az] at *;obtain ⟨c1,c2,e,k1,k2⟩:=hr;exact ⟨c1,c2,e,hf x y c1 k1 h1,Bc hf xs ys' c2 k2 h2⟩
  ·cases h
theorem r6{w:World}{D D':aD}{E E':aN}{f:I→Option I}(hf:∀ x y cs,ae w D E x cs→f x=some y→ae w D' E' y cs)(hp:∀ x y,f x=some y→y.isAgg=x.isAgg):∀ (xs ys:List I) (vs:List Value),ao w D E xs vs→gG f xs=some ys→ao w D' E' ys vs
 | [],ys,cs,hr,h=>by simp only[gG,v6] at h;subst h;simpa only[ao] using hr
 |x::xs,ys,cs,hr,h=>by
  simp only[gG] at h;split at h
  ·rename_i y ys' h1 h2;simp only[v6] at h;subst h;simp only[ao] at *;obtain ⟨v,rest,c1,e,k1,k2,k3⟩:=hr;refine ⟨v,rest,c1,e,?_,hf x y c1 k2 h1,r6 hf hp xs ys' rest k3 h2⟩;unfold aW at *;rw[hp x y h1];exact k1
  ·cases h
theorem uH{A0:ab} : ∀ {k:Nat} {x y:I},fS A0 k x=some y→y.isAgg=x.isAgg
 |0,_,_,h=>by simp[fS] at h
 |k+1,x,y,h=>by
  simp only[fS] at h;split at h
  ·simp only[v6] at h;rw[h]
  ·cases x <;>simp only[] at h <;>first
    |(cases h;done)
    |(split at h <;>first | (simp only[t7] at h;obtain ⟨z,_,rfl⟩:=h;rfl) | (simp only[v6] at h;subst h;rfl);done)
    |(simp only[t7] at h;obtain ⟨z,_,rfl⟩:=h;rfl)
    |((repeat' split at h) <;>first | (cases h;done) | (simp only[v6] at h;subst h;rfl) | (simp only[t7] at h;obtain ⟨z,_,rfl⟩:=h;rfl))
theorem uI(h:aL c A a w D E){A0:ab}(hu:dw A0 A){D':aD}{E':aN}(hw:gw true A0 D E D'):∀ (k:Nat) (x y:I) (cs:List Value),ae w D E x cs→fS A0 k x=some y→ae w D' E' y cs
 |0,_,_,_,_,hf=>by simp[fS] at hf
 |k+1,x,y,cs,hr,hf=>by
  have ih:=uI h hu (E':=E') hw k;simp only[fS] at hf;split at hf
  ·rename_i hcl;simp only[v6] at hf;subst hf;exact ae.eP hw.cI x cs hcl hr
  ·rename_i hcl;cases x <;>simp only[] at hf <;>try (cases hf;done)
   case agg fs =>
    simp only[t7] at hf;obtain ⟨ys,hy,rfl⟩:=hf;simp only[ae] at *;exact Bc ih fs ys cs hr hy
   case func f caps =>
    split at hf
    case isFalse =>
     simp only[v6] at hf;subst hf;simp only[ae] at *;obtain ⟨vs,h1,h2⟩:=hr;exact ⟨_,h1,zT f vs⟩
    simp only[t7] at hf;obtain ⟨ys,hy,rfl⟩:=hf;simp only[ae] at *;obtain ⟨vs,h1,h2⟩:=hr;exact ⟨vs,h1,r6 ih (fun x y hxy=>uH hxy) caps ys vs h2 hy⟩
   case ptr n p =>
    split at hf
    case h_2=>cases hf
    rename_i z hz;simp only[t7] at hf;obtain ⟨y',hy,rfl⟩:=hf;obtain ⟨b,off,c2,k1,k2,k3⟩:=h.Dd hu hw hz hr;simp only[ae];exact ⟨b,off,c2,k1,k2,ih z y' c2 k3 hy⟩
   case view n p sz lo l =>
    split at hf
    case h_2=>cases hf
    rename_i fs hx;split at hf
    case isFalse=>cases hf
    rename_i hc;simp only[v6] at hf;subst hf;exact h.gL hu hw hx hr hc
   case mref n =>
    split at hf
    case h_2=>cases hf
    rename_i ks vs hn;split at hf
    case isFalse=>cases hf
    rename_i hc;simp only[t7] at hf;obtain ⟨ys,hy,rfl⟩:=hf;simp only[ae] at hr ⊢;obtain ⟨b,h1,h2⟩:=hr;obtain ⟨b',es,ck,k1,k2,k3,k4,k5,k6,k7⟩:=h.map (hu n _ hn);rw[k1] at h1;cases h1;exact ⟨b,es,ck,h2,⟨k3,hw.map rfl n ks vs b hn k1,k4⟩,ao.eP hw.cI ks _ hc k5,r6 ih (fun x y hxy=>uH hxy) vs ys _ k6 hy⟩
   case own n l =>
    split at hf
    case h_2=>cases hf
    rename_i T sz es hn;split at hf
    case isFalse=>cases hf
    rename_i hk;simp only[v6] at hf;subst hf;exact h.Dn hu hw hn hk.2 hk.1 hr
mutual
theorem zM(h:aL c A a w D E){aB:Bool}{A0:ab}(hu:dw A0 A){D':aD}{E':aN}(hw:gw aB A0 D E D'):∀ (x y:I) (cs:List Value),ae w D E x cs→aZ aB A0 x=some y→ae w D' E' y cs
 | .ptr n p,y,cs,hr,hf=>by
  simp only[aZ] at hf;split at hf
  case isFalse=>cases hf
  rename_i hbx;subst hbx;split at hf
  case h_2=>cases hf
  rename_i x hx;obtain ⟨b,off,c2,k1,k2,k3⟩:=h.Dd hu hw hx hr;split at hf
  ·rename_i hcl;simp only[v6] at hf;subst hf;simp only[ae];exact ⟨b,off,c2,k1,k2,ae.eP hw.cI x c2 hcl k3⟩
  ·simp only[t7] at hf;obtain ⟨y',hy,rfl⟩:=hf;simp only[ae];exact ⟨b,off,c2,k1,k2,uI h hu hw 9 x y' c2 k3 hy⟩
 | .mref n,y,cs,hr,hf=>by
  simp only[aZ] at hf;split at hf
  case isFalse=>cases hf
  rename_i hbx;subst hbx;split at hf
  case h_2=>cases hf
  rename_i ks vs hn;split at hf
  case isFalse=>cases hf
  rename_i hc;simp only[t7] at hf;obtain ⟨ys,hy,rfl⟩:=hf;simp only[ae] at hr ⊢;obtain ⟨b,h1,h2⟩:=hr;obtain ⟨b',es,ck,k1,k2,k3,k4,k5,k6,k7⟩:=h.map (hu n _ hn);rw[k1] at h1;cases h1;exact ⟨b,es,ck,h2,⟨k3,hw.map rfl n ks vs b hn k1,k4⟩,ao.eP hw.cI ks _ hc k5,r6 (uI h hu hw 9) (fun x y hxy=>uH hxy) vs ys _ k6 hy⟩
 | .cR _,_,_,_,hf=>by simp[aZ] at hf
 | .cW ks vs,y,cs,hr,hf=>by
  simp only[aZ] at hf;split at hf
  ·rename_i hc;simp only[v6] at hf;subst hf;exact ae.eP hw.cI _ cs (by simpa[I.bu] using hc) hr
  ·cases hf
 | .own n k,y,cs,hr,hf=>by
  simp only[aZ] at hf;split at hf
  case h_2=>cases hf
  rename_i T sz es hn;split at hf
  case isFalse=>cases hf
  rename_i hk;simp only[v6] at hf;subst hf;exact h.Dn hu hw hn hk.2 hk.1 hr
 | .view n p sz lo k,y,cs,hr,hf=>by
  simp only[aZ] at hf;split at hf
  case isFalse=>cases hf
  rename_i hbx;subst hbx;split at hf
  case h_2=>cases hf
  rename_i fs hx;split at hf
  case isFalse=>cases hf
  rename_i hcl;simp only[v6] at hf;subst hf;exact h.gL hu hw hx hr hcl
 | .nils sz,y,cs,hr,hf=>by
  simp only[aZ,v6] at hf;subst hf;simp only[ae] at *;exact ⟨none,0,by simpa using hr,by simp,by simp[maxLen],by simp,by simp⟩
 | .c0 sz,y,cs,hr,hf=>by
  simp only[aZ,v6] at hf;subst hf;simp only[ae] at *;obtain ⟨ad,hr⟩:=hr;exact ⟨ad,0,by simpa using hr,by simp,by simp[maxLen],by simp,by simp⟩
 | .func f caps,y,cs,hr,hf=>by
  simp only[aZ] at hf;split at hf
  case isFalse =>
   simp only[v6] at hf;subst hf;simp only[ae] at *;obtain ⟨vs,h1,h2⟩:=hr;exact ⟨_,h1,zT f vs⟩
  simp only[t7] at hf;obtain ⟨ys,hy,rfl⟩:=hf;simp only[ae] at *;obtain ⟨vs,h1,h2⟩:=hr;exact ⟨vs,h1,kM h hu hw caps ys vs h2 hy⟩
 | .agg fs,y,cs,hr,hf=>by
  simp only[aZ,t7] at hf;obtain ⟨ys,hy,rfl⟩:=hf;simp only[ae] at *;exact zN h hu hw fs ys cs hr hy
 | .tuple _,_,_,_,hf=>by simp[aZ] at hf
 | .undef,_,_,_,hf=>by simp[aZ] at hf
 | .cU,_,_,_,hf=>by simp[aZ] at hf
 | .bool b,y,cs,hr,hf=>by simp only[aZ,v6] at hf;subst hf;simpa only[ae] using hr
 | .int k n,y,cs,hr,hf=>by simp only[aZ,v6] at hf;subst hf;simpa only[ae] using hr
 | .aj s,y,cs,hr,hf=>by simp only[aZ,v6] at hf;subst hf;simpa only[ae] using hr
 | .nilp,y,cs,hr,hf=>by simp only[aZ,v6] at hf;subst hf;simpa only[ae] using hr
 | .c8,y,cs,hr,hf=>by simp only[aZ,v6] at hf;subst hf;simpa only[ae] using hr
 | .cN,y,cs,hr,hf | .any,y,cs,hr,hf=>by simp only[aZ,v6] at hf;subst hf;simpa only[ae] using hr
 | .raw _,y,cs,hr,hf=>by simp only[aZ,v6] at hf;subst hf;simpa only[ae] using hr
 | .slice sz es,y,cs,hr,hf=>by
  simp only[aZ] at hf;split at hf
  ·rename_i hc;simp only[v6] at hf;subst hf;exact ae.eP hw.cI _ cs (by simpa[I.bu] using hc) hr
  ·cases hf
 | .ref x,y,cs,hr,hf=>by
  simp only[aZ] at hf;split at hf
  ·rename_i hc;simp only[v6] at hf;subst hf;exact ae.eP hw.cI _ cs (by simpa[I.bu] using hc) hr
  ·cases hf
 | .iface t v,y,cs,hr,hf=>by
  simp only[aZ] at hf;split at hf
  ·rename_i hc;simp only[v6] at hf;subst hf;exact ae.eP hw.cI _ cs (by simpa[I.bu] using hc) hr
  ·cases hf
theorem zN(h:aL c A a w D E){aB:Bool}{A0:ab}(hu:dw A0 A){D':aD}{E':aN}(hw:gw aB A0 D E D'):∀ (xs ys:List I) (cs:List Value),az w D E xs cs→bC aB A0 xs=some ys→az w D' E' ys cs
 | [],ys,cs,hr,hf=>by simp only[bC,v6] at hf;subst hf;simpa only[az] using hr
 |x::xs,ys,cs,hr,hf=>by
  simp only[bC] at hf;split at hf
  ·rename_i y ys' h1 h2;simp only[v6] at hf;subst hf;simp only[az] at *;obtain ⟨c1,c2,e,k1,k2⟩:=hr;exact ⟨c1,c2,e,zM h hu hw x y c1 k1 h1,zN h hu hw xs ys' c2 k2 h2⟩
  ·cases hf
theorem kM(h:aL c A a w D E){aB:Bool}{A0:ab}(hu:dw A0 A){D':aD}{E':aN}(hw:gw aB A0 D E D'):∀ (xs ys:List I) (vs:List Value),ao w D E xs vs→bC aB A0 xs=some ys→ao w D' E' ys vs
 | [],ys,cs,hr,hf=>by simp only[bC,v6] at hf;subst hf;simpa only[ao] using hr
 |x::xs,ys,cs,hr,hf=>by
  simp only[bC] at hf;split at hf
  ·rename_i y ys' h1 h2;simp only[v6] at hf;subst hf;simp only[ao] at *;obtain ⟨v,rest,c1,e,k1,k2,k3⟩:=hr;refine ⟨v,rest,c1,e,?_,zM h hu hw x y c1 k2 h1,kM h hu hw xs ys' rest k3 h2⟩;have:y.isAgg=x.isAgg:=by
    cases x <;>simp only[aZ] at h1 <;>first
     |(simp at h1;done)
     |(simp only[v6] at h1;subst h1;rfl)
     |(simp only[t7] at h1;obtain ⟨z,_,rfl⟩:=h1;rfl)
     |((repeat' split at h1) <;>first | (simp at h1;done) | (simp only[v6] at h1;subst h1;rfl) | (simp only[t7] at h1;obtain ⟨z,_,rfl⟩:=h1;rfl))
   unfold aW at *;rw[this];exact k1
  ·cases hf
end
end
def eQ(P:Program)(t:TypeId):Option (Option Nat):=match P.underlying t with
 |some (.struct _) | some (.array _ _)=>some (some (P.cellsOf t))
 |some _=>some none
 |none=>none
def wQ(P:Program):Nat→TypeId→Option I
 |0,_=>none
 |d+1,t=>match P.underlying t with
  |some .bool=>some (.bool false)
  |some (.int k)=>some (.int k 0)
  |some .string=>some (.aj ByteArray.empty)
  |some (.pointer _)=>some .nilp
  |some (.slice e)=>some (.nils (P.cellsOf e))
  |some (.func _ _ _)=>some .c8
  |some (.interface _)=>some .cN
  |some (.map _ _)=>some (.raw (.map none))
  |some (.struct fs)=>(fs.toList.mapM fun f=>wQ P d f.type).map .agg
  |some (.array n e)=>(wQ P d e).map fun z=>.agg (List.replicate n z)
  |_=>none
def jR:I→Value→Bool
 | .bool b,.bool b'=>b==b'
 | .int k n,.int k' n'=>k==k'&&n==n'&&decide (k.min≤n∧n≤k.max)
 | .aj s,.string t=>s.size==0&&t.size==0
 | .nilp,.pointer none=>true
 | .nils _,.slice none 0 0=>true
 | .c8,.nilFunc=>true
 | .cN,.nilIface=>true
 | .raw (.map none),.map none=>true
 |_,_=>false
mutual
def lq:I→List Value→Option (List Value)
 | .agg fs,cs=>qB fs cs
 | .bool b,v::cs=>if jR (.bool b) v then some cs else none
 | .int k n,v::cs=>if jR (.int k n) v then some cs else none
 | .aj s,v::cs=>if jR (.aj s) v then some cs else none
 | .nilp,v::cs=>if jR .nilp v then some cs else none
 | .nils z,v::cs=>if jR (.nils z) v then some cs else none
 | .c8,v::cs=>if jR .c8 v then some cs else none
 | .cN,v::cs=>if jR .cN v then some cs else none
 | .raw u,v::cs=>if jR (.raw u) v then some cs else none
 |_,_=>none
def qB:List I→List Value→Option (List Value)
 | [],cs=>some cs
 |x::xs,cs=>match lq x cs with
  |some r=>qB xs r
  |none=>none
end
theorem ByteArray.K3{s t:ByteArray}(hs:s.size=0)(ht:t.size=0):s=t:=by
 cases s with | mk a=>cases t with | mk b =>
 have ha:a = #[]:=Array.eq_empty_of_size_eq_zero hs;have hb:b = #[]:=Array.eq_empty_of_size_eq_zero ht;rw[ha,hb]
theorem IL{x:I}{v:Value}(h:jR x v=true)(w:World)(D:aD)(E:aN):ae w D E x [v]:=by
 unfold jR at h;split at h
 case h_9=>cases h
 case h_1=>simp only[beq_iff_eq] at h;subst h;simp[ae]
 case h_2 =>
  simp only[Z0,beq_iff_eq,decide_eq_true_eq] at h;obtain ⟨⟨rfl,rfl⟩,h⟩:=h;simp only[ae,true_and];exact h
 case h_3 =>
  simp only[Z0,beq_iff_eq] at h;have e:=ByteArray.K3 h.1 h.2;subst e;simp only[ae,true_and];rw[h.1];exact Nat.zero_le _
 all_goals simp[ae,Value.oneCell']
mutual
theorem Ev:∀ (x:I) (cs r:List Value),lq x cs=some r→∃ c1,cs=c1++r∧∀ w D E,ae w D E x c1
 | .agg fs,cs,r,h=>by
  simp only[lq] at h;obtain ⟨c1,h1,h2⟩:=Ew fs cs r h;exact ⟨c1,h1,fun w D E=>by simp only[ae];exact h2 w D E⟩
 | .bool b,v::cs,r,h | .int k n,v::cs,r,h | .aj s,v::cs,r,h | .nilp,v::cs,r,h | .nils z,v::cs,r,h | .c8,v::cs,r,h | .cN,v::cs,r,h | .raw u,v::cs,r,h=>by
  simp only[lq] at h;split at h
  ·rename_i hh;simp only[v6] at h;subst h;exact ⟨[v],rfl,fun w D E=>IL hh w D E⟩
  ·cases h
 | .bool b,[],r,h | .int k n,[],r,h | .aj s,[],r,h | .nilp,[],r,h | .nils z,[],r,h | .c8,[],r,h | .cN,[],r,h | .raw _,[],r,h=>by simp[lq] at h
 | .any,_,_,h | .undef,_,_,h | .cU,_,_,h | .c0 _,_,_,h | .slice _ _,_,_,h | .tuple _,_,_,h | .ref _,_,_,h | .func _ _,_,_,h | .iface _ _,_,_,h | .ptr _ _,_,_,h | .own _ _,_,_,h | .view _ _ _ _ _,_,_,h | .mref _,_,_,h | .cR _,_,_,h | .cW _ _,_,_,h=>by simp[lq] at h
theorem Ew:∀ (xs:List I) (cs r:List Value),qB xs cs=some r→∃ c1,cs=c1++r∧∀ w D E,az w D E xs c1
 | [],cs,r,h=>by
  simp only[qB,v6] at h;exact ⟨[],by simp[h],fun w D E=>by simp[az]⟩
 |x::xs,cs,r,h=>by
  simp only[qB] at h;split at h
  ·rename_i r' hx;obtain ⟨c1,h1,h2⟩:=Ev x cs r' hx;obtain ⟨c2,h3,h4⟩:=Ew xs r' r h;exact ⟨c1++c2,by rw[h1,h3,Z3],fun w D E=>by simp only[az];exact ⟨c1,c2,rfl,h2 w D E,h4 w D E⟩⟩
  ·cases h
end
def fe(P:Program)(t:TypeId):Option I :=
 match (P.info? t).bind (·.zero),wQ P 12 t with
 |some z,some x=>match lq x z.cells.toList with
  |some []=>some x
  |_=>none
 |_,_=>none
theorem kp{P:Program}{t:TypeId}{x:I}(h:fe P t=some x):∃ i z,P.info? t=some i∧i.zero=some z∧∀ w D E,ae w D E x z.cells.toList:=by
 unfold fe at h;split at h
 ·rename_i z x' hz hx;split at h
  ·rename_i hk;simp only[v6] at h;subst h;obtain ⟨i,hi,hz'⟩:=zy3.1 hz;obtain ⟨c1,h1,h2⟩:=Ev _ _ _ hk;rw[zy6] at h1;exact ⟨i,z,hi,hz',fun w D E=>by rw[h1];exact h2 w D E⟩
  ·cases h
 ·cases h
def ka:Nat→List I→List (Nat×Nat)
 |_,[]=>[]
 |k,x::xs=>(k,x.size)::ka (k+x.size) xs
theorem BS:∀ (xs:List I) (k i:Nat),(ka k xs)[i]?=(xs[i]?).map fun x=>(k+I.sizes (xs.take i),x.size)
 | [],k,i=>by simp[ka]
 |x::xs,k,0=>by simp[ka,I.sizes]
 |x::xs,k,i+1=>by
  simp only[ka,List.getElem?_cons_succ,BS xs,List.take_succ_cons,I.sizes];cases xs[i]? <;>simp;omega
def dO (P : Program) (f : FuncId) : Bool := Nat.blt f 1000000 && (P.funcs[f]?).any fun fn => fn.name != "runtime.NumGoroutine" && fn.body.isSome
def jQ(P:Program)(ps:List (Nat×Operand)):Option (List (Nat×au)):=ps.mapM fun p=>(aS P 0 p.2).map fun x=>(p.1,x)
def gN(P:Program):Option Operand→Option (Option au)
 |none=>some none
 |some x=>(aS P 0 x).map some
def jm(P:Program):List Operand→List TypeId→Option (List au)
 | [],_=>some []
 |x::xs,ts=>match aS P (ts.headD 0) x,jm P xs ts.tail with
  |some y,some ys=>some (y::ys)
  |_,_=>none
def oc(P:Program):Nat→List Field→Bool
 |_,[]=>true
 |k,f::fs=>f.offset==k&&oc P (k+P.cellsOf f.type) fs
def fG(P:Program):Nat→TypeId→Option bZ
 |0,_=>none
 |d+1,t=>match P.underlying t with
  |some (.int k)=>some (.i k)
  |some .bool=>some .b
  |some .string=>some .s
  | some (.struct fs) => if P.stoodInHeld t = false ∧ (fs.toList.all fun f => f.name != "_") = true ∧ oc P 0 fs.toList = true then
    (fs.toList.mapM fun (f:Field)=>match fG P d f.type with
     |some ty=>if ty.size=P.cellsOf f.type then some ty else none
     |none=>none).map .aV else none
  |some (.array n e)=>match fG P d e with
   |some ty=>if ty.size=P.cellsOf e∧(P.info? e).isSome=true then some (.oT n ty) else none
   |none=>none
  |_=>none
def pD:Option TypeDesc→Bool
 |some (.int _)=>true
 |_=>false
def u4:bZ→Bool
 | .i _=>true
 |_=>false
def iZ(P:Program)(t:TypeId):Option bZ:=match P.underlying t with
 |some (.int k)=>some (.i k)
 |some (.struct fs)=>match fG P 12 t with
  |some (.aV l)=>if l.all u4=true∧(fs.all fun f=>pD (P.underlying f.type))=true then some (.aV l) else none
  |_=>none
 |_=>none
def tj(P:Program)(t:TypeId)(z:I):Bool:=match (P.info? t).bind (·.zero) with
 |some (.agg _)=>z.isAgg
 |some _ => !z.isAgg
 |none=>false
def wg:Operand→Operand→Bool
 | .tmp a,.tmp b=>a==b
 |_,_=>false
theorem Xl{x y:Operand}(h:wg x y=true):y=x:=by
 unfold wg at h;split at h
 ·simp only[beq_iff_eq] at h;rw[h]
 ·cases h
def Uf:Option TypeDesc→Bool
 |some .string=>true
 |_=>false
def y8:Option TypeDesc→Bool
 |some (.interface _)=>false
 |some _=>true
 |none=>false
def cA(P:Program)(o:Oper):Option bq :=
 match o.op with
 | .move x | .assign x=>(aS P o.type x).map .mv
 | .pick c a b=>match aS P 0 c,aS P o.type a,aS P o.type b with
  |some c,some a,some b=>some (.pick c a b)
  |_,_,_=>none
 | .binOp op t x y _=>match P.underlying t,aS P 0 x,aS P 0 y with
  |some (.int _),some x,some y | some .string,some x,some y=>some (.bin op x y)
  |some (.slice _),some x,some y=>match y with
   | .c (.nils _)=>if op=.eql∨op=.neq then some (.nilS (op==.neq) x) else none
   |_=>none
  |some (.pointer _),some x,some y=>if op=.eql∨op=.neq then some (.ptrE (op==.neq) x y) else none
  |some (.interface _),some x,some y=>match y with
   | .c .cN=>if op=.eql∨op=.neq then some (.prim (.mz (op==.neq)) [x]) else none
   |_=>none
  |some _,some x,some y=>if (op=.eql∨op=.neq)∧P.eqGuardType P.depth t=false then (fG P 12 t).map fun ty=>.eqv ty (op==.neq) x y else none
  |_,_,_=>none
 | .unOp op _ x=>(aS P 0 x).map (.un op)
 | .nilCheck x=>(aS P 0 x).map .nilC
 | .makeMap _ none=>some .j5
 | .lookup t m k ok=>match P.underlying t,aS P 0 m,aS P 0 k with
  |some (.map kt et),some m,some k=>match iZ P kt,fe P et with
   |some ty,some z=>if tj P et z=true then some (.lk ty z ok m k) else none
   |_,_=>none
  |_,_,_=>none
 | .mapUpdate t m k v | .insert t m k v=>match P.underlying t,aS P 0 m,aS P 0 k with
  |some (.map kt et),some m,some k=>match iZ P kt,aS P et v with
   |some ty,some v=>some (.jA ty m k v)
   |_,_=>none
  |_,_,_=>none
 | .makeSlice t l l'=>match P.underlying t,aS P 0 l with
  |some (.slice e),some n=>match fe P e with
   |some z=>if wg l l'=true∧z.size=1∧P.cellsOf e=1 then some (.jd e (P.bytesOf e) z n) else none
   |none=>none
  |_,_=>none
 | .range t x=>match P.underlying t with
  |some (.map _ _)=>(aS P 0 x).map .jI
  |_=>none
 | .next x false=>(aS P 0 x).map .jB
 | .entry x=>(aS P 0 x).map .ent
 | .convert ln dst x=>match P.underlying ln,P.underlying dst,aS P 0 x with
  |some (.int _),some (.int k),some x=>some (.conv k x)
  |some (.slice e),some .string,some x=>match P.underlying e with
   |some (.int .u8)=>some (.b2s x)
   |_=>none
  |some .string,some (.slice e),some x=>match P.underlying e with
   |some (.int .u8)=>some (.ef x)
   |_=>none
  |_,_,_=>none
 | .load t x=>match eQ P t,aS P 0 x with
  |some s,some x=>some (.ld s x)
  |_,_=>none
 | .fieldAddr t x f=>match P.underlying t,aS P 0 x with
  |some (.struct fs),some x=>match fs[f]? with
   |some fd=>if P.cellsOf fd.type=0 then none else some (.fa f fd.offset x)
   |none=>none
  |_,_=>none
 | .field t x f=>match P.underlying t,aS P 0 x with
  |some (.struct fs),some x=>match fs[f]? with
   |some fd=>(eQ P fd.type).map fun s=>.fl f fd.offset s x
   |none=>none
  |_,_=>none
 | .indexAddr t x i=>match P.underlying t,aS P 0 x,aS P 0 i with
  |some (.array n e),some x,some i=>if (P.info? e).isSome then some (.ia n (P.cellsOf e) x i) else none
  |some (.slice e),some x,some i=>if (P.info? e).isSome then some (.is (P.cellsOf e) x i) else none
  |_,_,_=>none
 | .index t x i=>match P.underlying t,aS P 0 x,aS P 0 i with
  |some (.array n e),some x,some i=>(eQ P e).map fun s=>.ix n (P.cellsOf e) s x i
  |some .string,some x,some i=>some (.prim .dK [x,i])
  |_,_,_=>none
 | .slice t x lo hi mx=>match P.underlying t,aS P 0 x with
  |some (.array n e),some x=>match lo,hi,mx with
   |none,none,none=>if (P.info? e).isSome then some (.va n (P.cellsOf e) x) else none
   |_,_,_=>none
  |some (.slice e),some x=>match gN P lo,gN P hi,gN P mx with
   |some lo,some hi,some mx=>if (mx.isSome=true→hi.isSome=true)∧(P.info? e).isSome=true then some (.sl (P.cellsOf e) x lo hi mx) else none
   |_,_,_=>none
  |some .string,some x=>match lo,hi,mx with
   |none,some hi,none=>(aS P 0 hi).map fun hi=>.prim (.ss false true) [x,hi]
   |some lo,none,none=>(aS P 0 lo).map fun lo=>.prim (.ss true false) [x,lo]
   |some lo,some hi,none=>match aS P 0 lo,aS P 0 hi with
    |some lo,some hi=>some (.prim (.ss true true) [x,lo,hi])
    |_,_=>none
   |_,_,_=>none
  |_,_=>none
 | .build t parts=>match fe P t,jQ P parts.toList with
  |some (.agg zs),some ps=>match P.underlying t with
   |some (.struct fs)=>if (fs.toList.map fun f=>(f.offset,P.cellsOf f.type))=ka 0 zs∧(fs.all fun f=>(P.info? f.type).isSome)=true then some (.bld zs ps) else none
   |some (.array n e)=>if zs.length=n∧(zs.all fun z=>z.size==P.cellsOf e)=true∧(P.info? e).isSome=true then some (.bld zs ps) else none
   |_=>none
  |_,_=>none
 | .buildSlice t len parts=>match P.underlying t with
  |some (.slice e)=>match jQ P parts.toList with
   |some ps=>if len=0∧parts = #[]∧(P.info? e).isSome=true then some (.bs0 (P.cellsOf e)) else if ps.map (·.1)=List.range len∧0<P.cellsOf e∧0<len∧len*P.cellsOf e≤16777216∧((P.info? e).bind (·.zero)).isSome=true then some (.bs e (P.cellsOf e) (ps.map (·.2))) else none
   |none=>none
  |_=>none
 | .extract x i=>(aS P 0 x).map fun x=>.ext x i
 | .makeFunc (.func f) first caps=>if f<1000000 then (if first.isEmpty then (jm P caps.toList []).map (.mk f) else if caps.isEmpty then (jm P first.toList []).map (.mk (f+1000000)) else none) else none
 | .alloc t=>(fe P t).map .alloc
 | .box t x=>(aS P t x).map .box
 | .store t x v=>match eQ P t,aS P 0 x,aS P t v with
  |some s,some x,some v=>if s.isSome=true∨P.cellsOf t=1 then some (.aV s x v) else none
  |_,_,_=>none
 | .call { callee:=.value (.func f),args,argTypes } =>if dO P f then (jm P args.toList argTypes.toList).map (.call f) else (jm P args.toList argTypes.toList).map (.gv f)
 | .call { callee:=.value x,args,argTypes } =>match aS P 0 x,jm P args.toList argTypes.toList with
  |some x,some args=>some (.eX x args)
  |_,_=>none
 | .call { callee:=.builtin .len,args,argTypes } =>match args.toList,argTypes.toList with
  | [x],[t]=>match P.underlying t with
   |some (.slice _)=>(aS P t x).map .len
   |some .string=>(aS P t x).map .lenT
   |_=>none
  |_,_=>none
 | .call { callee:=.builtin .append,args,argTypes } =>match args.toList,argTypes.toList with
  | [s,x],[t,t']=>match P.underlying t,aS P t s,aS P t' x with
   |some (.slice e),some s,some x=>if t=t'∧0<P.cellsOf e∧(fe P e).map I.size=some (P.cellsOf e) then (fe P e).map fun z=>.dM e (P.cellsOf e) (P.bytesOf e) z s x else
    if pD (P.underlying t')=true∧0<P.cellsOf e∧(fe P e).map I.size=some (P.cellsOf e) then (fe P e).map fun z=>.jj e (P.cellsOf e) (P.bytesOf e) z s x else none
   |_,_,_=>none
  |_,_=>none
 | .call { callee:=.builtin .cap,args,argTypes } =>match args.toList,argTypes.toList with
  | [x],[t]=>match P.underlying t with
   |some (.slice _)=>(aS P t x).map .cap
   |_=>none
  |_,_=>none
 | .call { callee:=.builtin .clear,args,argTypes } =>match args.toList,argTypes.toList with
  | [x],[t]=>match P.underlying t,aS P t x with
   |some (.slice e),some x=>(fe P e).map fun z=>.iV (P.cellsOf e) z x
   |_,_=>none
  |_,_=>none
 | .call { callee:=.builtin .copy,args,argTypes } =>match args.toList,argTypes.toList with
  | [x,y],[t,t']=>match P.underlying t,aS P t x,aS P t' y with
   |some (.slice e),some x,some y=>if (t=t'∨Uf (P.underlying t')=true)∧(P.info? e).isSome=true then some (.fP (P.cellsOf e) x y) else none
   |_,_,_=>none
  |_,_=>none
 | .call { callee:=.builtin .delete,args,argTypes } =>match args.toList,argTypes.toList with
  | [m,k],[t,_]=>match P.underlying t,aS P 0 m,aS P 0 k with
   |some (.map kt _),some m,some k=>(iZ P kt).map fun ty=>.kR ty m k
   |_,_,_=>none
  |_,_=>none
 | .call { callee:=.builtin .max,args,.. } =>match args.toList with
  | [x,y]=>match aS P 0 x,aS P 0 y with
   |some x,some y=>some (.max2 x y)
   |_,_=>none
  |_=>none
 | .call { callee:=.builtin .min,args,.. } =>match args.toList with
  | [x,y]=>match aS P 0 x,aS P 0 y with
   |some x,some y=>some (.prim .min2 [x,y])
   |_,_=>none
  |_=>none
 | .makeInterface t x=>if y8 (P.underlying t)=true then (aS P t x).map fun x=>.prim (.lI t) [x] else none
 | .panic x=>(aS P 0 x).map fun x=>.prim .j8 [x]
 |_=>none
def cG(c:cm)(A:ab)(o:Oper)(x:I):Prop :=
 ∀ a w D E,aL c A a w D E→∃ v w' D',(execOp a.eval o).run c.P w=.ok (.value v) w'∧aL c A a w' D' E∧aP w' D' E x v
section
variable {c:cm} {A:ab} {o:Oper} {x:I}
theorem cG.same(h:∀ a w D E,aL c A a w D E→∃ v,(execOp a.eval o).run c.P w=.ok (.value v) w∧aP w D E x v):cG c A o x :=
 fun a w D E hs=>let ⟨v,h1,h2⟩:=h a w D E hs;⟨v,w,D,h1,hs,h2⟩
theorem An{y:Operand}{z:au}(ho:o.op=.move y∨o.op=.assign y)(hz:aS c.P o.type y=some z):cG c A o (af A z) :=
 .same fun a w D E hs=>⟨a.eval y,by rcases ho with ho | ho <;>simp[execOp,ho],bn hs hz⟩
theorem TN{q y z:Operand}{q' y' z':au}{t:Bool}(ho:o.op=.pick q y z)(hq:aS c.P 0 q=some q')(hy:aS c.P o.type y=some y')(hz:aS c.P o.type z=some z')
  (ht:af A q'=.bool t):cG c A o (if t then af A y' else af A z') :=
 .same fun a w D E hs=>by
  have h1:=bn hs hq;rw[ht] at h1;have h2:=kc h1;refine ⟨if t then a.eval y else a.eval z,by cases t <;>simp[execOp,ho,h2,asBool],?_⟩;cases t
  ·exact bn hs hz
  ·exact bn hs hy
theorem vX{P:Program}{w:World}(op:BinOp)(t:TypeId)(x y:Operand){u v:Value}(hu:u.oneCell'=true)(hn:u≠.nilIface):(eqGuard op t x y u v).run P w=.ok () w:=by
 cases op <;>cases u <;>simp[Value.oneCell'] at hu <;>first | (exact absurd rfl hn) | (cases v <;>simp[eqGuard])
theorem Fq{op:BinOp}{x y z:I}(h:bF op x y=some z){P:Program}{t:TypeId}{w:World}{D:aD}{E:aN}{u v:Value}(hx:aP w D E x u)(hy:aP w D E y v)(xo yo:Operand) :
  ∃ r,(do eqGuard op t xo yo u v;binOp op t u v:Sem Value).run P w=.ok r w∧aP w D E z r:=by
 unfold bF at h;split at h
 ·rename_i k a k' b;obtain ⟨rfl,ha⟩:=dp hx;obtain ⟨rfl,hb⟩:=dp hy;have hg:∀ op,(eqGuard op t xo yo (.int k a) (.int k' b)).run P w=.ok () w:=fun op=>vX op t xo yo rfl (by simp);simp only[Sem.run_bind,hg,Result.andThen_ok];split at h
  ·split at h
   ·rename_i hb0;simp only[v6] at h;subst h;have:¬ b<0:=by omega
    exact ⟨_,by simp[binOp,Op.shift,this],gS (oC _ _)⟩
   ·cases h
  ·split at h
   ·rename_i hb0;simp only[v6] at h;subst h;have:¬ b<0:=by omega
    exact ⟨_,by simp[binOp,Op.shift,this],gS (Li _ _ _ ha)⟩
   ·cases h
  ·rename_i op h1 h2;split at h
   ·rename_i hk;subst hk;split at h <;>first
     |(simp at h;done)
     |(simp only[v6] at h;subst h;exact ⟨_,by simp[binOp,Op.intArith,Op.intBits,Op.intCmp],gS (oC _ _)⟩)
     |(simp only[v6] at h;subst h;exact ⟨_,by simp[binOp,Op.intCmp],j4 _⟩)
     |(split at h
       ·cases h
       ·rename_i hb0;simp only[v6] at h;subst h
        first
         |exact ⟨_,by simp[binOp,Op.intDiv,hb0],gS (oC _ _)⟩
         |exact ⟨_,by simp[binOp,Op.intDiv,hb0],gS (XO _ _ _ ha)⟩)
   ·cases h
 ·rename_i s s';obtain ⟨rfl,hs1⟩:=fL hx;obtain ⟨rfl,hs2⟩:=fL hy;have hg:∀ op,(eqGuard op t xo yo (.string s) (.string s')).run P w=.ok () w:=fun op=>vX op t xo yo rfl (by simp);simp only[Sem.run_bind,hg,Result.andThen_ok];split at h <;>first
   |(simp at h;done)
   |(simp only[v6] at h;subst h;exact ⟨_,by simp[binOp,Op.stringOp],j4 _⟩)
   |(split at h
     ·rename_i hl;simp only[v6] at h;subst h;have hl':¬ (((s.size+s'.size:Nat):Int)>IntKind.i64.max):=by
       have e:IntKind.i64.max=9223372036854775807:=by simp[IntKind.max,IntKind.bits,IntKind.signed]
       rw[e];omega
      refine ⟨.string (s++s'),by simp only[binOp,Op.stringOp,if_neg hl',Sem.run_pure],?_⟩;exact ⟨_,by simp[aW,I.isAgg];rfl,by simp only[ae,true_and];rw[ByteArray.size_append];unfold maxLen;omega⟩
     ·cases h)
 ·cases h
theorem Al{op:BinOp}{t yt:TypeId}{y z:Operand}{y' z':au}(ho:o.op=.binOp op t y z yt)(hy:aS c.P 0 y=some y')(hz:aS c.P 0 z=some z')(h:bF op (af A y') (af A z')=some x):cG c A o x :=
 .same fun a w D E hs=>by
  obtain ⟨r,h1,h2⟩:=Fq h (P:=c.P) (t:=t) (bn hs hy) (bn hs hz) y z;exact ⟨r,by simp only[execOp,ho,Sem.run_bind] at *;rw[h1];rfl,h2⟩
theorem TM{t:TypeId}{y:Operand}{y':au}{b:Bool}(ho:o.op=.unOp .not t y)(hy:aS c.P 0 y=some y')(h:af A y'=.bool b):cG c A o (.bool !b) :=
 .same fun a w D E hs=>by
  have h1:=bn hs hy;rw[h] at h1;exact ⟨.bool !b,by simp[execOp,ho,kc h1,Op.unary],j4 _⟩
theorem TK{t:TypeId}{y:Operand}{y':au}{k:IntKind}{n:Int}(ho:o.op=.unOp .neg t y)(hy:aS c.P 0 y=some y')(h:af A y'=.int k n):cG c A o (.int k (k.wrap (0-n))) :=
 .same fun a w D E hs=>by
  have h1:=bn hs hy;rw[h] at h1;exact ⟨.int k (k.wrap (0-n)),by simp[execOp,ho,(dp h1).1,Op.unary,Op.intArith],gS (oC _ _)⟩
theorem Tq{t:TypeId}{y:Operand}{y':au}{k:IntKind}{n:Int}(ho:o.op=.unOp .xor t y)(hy:aS c.P 0 y=some y')(h:af A y'=.int k n):cG c A o (.int k (nE k n)) :=
 .same fun a w D E hs=>by
  have h1:=bn hs hy;rw[h] at h1;exact ⟨.int k (nE k n),by simp[execOp,ho,(dp h1).1,Op.unary,Op.intBits,nE],gS (oC _ _)⟩
theorem Tp{ln dst:TypeId}{y:Operand}{y':au}{k k0 k1:IntKind}{n:Int}(ho:o.op=.convert ln dst y)(h1:c.P.underlying ln=some (.int k0))(h2:c.P.underlying dst=some (.int k))
  (hy:aS c.P 0 y=some y') (h:af A y'=.int k1 n):cG c A o (.int k (k.wrap n)) :=
 .same fun a w D E hs=>by
  have h3:=bn hs hy;rw[h] at h3;exact ⟨.int k (k.wrap n),by simp[execOp,ho,(dp h3).1,convert,run_underlying h1,run_underlying h2,Conv.intToInt],gS (oC _ _)⟩
theorem Tt{y:Operand}{y':au}{i:Nat}{fs:List I}(ho:o.op=.extract y i)(hy:aS c.P 0 y=some y')(h:af A y'=.tuple fs)(hi:fs[i]?=some x):cG c A o x :=
 .same fun a w D E hs=>by
  have h3:=bn hs hy;rw[h] at h3;obtain ⟨vs,h4,h5⟩:=h3;have:∀ (fs:List I) (vs:List Value) (i:Nat),ao w D E fs vs→fs[i]?=some x→∃ v,vs[i]?=some v∧aP w D E x v:=by
   intro fs
   induction fs with
   |nil=>intro vs i _ hi;simp at hi
   |cons f fs ih =>
    intro vs i hr hi;simp only[ao] at hr;obtain ⟨v,rest,cs,rfl,k1,k2,k3⟩:=hr;cases i with
    |zero =>
     simp only[List.getElem?_cons_zero,v6] at hi ⊢;subst hi;refine ⟨v,rfl,?_⟩;cases f <;>simp only[aP] <;>first | (simp only[ae] at k2;done) | exact ⟨cs,k1,k2⟩
    |succ i=>simpa using ih rest i k3 (by simpa using hi)
  obtain ⟨v,h6,h7⟩:=this fs vs i h5 hi;exact ⟨v,by simp[execOp,ho,h4,Instr.extract,h6],h7⟩
theorem fp{w:World}{D:aD}{E:aN}{x:I}{v:Value}{cs:List Value}(h1:aW x v cs)(h2:ae w D E x cs):aP w D E x v:=by
 cases x <;>simp only[aP] <;>first | (simp only[ae] at h2;done) | exact ⟨cs,h1,h2⟩
theorem Dr{P:Program}{w:World}{t:TypeId}{s:Option Nat}(h:eQ P t=some s):(isAgg t).run P w=.ok s.isSome w:=by
 unfold eQ at h;unfold isAgg;cases hu:P.underlying t with
 |none=>simp[hu] at h
 |some d =>
  rw[Sem.run_bind,run_underlying hu w];cases d <;>simp_all <;>(subst h;rfl)
theorem vc{P:Program}{t:TypeId}{n:Nat}(h:eQ P t=some (some n)):n=P.cellsOf t:=by
 unfold eQ at h;split at h <;>simp_all
theorem u3{P:Program}{t:TypeId}{d:TypeDesc}(h:P.underlying t=some d):∃ i,P.info? t=some i:=by
 unfold Program.underlying at h;cases hi:P.info? t with
 |none=>simp[hi] at h
 |some i=>exact ⟨i,rfl⟩
theorem gq{P:Program}{w:World}{t:TypeId}{i:TypeInfo}(h:P.info? t=some i):(sizeOf t).run P w=.ok (P.cellsOf t) w:=by
 simp[sizeOf,typeInfo,h,Program.cellsOf]
theorem rW{P:Program}{t:TypeId}{s:Option Nat}(h:eQ P t=some s):∃ i,P.info? t=some i:=by
 unfold eQ at h;split at h
 ·rename_i fs hu;exact u3 hu
 ·rename_i n e hu;exact u3 hu
 ·rename_i d _ _ hu;exact u3 hu
 ·cases h
theorem lv(b off j:Nat):(⟨b,off,none⟩:Addr).add j=⟨b,off+j,none⟩:=by unfold Addr.add;split <;>simp_all
theorem Ds{P:Program}{w:World}{D:aD}{E:aN}{t:TypeId}{s:Option Nat}{b off:Nat}{cs:List Value}{y:I}(hk:eQ P t=some s)(hok:bS s y=true)
  (hcs:∀ j u,cs[j]?=some u→w.cell? ⟨b,off+j,none⟩=some u) (hy:ae w D E y cs):∃ v,(loadVar t ⟨b,off,none⟩).run P w=.ok v w∧aP w D E y v:=by
 have hag:=Dr (w:=w) hk;cases s with
 |none =>
  simp only[bS,Bool.not_eq_true'] at hok;have hl:=ae.length _ _ hy;have hsz:y.size=1:=by cases y <;>simp_all[I.isAgg,I.size]
  rw[hsz] at hl
  match cs,hl with
  | [v],_ =>
   have:=hcs 0 v rfl;rw[Nat.add_zero] at this;refine ⟨v,?_,Bi hok hy⟩;simp only[loadVar,Sem.run_bind,hag,Result.andThen_ok,Option.isSome_none,Z7,if_false,run_load,this]
 |some n =>
  simp only[bS,Z0,beq_iff_eq] at hok;obtain ⟨hag',hsz⟩:=hok;have hn:=vc hk;obtain ⟨i,hi⟩:=rW hk;have hl:=ae.length _ _ hy;refine ⟨.agg cs.toArray,?_,fp (by simp[aW,hag']) hy⟩;have hlc:=run_loadCells_list (P:=P) w ⟨b,off,none⟩ cs (fun j u hj=>by rw[lv];exact hcs j u hj);rw[hl,hsz,hn] at hlc;simp only[loadVar,Sem.run_bind,hag,Result.andThen_ok,Option.isSome_some,if_true,gq hi,hlc,Sem.run_pure]
theorem TD{t:TypeId}{y:Operand}{y':au}{s:Option Nat}(ho:o.op=.load t y)(hk:eQ c.P t=some s)(hy:aS c.P 0 y=some y')(h:bO A (af A y')=some x)(hok:bS s x=true):cG c A o x :=
 .same fun a w D E hs=>by
  obtain ⟨b,off,cs,h1,h2,h3⟩:=hs.xz (bn hs hy) h;obtain ⟨v,h4,h5⟩:=Ds hk hok h2 h3;exact ⟨v,by simp[execOp,ho,Instr.loadAt,h1,Instr.sureAddr,h4],h5⟩
theorem sO{w:World}{D:aD}{b off:Nat}{c1 c2 c3:List Value}(h:reads w D b off (c1++c2++c3)):reads w D b (off+c1.length) c2:=by
 intro j v hj;have hjl:j<c2.length:=(Z8.1 hj).1;have:=h (c1.length+j) v (by rw[Z3,List.getElem?_append_right (by omega),Nat.add_sub_cancel_left,zz7 (by omega)];exact hj)
 rwa [←Nat.add_assoc] at this
theorem bL.sv:∀ (p:List Nat) (s:bL) (o i:Nat) (l:List bL),s.off p=some o→s.part p=some (.eJ l)→i<l.length→s.off (p++[i])=some (o+bL.sizes (l.take i))
 | [],s,o,i,l,h1,h2,h3=>by
  simp only[bL.part,v6] at h2;subst h2;simp only[bL.off,v6] at h1;subst h1;simp[bL.off,Y4 h3]
 |k::p,.one,o,i,l,h1,h2,h3=>by simp[bL.part] at h2
 |k::p,.eJ m,o,i,l,h1,h2,h3=>by
  simp only[bL.off,bL.part,Y2] at *;cases hk:m[k]? with
  |none=>simp[hk] at h2
  |some s =>
   simp only[hk] at h1 h2 ⊢;simp only[t7] at h1;obtain ⟨o',h4,rfl⟩:=h1;rw[bL.sv p s o' i l h4 h2 h3];simp[Nat.add_assoc]
theorem na{esz:Nat} : ∀ (fs:List I) (k:Nat),(∀ f∈fs,f.size=esz)→k≤fs.length→I.sizes (fs.take k)=k*esz:=by
 intro fs k h hk;rw[I.fY _ (fun x hx=>h x (List.mem_of_mem_take hx))];simp[Nat.min_eq_left hk]
theorem ph{n esz:Nat}{fs:List I}(h:fR n esz fs=true):fs.length=n∧∀ f∈fs,f.size=esz:=by
 simp only[fR,Z0,beq_iff_eq,Y5] at h;exact h
theorem Dp{P:Program}{w:World}{t:TypeId}{f b off:Nat}{fs:Array Field}{fd:Field}(hu:P.underlying t=some (.struct fs))(hf:fs[f]?=some fd)(hz:¬ P.cellsOf fd.type=0) :
  (Instr.fieldAt t (.pointer (some ⟨b,off,none⟩)) f).run P w=.ok (.pointer (some ⟨b,off+fd.offset,none⟩)) w:=by
 have hi:∃ i,P.info? fd.type=some i:=by
  cases h:P.info? fd.type with
  |none=>simp[Program.cellsOf,h] at hz
  |some i=>exact ⟨i,rfl⟩
 obtain ⟨i,hi⟩:=hi;simp only[Instr.fieldAt,Sem.run_bind,run_underlying hu,Result.andThen_ok,hf,Instr.sureAddr,Sem.run_pure,fieldPlace,gq hi,Sem.run_ite,if_neg hz,lv]
theorem Tv{t:TypeId}{y:Operand}{y':au}{f:Nat}{fs:Array Field}{fd:Field}{gs:List I}(ho:o.op=.fieldAddr t y f)(hu:c.P.underlying t=some (.struct fs))(hf:fs[f]?=some fd)(hz:¬ c.P.cellsOf fd.type=0)
  (hy:aS c.P 0 y=some y') (h:af A y'=.ref (.agg gs)) (hx:gs[f]?=some x) (hoff:I.sizes (gs.take f)=fd.offset):cG c A o (.ref x) :=
 .same fun a w D E hs=>by
  have h1:=bn hs hy;rw[h] at h1;obtain ⟨b,off,cs,h2,h3,h4⟩:=oj h1;simp only[ae] at h4;obtain ⟨c1,c2,c3,rfl,k1,_,k2,_⟩:=kU gs cs f x h4 hx;refine ⟨_,by simp only[execOp,ho,h2,Sem.run_bind,Dp hu hf hz];rfl,sa (cs:=c2) ?_ k2⟩;rw[←hoff,←k1];exact sO h3
theorem Tu{t:TypeId}{y:Operand}{y':au}{f n:Nat}{p:List Nat}{fs:Array Field}{fd:Field}{gs:List I}(ho:o.op=.fieldAddr t y f)(hu:c.P.underlying t=some (.struct fs))(hf:fs[f]?=some fd)(hz:¬ c.P.cellsOf fd.type=0)
  (hy:aS c.P 0 y=some y') (h:af A y'=.ptr n p) (hd:bO A (.ptr n p)=some (.agg gs)) (hl:f<gs.length) (hoff:I.sizes (gs.take f)=fd.offset):cG c A o (.ptr n (p++[f])) :=
 .same fun a w D E hs=>by
  have h1:=bn hs hy;rw[h] at h1;obtain ⟨b,aK,off,h2,h3,h4⟩:=kd h1;obtain ⟨z,b',cs,T,off',c1,c2,c3,k1,k2,_,k3,k4,k5,k6,k7,k8,k9,_⟩:=hs.at hd;rw[k2] at h2;simp only[v6,br.aB.injEq] at h2;obtain ⟨rfl,rfl⟩:=h2;refine ⟨_,by simp only[execOp,ho,h4,Sem.run_bind,Dp hu hf hz];rfl,?_⟩;refine ⟨_,by simp[aW,I.isAgg];rfl,?_⟩;simp only[ae];refine ⟨b',z.aK,off+fd.offset,k2,?_,rfl⟩;rw[bL.sv p z.aK off f _ h3 (lg p z _ k4) (by rw[I.cF];simpa using hl),I.cF,←List.map_take,←I.cF,I.lh,hoff]
theorem Dq{P:Program}{w:World}{t e:TypeId}{n b off:Nat}{kk:IntKind}{k:Int}{i:TypeInfo}(hu:P.underlying t=some (.array n e))(hi:P.info? e=some i)(hk:0≤k∧k<n) :
  (Instr.indexAt t (.pointer (some ⟨b,off,none⟩)) (.int kk k)).run P w=.ok (.pointer (some ⟨b,off+k.toNat*P.cellsOf e,none⟩)) w:=by
 simp[Instr.indexAt,asIntOf,run_underlying hu,Instr.sureAddr,hk,gq hi,lv]
theorem vY{P:Program}{w:World}{t e:TypeId}{n b off cap:Nat}{kk:IntKind}{k:Int}{i:TypeInfo}(hu:P.underlying t=some (.slice e))(hi:P.info? e=some i)(hk:0≤k∧k<n) :
  (Instr.indexAt t (.slice (some ⟨b,off,none⟩) n cap) (.int kk k)).run P w=.ok (.pointer (some ⟨b,off+k.toNat*P.cellsOf e,none⟩)) w:=by
 simp[Instr.indexAt,asIntOf,run_underlying hu,hk,gq hi,lv]
theorem Ty{t e:TypeId}{y z:Operand}{y' z':au}{n:Nat}{i:TypeInfo}{gs:List I}{kk:IntKind}{k:Int}(ho:o.op=.indexAddr t y z)(hu:c.P.underlying t=some (.array n e))(hi:c.P.info? e=some i)
  (hy:aS c.P 0 y=some y') (hz:aS c.P 0 z=some z') (h:af A y'=.ref (.agg gs)) (h':af A z'=.int kk k) (hk:0≤k∧k<n) (hev:fR n (c.P.cellsOf e) gs=true) (hx:gs[k.toNat]?=some x):cG c A o (.ref x) :=
 .same fun a w D E hs=>by
  have h1:=bn hs hy;rw[h] at h1;have h1':=bn hs hz;rw[h'] at h1';obtain ⟨b,off,cs,h2,h3,h4⟩:=oj h1;simp only[ae] at h4;obtain ⟨c1,c2,c3,rfl,k1,_,k2,_⟩:=kU gs cs k.toNat x h4 hx;obtain ⟨e1,e2⟩:=ph hev;have hl:k.toNat<gs.length:=(Z8.1 hx).1;refine ⟨_,by simp only[execOp,ho,h2,(dp h1').1,Sem.run_bind,Dq hu hi hk];rfl,sa (cs:=c2) ?_ k2⟩;rw[←na gs k.toNat e2 (by omega),←k1];exact sO h3
theorem Tx{t e:TypeId}{y z:Operand}{y' z':au}{n m:Nat}{p:List Nat}{i:TypeInfo}{gs:List I}{kk:IntKind}{k:Int}(ho:o.op=.indexAddr t y z)(hu:c.P.underlying t=some (.array n e))(hi:c.P.info? e=some i)
  (hy:aS c.P 0 y=some y') (hz:aS c.P 0 z=some z') (h:af A y'=.ptr m p) (h':af A z'=.int kk k) (hk:0≤k∧k<n) (hd:bO A (.ptr m p)=some (.agg gs)) (hev:fR n (c.P.cellsOf e) gs=true):cG c A o (.ptr m (p++[k.toNat])) :=
 .same fun a w D E hs=>by
  have h1:=bn hs hy;rw[h] at h1;have h1':=bn hs hz;rw[h'] at h1';obtain ⟨b,aK,off,h2,h3,h4⟩:=kd h1;obtain ⟨zz,b',cs,T,off',c1,c2,c3,k1,k2,_,k3,k4,k5,k6,k7,k8,k9,_⟩:=hs.at hd;rw[k2] at h2;simp only[v6,br.aB.injEq] at h2;obtain ⟨rfl,rfl⟩:=h2;obtain ⟨e1,e2⟩:=ph hev;have hl:k.toNat<gs.length:=by omega
  refine ⟨_,by simp only[execOp,ho,h4,(dp h1').1,Sem.run_bind,Dq hu hi hk];rfl,?_⟩;refine ⟨_,by simp[aW,I.isAgg];rfl,?_⟩;simp only[ae];refine ⟨b',zz.aK,off+k.toNat*c.P.cellsOf e,k2,?_,rfl⟩;rw[bL.sv p zz.aK off k.toNat _ h3 (lg p zz _ k4) (by rw[I.cF];simpa using hl),I.cF,←List.map_take,←I.cF,I.lh,na gs _ e2 (by omega)]
theorem uv{w:World}{D:aD}{E:aN}{b off sz k:Nat}{cs:List Value}{es:List I}{x:I}(h1:reads w D b off cs)(h2:az w D E es cs)(h3:∀ e∈es,e.size=sz)(hx:es[k]?=some x) :
  ∃ c2,reads w D b (off+k*sz) c2∧ae w D E x c2:=by
 obtain ⟨c1,c2,c3,rfl,k1,_,k2,_⟩:=kU es cs k x h2 hx;have hl:k<es.length:=(Z8.1 hx).1;refine ⟨c2,?_,k2⟩;rw[←na es k h3 (by omega),←k1];exact sO h1
theorem Tz{t e:TypeId}{y z:Operand}{y' z':au}{i:TypeInfo}{es:List I}{kk:IntKind}{k:Int}(ho:o.op=.indexAddr t y z)(hu:c.P.underlying t=some (.slice e))(hi:c.P.info? e=some i)
  (hy:aS c.P 0 y=some y') (hz:aS c.P 0 z=some z') (h:af A y'=.slice (c.P.cellsOf e) es) (h':af A z'=.int kk k) (hk:0≤k∧k<es.length) (hx:es[k.toNat]?=some x):cG c A o (.ref x) :=
 .same fun a w D E hs=>by
  have h1:=bn hs hy;rw[h] at h1;have h1':=bn hs hz;rw[h'] at h1';obtain ⟨ad,cap,rfl',h2,h3,h4,h5⟩:=ke h1;rcases h4 with h4 | ⟨b,off,cs,rfl,h6,h7⟩
  ·subst h4;simp at hx
  obtain ⟨c2,k1,k2⟩:=uv h6 h7 h5 hx;exact ⟨_,by simp only[execOp,ho,rfl',(dp h1').1,Sem.run_bind,vY hu hi hk];rfl,sa k1 k2⟩
theorem aL.Xx{a:Act}{w:World}{D:aD}{E:aN}(h:aL c A a w D E){n sz b cap:Nat}{T:TypeId}{es:List I}(hn:A.o n=some (.bE T sz es))(aq:E n=some (.rw (some (b,cap)) es.length)) :
  aL c A a w (fun b' o=>D b' o∨(b'=b∧o<es.length*sz)) E:=by
 have hrow:=h.bE hn;obtain ⟨aA,k1,k2,k3⟩:=hrow;rw[aq] at k1;simp only[v6,br.rw.injEq,and_true] at k1;subst k1;obtain ⟨cs,pre,rest,k4,k5,k6,k7,k8,k9,k10,k11⟩:=k3;refine h.Er (fun _ _ hd=>.inl hd) ?_ ?_ ?_ ?_ ?_ ?_
 ·rintro b' o (hd | ⟨rfl,_⟩) hlt
  ·exact h.cI _ _ hd hlt
  ·exact absurd k4 hlt
 ·rintro b' o (hd | ⟨rfl,_⟩)
  ·exact h.cL _ _ hd
  ·exact eG k5
 ·rintro m x b' hm hEm o (hd | ⟨rfl,_⟩)
  ·obtain ⟨b2,cs2,T2,q1,q2,q3,q4,q5⟩:=h.box hm;rw[q1] at hEm;simp only[v6,br.aB.injEq,and_true] at hEm;subst hEm;exact q5 o hd
  ·have:=h.cz m n _ _ b' hEm aq rfl rfl;subst this;rw[hm] at hn;cases hn
 ·rintro m T' sz' es' b' cap' hm hEm o (hd | ⟨rfl,ho⟩)
  ·obtain ⟨aA,q1,q2,q3⟩:=h.bE hm;rw[hEm] at q1;simp only[v6,br.rw.injEq,and_true] at q1;subst q1;obtain ⟨cs',pre',rest',q4,q5,q6,q7,q8,q9,q10,q11⟩:=q3;have:=q11 o hd
   rwa [az.length _ _ q7,I.fY _ q2] at this
  ·have:=h.cz m n _ _ b' hEm aq rfl rfl;subst this;rw[hm] at hn;simp only[v6,ai.bE.injEq] at hn;obtain ⟨rfl,rfl,rfl⟩:=hn;exact ho
 ·rintro m T' xs b' cap' hm hEm o (hd | ⟨rfl,ho⟩)
  ·obtain ⟨aA,q1,_,q3⟩:=h.wM hm;rw[hEm] at q1;simp only[v6,br.rw.injEq,and_true] at q1;subst q1;obtain ⟨_,_,_,_,_,_,_,_,q4⟩:=q3;exact q4 o hd
  ·have:=h.cz m n _ _ b' hEm aq rfl rfl;subst this;rw[hm] at hn;cases hn
 ·rintro m e' b' hE' hoth hblk o (hd | ⟨rfl,_⟩)
  ·exact h.vG hE' hoth hblk o hd
  ·have:=h.cz m n _ _ b' hE' aq hblk rfl;subst this;rw[hE'] at aq;cases aq;cases hoth
theorem aL.own{a:Act}{w:World}{D:aD}{E:aN}(h:aL c A a w D E){n sz:Nat}{T:TypeId}{es:List I}{v:Value}(hn:A.o n=some (.bE T sz es))(hv:aP w D E (.own n es.length) v) :
  (es=[]∧E n=some (.rw none 0)∧v=.slice none 0 0) ∨
  ∃ b cap cs pre rest,E n=some (.rw (some (b,cap)) es.length)∧v=.slice (some ⟨b,0,none⟩) es.length cap∧c.eg b∧w.heap[b]?=some (.cells cs T (0,0))∧cs.toList=pre++rest ∧
   az w D E es pre∧cs.size=cap*sz∧es.length≤cap∧cap≤maxLen∧(∀ o,D b o→o<pre.length):=by
 obtain ⟨cs0,h1,h2⟩:=hv;simp only[ae] at h2;obtain ⟨aA,l,h3,h4,_,h5⟩:=h2;obtain ⟨blk',k1,k2,k3⟩:=h.bE hn;rw[k1] at h3;simp only[v6,br.rw.injEq] at h3;obtain ⟨rfl,rfl⟩:=h3;have h5:=h5 rfl;cases blk' with
 |none =>
  simp only at k3 h5;subst k3;exact .inl ⟨rfl,k1,by simpa[aW,I.isAgg,h5] using h1.symm⟩
 |some bc =>
  obtain ⟨b,cap⟩:=bc;simp only at h5;obtain ⟨cs,pre,rest,k4,k5,k6,k7,k8,k9,k10,k11⟩:=k3;exact .inr ⟨b,cap,cs,pre,rest,k1,by simpa[aW,I.isAgg,h5] using h1.symm,k4,k5,k6,k7,k8,k9,k10,k11⟩
theorem TA{t e:TypeId}{y z:Operand}{y' z':au}{i:TypeInfo}{es:List I}{n:Nat}{kk:IntKind}{k:Int}(ho:o.op=.indexAddr t y z)(hu:c.P.underlying t=some (.slice e))(hi:c.P.info? e=some i)
  (hy:aS c.P 0 y=some y') (hz:aS c.P 0 z=some z') (h:af A y'=.own n es.length) {T:TypeId} (hn:A.o n=some (.bE T (c.P.cellsOf e) es)) (h':af A z'=.int kk k) (hk:0≤k∧k<es.length) (hx:es[k.toNat]?=some x):cG c A o (.ref x):=by
 intro a w D E hs;have h1:=bn hs hy;rw[h] at h1;have h1':=bn hs hz;rw[h'] at h1';rcases hs.own hn h1 with ⟨rfl,_⟩ | ⟨b,cap,cs,pre,rest,k1,k2,k3,k4,k5,k6,k7,k8,k9,k10⟩
 ·simp at hx
 ·have hs':=hs.Xx hn k1;obtain ⟨aA,q1,q2,_⟩:=hs.bE hn;have hpl:pre.length=es.length*c.P.cellsOf e:=by rw[az.length _ _ k6,I.fY _ q2]
  have hr:reads w (fun b' o=>D b' o∨(b'=b∧o<es.length*c.P.cellsOf e)) b 0 pre:=by
   have:=sN (D:=fun b' o=>D b' o∨(b'=b∧o<es.length*c.P.cellsOf e)) (c1:=[]) k4 (by simpa using k5) (fun o ho=>.inr ⟨rfl,by simp at ho;omega⟩);simpa using this
  have hrc:az w (fun b' o=>D b' o∨(b'=b∧o<es.length*c.P.cellsOf e)) E es pre :=
   az.later ⟨fun _ _ hd=>.inl hd,fun _ _ _ _ h=>h,fun _ _ _ h=>h,fun _ aA l h=>⟨aA,l,h,Z5 _,fun _=>rfl⟩,fun _ _ h=>h,fun _ _ h=>h,fun _ _ _ _ h=>h⟩ es pre k6
  obtain ⟨c2,q3,q4⟩:=uv hr hrc q2 hx;exact ⟨_,w,_,by simp only[execOp,ho,k2,(dp h1').1,Sem.run_bind,vY hu hi hk];rfl,hs',sa q3 q4⟩
end
section
variable {c:cm} {A:ab} {o:Oper} {x:I}
theorem mV{P:Program}{w:World}{D:aD}{E:aN}{t:TypeId}{s:Option Nat}{c1 c2 c3:List Value}{y:I}(hk:eQ P t=some s)(hok:bS s y=true)(hy:ae w D E y c2) :
  ∃ v,(part t (c1++c2++c3).toArray c1.length).run P w=.ok v w∧aP w D E y v:=by
 have hag:=Dr (w:=w) hk;have hl:=ae.length _ _ hy;cases s with
 |none =>
  simp only[bS,Bool.not_eq_true'] at hok;have hsz:y.size=1:=by cases y <;>simp_all[I.isAgg,I.size]
  rw[hsz] at hl
  match c2,hl with
  | [v],_ =>
   refine ⟨v,?_,Bi hok hy⟩;simp[part,hag]
 |some n =>
  simp only[bS,Z0,beq_iff_eq] at hok;obtain ⟨hag',hsz⟩:=hok;have hn:=vc hk;obtain ⟨i,hi⟩:=rW hk;refine ⟨.agg c2.toArray,?_,fp (by simp[aW,hag']) hy⟩;have e:((c1++c2++c3).toArray.extract c1.length (c1.length+P.cellsOf t))=c2.toArray:=by
   have:P.cellsOf t=c2.length:=by rw[hl,hsz,hn]
   rw[this];simp
  simp only[part,Sem.run_bind,hag,Result.andThen_ok,Option.isSome_some,if_true,gq hi,e,Sem.run_pure]
theorem Tw{t:TypeId}{y:Operand}{y':au}{f:Nat}{s:Option Nat}{fs:Array Field}{fd:Field}{gs:List I}(ho:o.op=.field t y f)(hu:c.P.underlying t=some (.struct fs))(hf:fs[f]?=some fd)(hk:eQ c.P fd.type=some s)
  (hy:aS c.P 0 y=some y') (h:af A y'=.agg gs) (hx:gs[f]?=some x) (hoff:I.sizes (gs.take f)=fd.offset) (hok:bS s x=true):cG c A o x :=
 .same fun a w D E hs=>by
  have h1:=bn hs hy;rw[h] at h1;obtain ⟨cs,h2,h4⟩:=iu h1;obtain ⟨c1,c2,c3,rfl,k1,_,k2,_⟩:=kU gs cs f x h4 hx;obtain ⟨v,k3,k4⟩:=mV (c1:=c1) (c3:=c3) hk hok k2;rw[k1,hoff] at k3;exact ⟨v,by simp only[execOp,ho,h2,Instr.field,Sem.run_bind,run_underlying hu,Result.andThen_ok,hf,asAgg,Sem.run_pure,k3],k4⟩
theorem TC{t e:TypeId}{y z:Operand}{y' z':au}{n:Nat}{s:Option Nat}{gs:List I}{kk:IntKind}{k:Int}(ho:o.op=.index t y z)(hu:c.P.underlying t=some (.array n e))(hk:eQ c.P e=some s)
  (hy:aS c.P 0 y=some y') (hz:aS c.P 0 z=some z') (h:af A y'=.agg gs) (h':af A z'=.int kk k) (hb:0≤k∧k<n) (hev:fR n (c.P.cellsOf e) gs=true) (hx:gs[k.toNat]?=some x) (hok:bS s x=true):cG c A o x :=
 .same fun a w D E hs=>by
  have h1:=bn hs hy;rw[h] at h1;have h1':=bn hs hz;rw[h'] at h1';obtain ⟨cs,h2,h4⟩:=iu h1;obtain ⟨c1,c2,c3,rfl,k1,_,k2,_⟩:=kU gs cs k.toNat x h4 hx;obtain ⟨v,k3,k4⟩:=mV (c1:=c1) (c3:=c3) hk hok k2;obtain ⟨e1,e2⟩:=ph hev;obtain ⟨i,hi⟩:=rW hk;have hl:k.toNat<gs.length:=(Z8.1 hx).1;rw[k1,na gs k.toNat e2 (by omega)] at k3;exact ⟨v,by simp only[execOp,ho,h2,(dp h1').1,Instr.index,Sem.run_bind,asIntOf,run_underlying hu,Result.andThen_ok,Sem.run_ite,if_pos hb,gq hi,Sem.run_pure,k3],k4⟩
theorem vj{n:Nat}(h:n≤maxLen):IntKind.i64.min≤(n:Int)∧(n:Int)≤IntKind.i64.max:=by
 simp only[IntKind.min,IntKind.max,IntKind.bits,IntKind.signed];unfold maxLen at h;simp;omega
theorem nO{ty:TypeId}{y:Operand}{y':au}{n:Nat}{d:TypeDesc}(ho:o.op=.call { callee:=.builtin .len,args := #[y],argTypes := #[ty] })(hu:c.P.underlying ty=some d)(hd:(∃ e,d=.slice e)∨d=.string)
  (hy:aS c.P ty y=some y') (h:∀ a w D E,aL c A a w D E→∀ v,aP w D E (af A y') v→n≤maxLen∧((∃ e,d=.slice e)→∃ ad cap,v=.slice ad n cap)∧(d=.string→∃ s,v=.string s∧s.size=n)):cG c A o (.int .i64 n) :=
 .same fun a w D E hs=>by
  obtain ⟨h0,h1,h2⟩:=h a w D E hs _ (bn hs hy);refine ⟨.int .i64 n,?_,gS (vj h0)⟩;rcases hd with ⟨e,rfl⟩ | rfl
  ·obtain ⟨ad,cap,hv⟩:=h1 ⟨e,rfl⟩;simp[execOp,ho,resolve,invoke,builtin,Builtin.len_,run_underlying hu,hv,goInt]
  ·obtain ⟨s,hv,hs⟩:=h2 rfl;simp[execOp,ho,resolve,invoke,builtin,Builtin.len_,run_underlying hu,hv,goInt,hs]
theorem TV{t e:TypeId}{y:Operand}{y':au}{n:Nat}{i:TypeInfo}{gs:List I}(ho:o.op=.slice t y none none none)(hu:c.P.underlying t=some (.array n e))(hi:c.P.info? e=some i)
  (hy:aS c.P 0 y=some y') (h:af A y'=.ref (.agg gs)) (hev:fR n (c.P.cellsOf e) gs=true) (hn:n≤maxLen):cG c A o (.slice (c.P.cellsOf e) gs) :=
 .same fun a w D E hs=>by
  have h1:=bn hs hy;rw[h] at h1;obtain ⟨b,off,cs,h2,h3,h4⟩:=oj h1;simp only[ae] at h4;obtain ⟨e1,e2⟩:=ph hev;by_cases h0:n=0
  ·exact ⟨.slice (some ⟨b,off,none⟩) 0 0,by simp[execOp,ho,h2,Instr.sliceAt,run_underlying hu,Instr.sureAddr,Instr.sliceBounds,gq hi,h0],sc (by omega) (by omega) (by simp[maxLen]) (.inl (zz9 (by omega))) e2⟩
  ·exact ⟨.slice (some ⟨b,off,none⟩) n n,by simp[execOp,ho,h2,Instr.sliceAt,run_underlying hu,Instr.sureAddr,Instr.sliceBounds,gq hi,lv],sc e1.symm (Z5 _) hn (.inr ⟨b,off,cs,rfl,h3,h4⟩) e2⟩
theorem TU{t e:TypeId}{y:Operand}{y':au}{n m:Nat}{p:List Nat}{i:TypeInfo}{gs:List I}(ho:o.op=.slice t y none none none)(hu:c.P.underlying t=some (.array n e))(hi:c.P.info? e=some i)
  (hy:aS c.P 0 y=some y') (h:af A y'=.ptr m p) (hd:bO A (.ptr m p)=some (.agg gs)) (hev:fR n (c.P.cellsOf e) gs=true) (hn:n≤maxLen) (hn0:n≠0):cG c A o (.view m p (c.P.cellsOf e) 0 n) :=
 .same fun a w D E hs=>by
  have h1:=bn hs hy;rw[h] at h1;obtain ⟨b,aK,off,h2,h3,h4⟩:=kd h1;obtain ⟨zz,b',cs,T,off',c1,c2,c3,k1,k2,_,k3,k4,k5,k6,k7,k8,k9,_⟩:=hs.at hd;rw[k2] at h2;simp only[v6,br.aB.injEq] at h2;obtain ⟨rfl,rfl⟩:=h2;obtain ⟨e1,e2⟩:=ph hev;refine ⟨.slice (some ⟨b',off,none⟩) n n,by simp[execOp,ho,h4,Instr.sliceAt,run_underlying hu,Instr.sureAddr,Instr.sliceBounds,gq hi,lv],?_⟩;refine ⟨_,by simp[aW,I.isAgg];rfl,?_⟩;simp only[ae];refine ⟨b',zz.aK,off,I.cK gs,k2,h3,lg p zz _ k4,?_,?_,?_,?_⟩
  ·rw[I.cF,Z2,e1];simp
  ·rw[I.cF,Z2,e1];exact hn
  ·rw[I.cF,Z2,e1];omega
  ·rw[I.cF];intro s hs';obtain ⟨f,hf,rfl⟩:=zz1.1 hs';rw[I.hE];exact e2 f hf
theorem WC{w:World}{D:aD}{E:aN}{b off sz:Nat}{cs:List Value}{es:List I}(h1:reads w D b off cs)(h2:az w D E es cs)(h3:∀ e∈es,e.size=sz)(l h:Nat)(hl:l≤h)(hh:h≤es.length) :
  ∃ c2,reads w D b (off+l*sz) c2∧az w D E ((es.take h).drop l) c2:=by
 have hspl:∀ (xs ys:List I) (cs:List Value),az w D E (xs++ys) cs→∃ c1 c2,cs=c1++c2∧az w D E xs c1∧az w D E ys c2:=by
  intro xs
  induction xs with
  |nil=>intro ys cs hr;exact ⟨[],cs,rfl,by simp[az],hr⟩
  |cons x xs ih =>
   intro ys cs hr;simp only[Y2,az] at hr;obtain ⟨d1,d2,rfl,k1,k2⟩:=hr;obtain ⟨e1,e2,rfl,k3,k4⟩:=ih ys d2 k2;exact ⟨d1++e1,e2,by simp,by simp only[az];exact ⟨d1,e1,rfl,k1,k3⟩,k4⟩
 have e1:es=es.take l++((es.take h).drop l++es.drop h):=by
  rw[←Z3]
  conv=>lhs;rw[←zy4 h es]
  congr 1
  rw[←List.XJ l h es hl]
 rw[e1] at h2;obtain ⟨c1,c',rfl,k1,k2⟩:=hspl _ _ _ h2;obtain ⟨c2,c3,rfl,k3,k4⟩:=hspl _ _ _ k2;refine ⟨c2,?_,k3⟩;rw[←na es l h3 (by omega),←az.length _ _ k1];rw[←Z3] at h1;exact sO h1
 where
 List.XJ {α:Type} (l h:Nat) (es:List α) (hl:l≤h):es.take h=es.take l++(es.take h).drop l:=by
  conv=>lhs;rw[←zy4 l (es.take h)]
  rw[List.take_take,Nat.min_eq_left hl]
def gH(w:World)(D:aD)(E:aN)(x:Option I)(v:Option Value):Prop:=match x,v with
 |none,none=>True
 |some x,some v=>aP w D E x v
 |_,_=>False
theorem Gs{x:I}{d n:Int}(h:gf (some x) d=some n):∃ k,x=.int k n:=by
 cases x <;>simp[gf] at h
 subst h;exact ⟨_,rfl⟩
theorem pV{w:World}{D:aD}{E:aN}{x:Option I}{v:Option Value}{d n:Int}(h:gH w D E x v)(hb:gf x d=some n) :
  (x=none∧v=none∧d=n)∨(x.isSome=true∧∃ k,v=some (.int k n)):=by
 cases x with
 |none =>
  cases v with
  |some _=>simp[gH] at h
  |none=>simp only[gf,v6] at hb;exact .inl ⟨rfl,rfl,hb⟩
 |some x =>
  cases v with
  |none=>simp[gH] at h
  |some v =>
   obtain ⟨k,rfl⟩:=Gs hb;simp only[gH] at h;exact .inr ⟨rfl,k,by rw[(dp h).1]⟩
theorem vZ{P:Program}{w:World}{D:aD}{E:aN}{t e:TypeId}{i:TypeInfo}{sz:Nat}{es:List I}{lo hi mx:Option I}{vlo vhi vmx:Option Value}{x:I}{ad:Option Addr}{cap:Nat}
  (hu:P.underlying t=some (.slice e)) (hi':P.info? e=some i) (hsz:sz=P.cellsOf e) (hmh:mx.isSome=true→hi.isSome=true)
  (h1:gH w D E lo vlo) (h2:gH w D E hi vhi) (h3:gH w D E mx vmx) (hx:gL sz es lo hi mx=some x)
  (hcap:es.length≤cap) (hcm:cap≤maxLen) (hes:es=[]∨∃ b off cs,ad=some ⟨b,off,none⟩∧reads w D b off cs∧az w D E es cs) (hall:∀ e∈es,e.size=sz) :
  ∃ v,(Instr.sliceAt t (.slice ad es.length cap) vlo vhi vmx).run P w=.ok v w∧aP w D E x v:=by
 unfold gL at hx;split at hx
 ·cases hx
 rename_i h hh;split at hx
 ·cases hx
 rename_i m hm;split at hx
 ·cases hx
 rename_i l hl;split at hx
 case isFalse=>cases hx
 rename_i hb;obtain ⟨b1,b2,b3,b4⟩:=hb;have sb:∀ (k:IntKind) (n:Int) (y:Nat) (code:BoundsCode),0≤n→n≤y→(Instr.sliceBound (.int k n) y code).run P w=.ok n.toNat w:=fun k n y code g1 g2=>by
  simp[Instr.sliceBound,asIntOf,g1,g2]
 -- the bounds that the program finds
 have key:∃ m':Nat,es.length≤cap∧m'≤cap∧h.toNat≤m'∧(mx.isSome=true→m'=m.toNat)∧(mx=none→m'=cap) ∧
   (Instr.sliceBounds true es.length cap vlo vhi vmx).run P w=.ok (l.toNat,h.toNat,m') w:=by
  have c1:=pV h1 hl;have c2:=pV h2 hh;have c3:=pV h3 hm;clear h1 h2 h3;rcases c3 with ⟨rfl,rfl,hm3⟩ | ⟨s3,k3,rfl⟩
  ·refine ⟨cap,hcap,Z5 _,by omega,fun e=>(by cases e),fun _=>rfl,?_⟩;rcases c2 with ⟨rfl,rfl,hm2⟩ | ⟨s2,k2,rfl⟩ <;>rcases c1 with ⟨rfl,rfl,hm1⟩ | ⟨s1,k1,rfl⟩
   ·subst hm1 hm2;simp[Instr.sliceBounds]
   ·subst hm2;simp[Instr.sliceBounds,sb k1 l es.length _ b1 (by omega)]
   ·subst hm1;simp[Instr.sliceBounds,sb k2 h cap _ (by omega) (by omega)]
   ·simp[Instr.sliceBounds,sb k2 h cap _ (by omega) (by omega),sb k1 l h.toNat _ b1 (by omega)]
  ·refine ⟨m.toNat,hcap,by omega,by omega,fun _=>rfl,fun e=>(by rw[e] at s3;cases s3),?_⟩;rcases c2 with ⟨rfl,rfl,hm2⟩ | ⟨s2,k2,rfl⟩
   ·simp[s3] at hmh
   ·rcases c1 with ⟨rfl,rfl,hm1⟩ | ⟨s1,k1,rfl⟩
    ·subst hm1;simp[Instr.sliceBounds,sb k3 m cap _ (by omega) (by omega),sb k2 h m.toNat _ (by omega) (by omega)]
    ·simp[Instr.sliceBounds,sb k3 m cap _ (by omega) (by omega),sb k2 h m.toNat _ (by omega) (by omega),sb k1 l h.toNat _ b1 (by omega)]
 obtain ⟨m',g1,g2,g3,g4,g5,hsb⟩:=key;have hrun:(Instr.sliceAt t (.slice ad es.length cap) vlo vhi vmx).run P w =
   .ok (.slice (if m'=l.toNat then ad else ad.map (·.add (l.toNat*P.cellsOf e))) (h.toNat-l.toNat) (m'-l.toNat)) w:=by
  simp only[Instr.sliceAt,Instr.slice,Sem.run_bind,run_underlying hu,Result.andThen_ok,hsb,gq hi',Sem.run_pure]
 refine ⟨_,hrun,?_⟩;split at hx
 ·rename_i hc;simp only[v6] at hx;subst hx;have e1:m'=l.toNat:=by rw[g4 hc.1,hc.2]
  have e2:h.toNat-l.toNat=0:=by omega
  rw[if_pos e1,e2,e1,Nat.sub_self];exact ⟨_,by simp[aW,I.isAgg];rfl,by simp only[ae];exact ⟨ad,rfl⟩⟩
 ·simp only[v6] at hx;subst hx;have hlen:((es.take h.toNat).drop l.toNat).length=h.toNat-l.toNat:=by simp;omega
  refine sc hlen.symm (by omega) (by omega) ?_ (fun y hy=>hall y (List.mem_of_mem_take (List.mem_of_mem_drop hy)));by_cases hz:h.toNat=l.toNat
  ·left;exact zz9 (by omega)
  ·right
   rw[if_neg (by omega)];rcases hes with rfl | ⟨b,off,cs,rfl,q1,q2⟩
   ·simp at b4 g3;omega
   ·obtain ⟨c2,q3,q4⟩:=WC q1 q2 hall l.toNat h.toNat (by omega) (by omega);exact ⟨b,off+l.toNat*sz,c2,by simp[lv,hsz],q3,q4⟩
theorem uZ{t e:TypeId}{y:Operand}{y':au}{lo hi mx:Option Operand}{lo' hi' mx':Option au}{i:TypeInfo}{es:List I}(ho:o.op=.slice t y lo hi mx)(hu:c.P.underlying t=some (.slice e))(hi0:c.P.info? e=some i)
  (hy:aS c.P 0 y=some y') (h1:gN c.P lo=some lo') (h2:gN c.P hi=some hi') (h3:gN c.P mx=some mx') (hmh:mx'.isSome=true→hi'.isSome=true)
  (h:af A y'=.slice (c.P.cellsOf e) es∨(af A y'=.nils (c.P.cellsOf e)∧es=[])∨(af A y'=.c0 (c.P.cellsOf e)∧es=[])) (hx:gL (c.P.cellsOf e) es (lo'.map (af A)) (hi'.map (af A)) (mx'.map (af A))=some x):cG c A o x :=
 .same fun a w D E hs=>by
  have opt:∀ {q:Option Operand} {q':Option au},gN c.P q=some q'→gH w D E (q'.map (af A)) (q.map a.eval):=by
   intro q q' hq;cases q with
   |none=>simp only[gN,v6] at hq;subst hq;simp[gH]
   |some z =>
    simp only[gN,t7] at hq;obtain ⟨z',hz,rfl⟩:=hq;simpa[gH] using bn hs hz
  have h0:=bn hs hy;have hmh':(mx'.map (af A)).isSome=true→(hi'.map (af A)).isSome=true:=by simpa using hmh
  rcases h with h | ⟨h,rfl⟩ | ⟨h,rfl⟩
  ·rw[h] at h0;obtain ⟨ad,cap,e1,e2,e3,e4,e5⟩:=ke h0;obtain ⟨v,k1,k2⟩:=vZ hu hi0 rfl hmh' (opt h1) (opt h2) (opt h3) hx e2 e3 e4 e5;exact ⟨v,by simp only[execOp,ho,e1,Sem.run_bind,k1];rfl,k2⟩
  ·rw[h] at h0;obtain ⟨cs,q1,q2⟩:=h0;simp only[ae] at q2;have e1:a.eval y=.slice none ([]:List I).length 0:=by simpa[aW,I.isAgg,q2] using q1.symm
   obtain ⟨v,k1,k2⟩:=vZ (ad:=none) (cap:=0) hu hi0 rfl hmh' (opt h1) (opt h2) (opt h3) hx (by simp) (by simp[maxLen]) (.inl rfl) (by simp);exact ⟨v,by simp only[execOp,ho,e1,Sem.run_bind,k1];rfl,k2⟩
  ·rw[h] at h0;obtain ⟨cs,q1,q2⟩:=h0;simp only[ae] at q2;obtain ⟨ad,q2⟩:=q2;have e1:a.eval y=.slice ad ([]:List I).length 0:=by simpa[aW,I.isAgg,q2] using q1.symm
   obtain ⟨v,k1,k2⟩:=vZ (ad:=ad) (cap:=0) hu hi0 rfl hmh' (opt h1) (opt h2) (opt h3) hx (by simp) (by simp[maxLen]) (.inl rfl) (by simp);exact ⟨v,by simp only[execOp,ho,e1,Sem.run_bind,k1];rfl,k2⟩
end
inductive dY {α β:Type} (R:α→β→Prop):List α→List β→Prop where
 |nil:dY R [] []
 |cons {x:α} {y:β} {xs:List α} {ys:List β} : R x y→dY R xs ys→dY R (x::xs) (y::ys)
section
variable {c:cm} {A:ab} {o:Oper} {x:I}
theorem WB{w:World}{D:aD}{E:aN}{xs:List I}{cs ds:List Value}{i:Nat}{x y:I}(h:az w D E xs cs)(hx:xs[i]?=some x)(hy:ae w D E y ds)(hs:y.size=x.size) :
  I.sizes (xs.take i)+ds.length≤cs.length∧az w D E (xs.set i y) (cs.take (I.sizes (xs.take i))++ds++cs.drop (I.sizes (xs.take i)+ds.length)):=by
 obtain ⟨c1,c2,c3,rfl,h1,h2,h3,h4⟩:=kU xs cs i x h hx;have hi:i<xs.length:=(Z8.1 hx).1;have hl:ds.length=c2.length:=by rw[ae.length _ _ hy,ae.length _ _ h3,hs]
 refine ⟨by simp only[Z1,h1];omega,?_⟩;have e1:xs.set i y=xs.take i++y::xs.drop (i+1):=by rw[List.set_eq_take_append_cons_drop];simp[hi]
 have e2:(c1++c2++c3).take (I.sizes (xs.take i))++ds++(c1++c2++c3).drop (I.sizes (xs.take i)+ds.length)=c1++(ds++c3):=by
  rw[←h1,hl,Z3 c1 c2 c3,zy7,List.drop_length_add_append,List.drop_left,Z3]
 rw[e1,e2];refine iK _ _ _ _ h2 ?_;simp only[az];exact ⟨ds,c3,rfl,hy,h4⟩
theorem Lx(off:Nat)(l:List Value)(cs:Array Value)(h:off+l.length≤cs.size) :
  ((l.zipIdx 0).foldl (fun cs (x:Value×Nat)=>cs.setIfInBounds (off+x.2) x.1) cs).toList=cs.toList.take off++l++cs.toList.drop (off+l.length):=by
 obtain ⟨h1,h2⟩:=Great.foldl_set off l 0 cs;apply List.ext_getElem?;intro k;rw[Array.getElem?_toList,h2 k];simp only[Nat.add_zero,Z3];by_cases hk:k<off
 ·rw[if_neg (by omega),zz7 (by simp;omega)];simp[hk]
 ·rw[List.getElem?_append_right (by simp;omega)];simp only[Z6,zz5,Nat.min_eq_left (show off≤cs.size by omega)];by_cases hk2:k<off+l.length
  ·rw[if_pos ⟨by omega,by omega,by omega⟩,zz7 (by omega)]
  ·rw[if_neg (by omega),List.getElem?_append_right (by omega)];simp only[List.getElem?_drop,Array.getElem?_toList]
   congr 1
   omega
theorem uG{w:World}{D:aD}{E:aN}(pl:Nat→Option (Nat×Nat)):∀ (ps:List (Nat×I)) (vs:List (Nat×Value)) (zs zs':List I) (cells:Array Value),
  (∀ i z,zs[i]?=some z→pl i=some (I.sizes (zs.take i),z.size))→az w D E zs cells.toList→e9 zs ps=some zs' →
  dY (fun (p:Nat×I) (v:Nat×Value)=>p.1=v.1∧aP w D E p.2 v.2) ps vs →
  ∃ cells',Instr.fill pl cells vs=some cells'∧az w D E zs' cells'.toList
 | [],vs,zs,zs',cells,hp,hr,hs,hf=>by
  cases hf;simp only[e9,v6] at hs;subst hs;exact ⟨cells,rfl,hr⟩
 |(i,y)::ps,vs,zs,zs',cells,hp,hr,hs,hf=>by
  cases hf with
  |cons h1 h2 =>
   rename_i v vs;obtain ⟨j,u⟩:=v;simp only at h1;obtain ⟨rfl,hv⟩:=h1;simp only[e9] at hs;split at hs
   ·rename_i z hz;split at hs
    ·rename_i hsz;obtain ⟨hval,hsz⟩:=hsz;obtain ⟨ds,k1,k2⟩:∃ ds,aW y u ds∧ae w D E y ds:=by
      cases y <;>simp[I.cv] at hval <;>exact hv
     have hcells:=k1.cells k2;have hds:u.cells.size=z.size:=by rw[←zz5,hcells,ae.length _ _ k2,hsz]
     obtain ⟨k3,k4⟩:=WB hr hz k2 hsz;have hcl:cells.toList.length=cells.size:=zz5;have hl:ds.length=u.cells.size:=by rw[←hcells,zz5]
     have hp':∀ k z',(zs.set i y)[k]?=some z'→pl k=some (I.sizes ((zs.set i y).take k),z'.size):=by
      intro k z' hk;have hil:i<zs.length:=(Z8.1 hz).1;have hsizes:∀ k,I.sizes ((zs.set i y).take k)=I.sizes (zs.take k):=by
       intro k;have gen:∀ (zs:List I) (i k:Nat) (z:I),zs[i]?=some z→z.size=y.size→I.sizes ((zs.set i y).take k)=I.sizes (zs.take k):=by
        intro zs
        induction zs with
        |nil=>intro i k z hz _;simp at hz
        |cons q qs ih =>
         intro i k z hz he;cases k with
         |zero=>simp
         |succ k =>
          cases i with
          |zero =>
           simp only[List.getElem?_cons_zero,v6] at hz;subst hz;simp[I.sizes,he]
          |succ i =>
           simp only[List.set_cons_succ,List.take_succ_cons,I.sizes,ih i k z (by simpa using hz) he]
       exact gen zs i k z hz hsz.symm
      rw[hsizes];rw[List.getElem?_set] at hk;split at hk
      ·rename_i hik;subst hik;simp only[v6] at hk;subst hk;rw[hp i z hz,hsz]
      ·exact hp k z' hk
     have hfold:=Lx (I.sizes (zs.take i)) u.cells.toList cells (by rw[hcells];omega);rw[hcells] at hfold;obtain ⟨cells',k5,k6⟩:=uG pl ps vs (zs.set i y) zs' ((u.cells.toList.zipIdx 0).foldl (fun cs (x:Value×Nat)=>cs.setIfInBounds (I.sizes (zs.take i)+x.2) x.1) cells) hp'
      (by rw[hcells,hfold];exact k4) hs h2
     refine ⟨cells',?_,k6⟩;unfold Instr.fill;simp only[hp i z hz];rw[if_neg (by simp[hds];omega)];rw[←k5]
     congr 1
     rw[←Array.foldl_toList,Array.toList_zipIdx]
    ·cases hs
   ·cases hs
theorem BP{a:Act}{w:World}{D:aD}{E:aN}(hs:aL c A a w D E){P:Program} : ∀ (ps:List (Nat×Operand)) (qs:List (Nat×au)),jQ P ps=some qs →
  dY (fun (p:Nat×I) (v:Nat×Value)=>p.1=v.1∧aP w D E p.2 v.2) (qs.map fun p=>(p.1,af A p.2)) (ps.map fun p=>(p.1,a.eval p.2))
 | [],qs,h=>by simp[jQ] at h;subst h;exact .nil
 |(i,x)::ps,qs,h=>by
  simp only[jQ,List.mapM_cons,Option.bind_eq_bind,Option.pure_def,zy3,t7,v6] at h;obtain ⟨_,⟨y,hy,rfl⟩,qs',hq,rfl⟩:=h;exact .cons ⟨rfl,bn hs hy⟩ (BP hs ps qs' hq)
theorem Am{t:TypeId}{parts:Array (Nat×Operand)}{ps:List (Nat×au)}{zs zs':List I}(ho:o.op=.build t parts)(hz:fe c.P t=some (.agg zs))(hp:jQ c.P parts.toList=some ps)
  (hpl:(∃ fs,c.P.underlying t=some (.struct fs)∧(fs.toList.map fun f=>(f.offset,c.P.cellsOf f.type))=ka 0 zs∧(fs.all fun f=>(c.P.info? f.type).isSome)=true) ∨
   (∃ n e,c.P.underlying t=some (.array n e)∧zs.length=n∧(zs.all fun z=>z.size==c.P.cellsOf e)=true∧(c.P.info? e).isSome=true))
  (h:e9 zs (ps.map fun p=>(p.1,af A p.2))=some zs'):cG c A o (.agg zs') :=
 .same fun a w D E hs=>by
  obtain ⟨i,z,hi,hzv,hzr⟩:=kp hz;have hzr:=hzr w D E;simp only[ae] at hzr;have hparts:=BP hs parts.toList ps hp;have hmap:(parts.map fun (q:Nat×Operand)=>(q.1,a.eval q.2)).toList=parts.toList.map fun p=>(p.1,a.eval p.2):=by simp
  rcases hpl with ⟨fs,hu,hoffs,hinfo⟩ | ⟨n,e,hu,hn,hev,hinfo⟩
  ·have hpl:∀ i z,zs[i]?=some z→(ka 0 zs)[i]?=some (I.sizes (zs.take i),z.size):=by
    intro i z hiz;rw[BS,hiz];simp
   obtain ⟨cells',k1,k2⟩:=uG ((ka 0 zs)[·]?) _ _ zs zs' z.cells hpl hzr h hparts;have hm:fs.toList.mapM (fun f=>(c.P.info? f.type).map fun i=>(f.offset,i.size))=some (ka 0 zs):=by
    rw[←hoffs];have hall:∀ f∈fs.toList,(c.P.info? f.type).isSome=true:=fun f hf=>by
     have:=(Array.all_eq_true_iff_forall_mem.1 hinfo) f (by simpa using hf);exact this
    revert hall;generalize fs.toList=l;intro hall
    induction l with
    |nil=>rfl
    |cons f l ih =>
     obtain ⟨j,hj⟩:=Y6.1 (hall f (by simp));simp only[List.mapM_cons,Option.bind_eq_bind,hj,Y1,zy5,ih (fun g hg=>hall g (by simp[hg])),Option.pure_def,Z4,Program.cellsOf,Option.getD_some]
   have hb:c.P.built t (parts.map fun (q:Nat×Operand)=>(q.1,a.eval q.2)).toList=some cells':=by
    unfold Program.built;simp only[hi,hu,hzv,hm];rw[hmap,←k1]
    congr 1
    funext k
    simp
   exact ⟨.agg cells',by simp only[execOp,ho,Sem.run_bind,run_build w t _ _ hb];rfl,by have:=Bg k2;simpa using this⟩
  ·obtain ⟨ie,hie⟩:=Y6.1 hinfo;have hev':∀ z∈zs,z.size=ie.size:=fun z hz=>by
    have:=Y5.1 hev z hz;simpa[Program.cellsOf,hie] using this
   have hpl:∀ i z,zs[i]?=some z→(fun i=>some (i*ie.size,ie.size)) i=some (I.sizes (zs.take i),z.size):=by
    intro i z hiz;have hl:i<zs.length:=(Z8.1 hiz).1;rw[na zs i hev' (by omega),hev' z (List.mem_of_getElem? hiz)]
   obtain ⟨cells',k1,k2⟩:=uG (fun i=>some (i*ie.size,ie.size)) _ _ zs zs' z.cells hpl hzr h hparts;have hb:c.P.built t (parts.map fun (q:Nat×Operand)=>(q.1,a.eval q.2)).toList=some cells':=by
    unfold Program.built;simp only[hi,hu,hzv,hie];rw[hmap,←k1]
   exact ⟨.agg cells',by simp only[execOp,ho,Sem.run_bind,run_build w t _ _ hb];rfl,by have:=Bg k2;simpa using this⟩
theorem jO{a:Act}{w:World}{D:aD}{E:aN}(hs:aL c A a w D E){P:Program} : ∀ (xs:List Operand) (ts:List TypeId) (ys:List au),jm P xs ts=some ys →
  dY (aP w D E) (ys.map (af A)) (xs.map a.eval)
 | [],_,ys,h=>by simp[jm] at h;subst h;exact .nil
 |x::xs,ts,ys,h=>by
  simp only[jm] at h;split at h
  ·rename_i y ys' h1 h2;simp only[v6] at h;subst h;exact .cons (bn hs h1) (jO hs xs _ ys' h2)
  ·cases h
theorem kg{w:World}{D:aD}{E:aN} : ∀ (xs:List I) (vs:List Value),dY (aP w D E) xs vs→(∀ x∈xs,x.cv=true)→ao w D E xs vs
 | [],vs,h,_=>by cases h;simp[ao]
 |x::xs,vs,h,hv=>by
  cases h with
  |cons h1 h2 =>
   rename_i v vs;have hx:=hv x (by simp);obtain ⟨cs,k1,k2⟩:∃ cs,aW x v cs∧ae w D E x cs:=by
    cases x <;>simp[I.cv] at hx <;>exact h1
   simp only[ao];exact ⟨v,vs,cs,rfl,k1,k2,kg xs vs h2 (fun y hy=>hv y (by simp[hy]))⟩
theorem po{aB:Bool}{B:ab} : ∀ {xs ys:List I},bC aB B xs=some ys→∀ x∈xs,x.cv=true
 | [],ys,_,x,hx=>by simp at hx
 |y::xs,ys,h,x,hx=>by
  simp only[bC] at h;split at h
  ·rename_i z zs h1 h2;rcases zy0.1 hx with rfl | hx
   ·cases x <;>simp_all[aZ,I.cv]
   ·exact po h2 x hx
  ·cases h
theorem TF{f:FuncId}(hf:f<1000000){caps:Array Operand}{ys:List au}(ho:o.op=.makeFunc (.func f) #[] caps)(hc:jm c.P caps.toList []=some ys)(hv:∀ y∈ys,(af A y).cv=true):cG c A o (.func f (ys.map (af A))) :=
 .same fun a w D E hs=>by
  have h:=kg _ _ (jO hs caps.toList [] ys hc) (by simpa using hv);have e:caps.map a.eval=(caps.toList.map a.eval).toArray:=by apply Array.ext';simp
  refine ⟨.func (.func f) #[] (caps.toList.map a.eval).toArray,by simp[execOp,ho,Instr.makeFunc,e],⟨_,by simp[aW,I.isAgg];rfl,?_⟩⟩;simp only[ae];exact ⟨_,by rw[lC hf],h⟩
theorem TH{f:FuncId}{first:Array Operand}{ys:List au}(ho:o.op=.makeFunc (.func f) first #[])(hc:jm c.P first.toList []=some ys)(hv:∀ y∈ys,(af A y).cv=true):cG c A o (.func (f+1000000) (ys.map (af A))) :=
 .same fun a w D E hs=>by
  have h:=kg _ _ (jO hs first.toList [] ys hc) (by simpa using hv);have e:first.map a.eval=(first.toList.map a.eval).toArray:=by apply Array.ext';simp
  refine ⟨.func (.func f) (first.toList.map a.eval).toArray #[],by simp[execOp,ho,Instr.makeFunc,e],⟨_,by simp[aW,I.isAgg];rfl,?_⟩⟩;simp only[ae];exact ⟨_,by rw[pq],h⟩
theorem Dv{w:World}{D:aD}{E:aN} : ∀ (xs:List I) (vs:List Value),ao w D E xs vs→az w D E xs (vs.flatMap fun v=>v.cells.toList)∧vs.length=xs.length∧∀ (sz:Nat),(∀ x∈xs,x.size=sz)→∀ v∈vs,v.cells.size=sz
 | [],vs,h=>by simp only[ao] at h;subst h;simp[az]
 |x::xs,vs,h=>by
  simp only[ao] at h;obtain ⟨v,rest,cs,rfl,h1,h2,h3⟩:=h;obtain ⟨k1,k2,k3⟩:=Dv xs rest h3;have hc:=h1.cells h2;refine ⟨?_,by simp[k2],fun sz hsz u hu =>?_⟩
  ·simp only[List.flatMap_cons,az];exact ⟨_,_,rfl,by rw[hc];exact h2,k1⟩
  ·rcases zy0.1 hu with rfl | hu
   ·rw[←zz5,hc,ae.length _ _ h2,hsz x (by simp)]
   ·exact k3 sz (fun y hy=>hsz y (by simp[hy])) u hu
def mU(A:ab)(D:aD)(E:aN):aD:=fun b o=>D b o∨∃ n T sz es cap,A.o n=some (.bE T sz es)∧E n=some (.rw (some (b,cap)) es.length)∧o<es.length*sz
theorem aL.mZ{a:Act}{w:World}{D:aD}{E:aN}(h:aL c A a w D E):aL c A a w (mU A D E) E∧gw false A D E (mU A D E):=by
 have hblk:∀ {n T sz es b cap},A.o n=some (.bE T sz es)→E n=some (.rw (some (b,cap)) es.length)→c.eg b∧b<w.heap.size:=by
  intro n T sz es b cap hn aq;obtain ⟨aA,k1,k2,k3⟩:=h.bE hn;rw[aq] at k1;simp only[v6,br.rw.injEq,and_true] at k1;subst k1;obtain ⟨cs,pre,rest,k4,k5,_⟩:=k3;exact ⟨k4,eG k5⟩
 refine ⟨h.Er (fun _ _ hd=>.inl hd) ?_ ?_ ?_ ?_ ?_ ?_,⟨fun _ _ hd=>.inl hd,fun n T sz es b cap hn aq o ho=>.inr ⟨n,T,sz,es,cap,hn,aq,ho⟩,(fun hb=>by cases hb),fun hb=>by cases hb⟩⟩
 ·rintro b o (hd | ⟨n,T,sz,es,cap,hn,aq,ho⟩) hlt
  ·exact h.cI _ _ hd hlt
  ·exact absurd (hblk hn aq).1 hlt
 ·rintro b o (hd | ⟨n,T,sz,es,cap,hn,aq,ho⟩)
  ·exact h.cL _ _ hd
  ·exact (hblk hn aq).2
 ·rintro m x b hm hEm o (hd | ⟨n,T,sz,es,cap,hn,aq,ho⟩)
  ·obtain ⟨b2,cs2,T2,q1,q2,q3,q4,q5⟩:=h.box hm;rw[q1] at hEm;simp only[v6,br.aB.injEq,and_true] at hEm;subst hEm;exact q5 o hd
  ·have:=h.cz m n _ _ b hEm aq rfl rfl;subst this;rw[hm] at hn;cases hn
 ·rintro m T' sz' es' b cap' hm hEm o (hd | ⟨n,T,sz,es,cap,hn,aq,ho⟩)
  ·obtain ⟨aA,q1,q2,q3⟩:=h.bE hm;rw[hEm] at q1;simp only[v6,br.rw.injEq,and_true] at q1;subst q1;obtain ⟨cs',pre',rest',q4,q5,q6,q7,q8,q9,q10,q11⟩:=q3;have:=q11 o hd
   rwa [az.length _ _ q7,I.fY _ q2] at this
  ·have:=h.cz m n _ _ b hEm aq rfl rfl;subst this;rw[hm] at hn;simp only[v6,ai.bE.injEq] at hn;obtain ⟨rfl,rfl,rfl⟩:=hn;exact ho
 ·rintro m T' xs b cap' hm hEm o (hd | ⟨n,T,sz,es,cap,hn,aq,ho⟩)
  ·obtain ⟨aA,q1,_,q3⟩:=h.wM hm;rw[hEm] at q1;simp only[v6,br.rw.injEq,and_true] at q1;subst q1;obtain ⟨_,_,_,_,_,_,_,_,q4⟩:=q3;exact q4 o hd
  ·have:=h.cz m n _ _ b hEm aq rfl rfl;subst this;rw[hm] at hn;cases hn
 ·rintro m e' b hE' hoth hblk o (hd | ⟨n,T,sz,es,cap,hn,aq,ho⟩)
  ·exact h.vG hE' hoth hblk o hd
  ·have:=h.cz m n _ _ b hE' aq hblk rfl;subst this;rw[hE'] at aq;cases aq;cases hoth
theorem BQ{a:Act}{w:World}{D:aD}{E:aN}(hs:aL c A a w D E){P:Program} : ∀ (ps:List (Nat×Operand)) (qs:List (Nat×au)),jQ P ps=some qs →
  dY (aP w D E) ((qs.map (·.2)).map (af A)) (ps.map fun p=>a.eval p.2)∧qs.map (·.1)=ps.map (·.1)
 | [],qs,h=>by simp[jQ] at h;subst h;exact ⟨.nil,rfl⟩
 |(i,x)::ps,qs,h=>by
  simp only[jQ,List.mapM_cons,Option.bind_eq_bind,Option.pure_def,zy3,t7,v6] at h;obtain ⟨_,⟨y,hy,rfl⟩,qs',hq,rfl⟩:=h;obtain ⟨h1,h2⟩:=BQ hs ps qs' hq;exact ⟨.cons (bn hs hy) h1,by simp[h2]⟩
theorem aL.newRow{a:Act}{w:World}{D:aD}{E:aN}(h:aL c A a w D E)(o:Obj):aL c A a (w.alloc o) (fun b k=>D b k∨b=w.heap.size) E:=by
 refine h.grow (iU w o) (fun _ _ hd=>.inl hd) ?_ ?_
 ·rintro b k (hd | rfl) hlt
  ·exact hd
  ·omega
 ·rintro b k (hd | rfl)
  ·have:=h.cL _ _ hd;simp;omega
  ·simp
theorem X6{α:Type}(ps:List (Nat×α))(h:ps.map (·.1)=List.range ps.length):ps=((ps.map (·.2)).zipIdx 0).map fun x=>(x.2,x.1):=by
 apply List.ext_getElem?;intro k;rw[zz6,List.getElem?_zipIdx,zz6];cases hk:ps[k]? with
 |none=>simp
 |some p =>
  have hl:k<ps.length:=(Z8.1 hk).1;have:=congrArg (·[k]?) h;simp only[zz6,hk,Y1,List.getElem?_range hl,v6] at this;simp[←this]
theorem Tm{t e:TypeId}{len:Nat}{parts:Array (Nat×Operand)}{ps:List (Nat×au)}{es:List I}(ho:o.op=.buildSlice t len parts)(hu:c.P.underlying t=some (.slice e))(hp:jQ c.P parts.toList=some ps)
  (hr:ps.map (·.1)=List.range len) (h0:0<c.P.cellsOf e) (hlen:0<len) (hsm:len*c.P.cellsOf e≤16777216) (hz:((c.P.info? e).bind (·.zero)).isSome=true)
  (hes:bC false A ((ps.map (·.2)).map (af A))=some es) (hev:∀ x∈es,x.size=c.P.cellsOf e) (hcl:I.cj es=true):cG c A o (.slice (c.P.cellsOf e) es):=by
 intro a w D E hs;obtain ⟨hfor,hidx⟩:=BQ hs parts.toList ps hp;obtain ⟨hs1,hw⟩:=hs.mZ;have hrv:=kM (E':=E) hs (fun _ _ h=>h) hw _ es _ (kg _ _ hfor (po hes)) hes;obtain ⟨k1,k2,k3⟩:=Dv es _ hrv;have k3:=k3 _ hev;have hl:parts.toList.length=len:=by
  have:=congrArg List.length hidx;rw[hr] at this;simpa using this.symm
 have hesl:es.length=len:=by rw[←k2];simp[hl]
 obtain ⟨z,hz⟩:=Y6.1 hz;obtain ⟨ie,hie,hzz⟩:=zy3.1 hz;have hsz:ie.size=c.P.cellsOf e:=by simp[Program.cellsOf,hie]
 -- the literal's cells
 have hfill:Instr.fill (fun i=>some (i*ie.size,ie.size)) ((Array.range (len*ie.size)).map (z.cells[· % z.cells.size]!)) (parts.map fun (q:Nat×Operand)=>(q.1,a.eval q.2)).toList =
   some ((parts.toList.map fun p=>a.eval p.2).flatMap fun v=>v.cells.toList).toArray:=by
  have hpz:(parts.map fun (q:Nat×Operand)=>(q.1,a.eval q.2)).toList=((parts.toList.map fun p=>a.eval p.2).zipIdx 0).map fun x=>(x.2,x.1):=by
   have:=X6 (parts.toList.map fun (q:Nat×Operand)=>(q.1,a.eval q.2)) (by simp only[List.map_map,Z2];rw[hl,←hr,hidx];rfl);rw[Array.toList_map,this,List.map_map];rfl
  rw[hpz,hsz];exact Great.fill_whole h0 _ _ (fun v hv=>k3 v hv) (by simp[hl])
 have hrun:=run_buildSlice (P:=c.P) w t e len (parts.map fun (q:Nat×Operand)=>(q.1,a.eval q.2)) _ ie z hu hie hzz (by rw[hsz];omega) (by rw[hsz];exact Nat.ne_of_gt (Nat.mul_pos hlen h0)) hfill;generalize hcells:((parts.toList.map fun p=>a.eval p.2).flatMap fun v=>v.cells.toList)=cells at *;have hs2:=hs1.newRow (.cells cells.toArray e);refine ⟨_,_,_,by simp only[execOp,ho,Sem.run_bind];rw[hrun];rfl,hs2,sc hesl.symm (Z5 _) ?_ (.inr ⟨w.heap.size,0,cells,rfl,?_,?_⟩) hev⟩
 ·unfold maxLen;have:len≤len*c.P.cellsOf e:=Nat.le_mul_of_pos_right _ h0;omega
 ·intro j v hj;refine ⟨?_,.inr rfl⟩;rw[Z9];have:=World.cell?_alloc_new w cells.toArray e j;rw[this];simpa using hj
 ·refine az.later ?_ es cells k1;exact dh.grow (iU w _) (fun _ _ hd=>.inl hd)
end
mutual
theorem nI:∀ (ty:bZ) (x y:I) (r:Bool),bR ty x y=some r→x.size=ty.size∧y.size=ty.size
 | .i k,x,y,r,h=>by
  simp only[bR] at h;split at h
  ·simp[I.size,bZ.size]
  ·cases h
 | .b,x,y,r,h=>by
  simp only[bR] at h;split at h
  ·simp[I.size,bZ.size]
  ·cases h
 | .s,x,y,r,h=>by
  simp only[bR] at h;split at h
  ·simp[I.size,bZ.size]
  ·cases h
 | .aV l,x,y,r,h=>by
  simp only[bR] at h;split at h
  ·simp only[I.size,bZ.size];exact zy l _ _ r h
  ·cases h
 | .oT n e,x,y,r,h=>by
  simp only[bR] at h;split at h
  ·rename_i fs gs;split at h
   ·rename_i hl;simp only[I.size,bZ.size];have:∀ (fs gs:List I) (r:Bool),fs.length=gs.length→(fs.zip gs).foldr (fun p acc=>ic (bR e p.1 p.2) acc) (some true)=some r→I.sizes fs=fs.length*e.size∧I.sizes gs=fs.length*e.size:=by
     intro fs
     induction fs with
     |nil=>intro gs r hl _;cases gs with | nil=>simp[I.sizes] | cons _ _=>simp at hl
     |cons f fs ih =>
      intro gs r hl h;cases gs with
      |nil=>simp at hl
      |cons g gs =>
       simp only[List.zip_cons_cons,List.foldr_cons] at h;unfold ic at h;split at h
       ·rename_i a b h1 h2;obtain ⟨k1,k2⟩:=ih gs b (by simpa using hl) h2;obtain ⟨k3,k4⟩:=nI e f g a h1;simp only[I.sizes,zz4,k1,k2,k3,k4,Nat.add_mul,Nat.one_mul];omega
       ·cases h
    obtain ⟨k1,k2⟩:=this fs gs r (by omega) h;rw[k1,k2,hl.1];exact ⟨rfl,rfl⟩
   ·cases h
  ·cases h
theorem zy:∀ (l:List bZ) (xs ys:List I) (r:Bool),gj l xs ys=some r→I.sizes xs=bZ.sizes l∧I.sizes ys=bZ.sizes l
 | [],xs,ys,r,h=>by
  simp only[gj] at h;split at h
  ·simp[I.sizes,bZ.sizes]
  ·cases h
 |t::ts,xs,ys,r,h=>by
  simp only[gj] at h;split at h
  ·rename_i f fs g gs;unfold ic at h;split at h
   ·rename_i a b h1 h2;obtain ⟨k1,k2⟩:=nI t f g a h1;obtain ⟨k3,k4⟩:=zy ts fs gs b h2;simp only[I.sizes,bZ.sizes,k1,k2,k3,k4];exact ⟨trivial,trivial⟩
   ·cases h
  ·cases h
end
section
variable {P:Program} {w:World} {D:aD} {E:aN}
theorem ur{d:Nat}{t:TypeId}{ty:bZ}(h:fG P d t=some ty)(hs:ty.size=P.cellsOf t){x y:I}{r:Bool}(hr:bR ty x y=some r):∃ s,eQ P t=some s∧bS s x=true∧bS s y=true:=by
 have hsz:=nI ty x y r hr;cases d with
 |zero=>simp[fG] at h
 |succ d =>
  simp only[fG] at h;split at h
  ·rename_i k hu;simp only[v6] at h;subst h;simp only[bR] at hr;split at hr
   ·exact ⟨none,by simp[eQ,hu],by simp[bS,I.isAgg],by simp[bS,I.isAgg]⟩
   ·cases hr
  ·rename_i hu;simp only[v6] at h;subst h;simp only[bR] at hr;split at hr
   ·exact ⟨none,by simp[eQ,hu],by simp[bS,I.isAgg],by simp[bS,I.isAgg]⟩
   ·cases hr
  ·rename_i hu;simp only[v6] at h;subst h;simp only[bR] at hr;split at hr
   ·exact ⟨none,by simp[eQ,hu],by simp[bS,I.isAgg],by simp[bS,I.isAgg]⟩
   ·cases hr
  ·rename_i fs hu;split at h
   ·simp only[t7] at h;obtain ⟨l,_,rfl⟩:=h;simp only[bR] at hr;split at hr
    ·exact ⟨some (P.cellsOf t),by simp[eQ,hu],by simp[bS,I.isAgg,hsz.1,hs],by simp[bS,I.isAgg,hsz.2,hs]⟩
    ·cases hr
   ·cases h
  ·rename_i n e hu;split at h
   ·split at h
    ·simp only[v6] at h;subst h;simp only[bR] at hr;split at hr
     ·exact ⟨some (P.cellsOf t),by simp[eQ,hu],by simp[bS,I.isAgg,hsz.1,hs],by simp[bS,I.isAgg,hsz.2,hs]⟩
     ·cases hr
    ·cases h
   ·cases h
  ·cases h
theorem zB{k:Nat}{g:Field→Option bZ}(hg:∀ (f:Field) (ty:bZ),g f=some ty→ty.size=P.cellsOf f.type∧∃ d,fG P d f.type=some ty ∧
   ∀ (x y:I) (u v:Value) (r:Bool),aP w D E x u→aP w D E y v→bR ty x y=some r→(Op.equalIn k f.type u v).run P w=.ok r w) :
  ∀ (fs : List Field) (l : List bZ) (xs ys : List I) (r : Bool) (c1 c2 d1 d2 : List Value), fs.mapM g = some l → (∀ f ∈ fs, f.name ≠ "_") → oc P c1.length fs = true → c1.length = d1.length →
   az w D E xs c2→az w D E ys d2→gj l xs ys=some r→(Op.eqFields k (c1++c2).toArray (d1++d2).toArray fs).run P w=.ok r w
 | [],l,xs,ys,r,c1,c2,d1,d2,hm,_,_,_,_,_,h=>by
  simp at hm;subst hm;simp only[gj] at h;split at h
  ·simp only[v6] at h;subst h;simp[Op.eqFields]
  ·cases h
 |f::fs,l,xs,ys,r,c1,c2,d1,d2,hm,hn,ho,hl,hx,hy,h=>by
  simp only[List.mapM_cons,Option.bind_eq_bind,Option.pure_def,zy3,v6] at hm;obtain ⟨ty,hty,tys,htys,rfl⟩:=hm;simp only[gj] at h;split at h
  case h_2=>cases h
  rename_i x xs y ys;unfold ic at h;split at h
  case h_2=>cases h
  rename_i ra rb h1 h2;simp only[v6] at h;subst h;simp only[az] at hx hy;obtain ⟨e1,e2,rfl,k1,k2⟩:=hx;obtain ⟨f1,f2,rfl,k3,k4⟩:=hy;obtain ⟨hsz,dd,hd,heq⟩:=hg f ty hty;obtain ⟨s,q1,q2,q3⟩:=ur hd hsz h1;obtain ⟨u,p1,p2⟩:=mV (c1:=c1) (c3:=e2) q1 q2 k1;obtain ⟨v,p3,p4⟩:=mV (c1:=d1) (c3:=f2) q1 q3 k3;simp only[oc,Z0,beq_iff_eq] at ho;have hsx:=nI ty x y ra h1;have hle:e1.length=P.cellsOf f.type:=by rw[ae.length _ _ k1,hsx.1,hsz]
  have hlf:f1.length=P.cellsOf f.type:=by rw[ae.length _ _ k3,hsx.2,hsz]
  have ih:=zB hg fs tys xs ys rb (c1++e1) e2 (d1++f1) f2 htys (fun g hg=>hn g (by simp[hg])) (by simp only[Z1,hle];exact ho.2) (by simp[hl,hle,hlf]) k2 k4 h2;rw[Z3] at p1 p3;rw[Z3,Z3] at ih;rw[←ho.1] at p1;rw[←hl,←ho.1] at p3;simp only[Op.eqFields,hn f (by simp),ne_eq,not_false_eq_true,if_true,Sem.run_bind,p1,Result.andThen_ok,p3,heq x y u v ra p2 p4 h1];cases ra
  ·simp
  ·simpa using ih
theorem zC{d:Nat}{e:TypeId}{ty:bZ}{dd:Nat}(hty:fG P dd e=some ty)(hsz:ty.size=P.cellsOf e)
  (heq:∀ (x y:I) (u v:Value) (r:Bool),aP w D E x u→aP w D E y v→bR ty x y=some r→(Op.equalIn d e u v).run P w=.ok r w) :
  ∀ (m k:Nat) (xs ys:List I) (c1 c2 d1 d2:List Value) (r:Bool),xs.length=m→ys.length=m→c1.length=k*P.cellsOf e→d1.length=k*P.cellsOf e→az w D E xs c2→az w D E ys d2 →
   (xs.zip ys).foldr (fun p acc=>ic (bR ty p.1 p.2) acc) (some true)=some r→(Op.eqItems d e (P.cellsOf e) (c1++c2).toArray (d1++d2).toArray (List.range' k m)).run P w=.ok r w
 |0,k,xs,ys,c1,c2,d1,d2,r,hx,hy,_,_,_,_,h=>by
  have e1:=zz9 hx;subst e1;simp only[List.zip_nil_left,List.foldr_nil,v6] at h;subst h;simp[Op.eqItems]
 |m+1,k,xs,ys,c1,c2,d1,d2,r,hx,hy,hc,hd,hrx,hry,h=>by
  cases xs with
  |nil=>simp at hx
  |cons x xs =>
  cases ys with
  |nil=>simp at hy
  |cons y ys =>
  simp only[List.zip_cons_cons,List.foldr_cons] at h;unfold ic at h;split at h
  case h_2=>cases h
  rename_i ra rb h1 h2;simp only[v6] at h;subst h;simp only[az] at hrx hry;obtain ⟨e1,e2,rfl,k1,k2⟩:=hrx;obtain ⟨f1,f2,rfl,k3,k4⟩:=hry;obtain ⟨s,q1,q2,q3⟩:=ur hty hsz h1;obtain ⟨u,p1,p2⟩:=mV (c1:=c1) (c3:=e2) q1 q2 k1;obtain ⟨v,p3,p4⟩:=mV (c1:=d1) (c3:=f2) q1 q3 k3;have hsx:=nI ty x y ra h1;have hle:e1.length=P.cellsOf e:=by rw[ae.length _ _ k1,hsx.1,hsz]
  have hlf:f1.length=P.cellsOf e:=by rw[ae.length _ _ k3,hsx.2,hsz]
  have ih:=zC hty hsz heq m (k+1) xs ys (c1++e1) e2 (d1++f1) f2 rb (by simpa using hx) (by simpa using hy) (by simp only[Z1,hle,hc,Nat.add_mul,Nat.one_mul]) (by simp only[Z1,hlf,hd,Nat.add_mul,Nat.one_mul]) k2 k4 h2;rw[Z3] at p1 p3;rw[Z3,Z3] at ih;rw[hc] at p1;rw[hd] at p3;simp only[List.range'_succ,Op.eqItems,Sem.run_bind,p1,Result.andThen_ok,p3,heq x y u v ra p2 p4 h1];cases ra
  ·simp
  ·simpa using ih
theorem rq:∀ (d:Nat) (t:TypeId) (ty:bZ),fG P d t=some ty→∀ (x y:I) (u v:Value) (r:Bool),aP w D E x u→aP w D E y v→bR ty x y=some r→∀ dep,d≤dep→(Op.equalIn dep t u v).run P w=.ok r w
 |0,t,ty,h,_,_,_,_,_,_,_,_,_,_=>by simp[fG] at h
 |d+1,t,ty,h,x,y,u,v,r,hx,hy,hr,dep,hdep=>by
  obtain ⟨k,rfl⟩:∃ k,dep=k+1:=⟨dep-1,by omega⟩
  simp only[fG] at h;split at h
  ·rename_i kk hu;simp only[v6] at h;subst h;simp only[bR] at hr;split at hr
   ·split at hr
    ·simp only[v6] at hr;subst hr;rw[(dp hx).1,(dp hy).1];rename_i hk;rw[hk.1,hk.2];exact run_equalIn_int w k t kk kk _ _ hu
    ·cases hr
   ·cases hr
  ·rename_i hu;simp only[v6] at h;subst h;simp only[bR] at hr;split at hr
   ·simp only[v6] at hr;subst hr;rw[kc hx,kc hy];exact run_equalIn_bool' w k t _ _ hu
   ·cases hr
  ·rename_i hu;simp only[v6] at h;subst h;simp only[bR] at hr;split at hr
   ·simp only[v6] at hr;subst hr;rw[(fL hx).1,(fL hy).1];exact run_equalIn_string w k t _ _ hu
   ·cases hr
  ·rename_i fs hu;split at h
   ·rename_i hc;simp only[t7] at h;obtain ⟨l,hl,rfl⟩:=h;simp only[bR] at hr;split at hr
    ·obtain ⟨cs,rfl,h1⟩:=iu hx;obtain ⟨ds,rfl,h2⟩:=iu hy;have hf:P.fieldsOf t=fs:=by simp[Program.fieldsOf,hu]
     rw[run_equalIn_struct w k t _ _ (by rw[hf];exact hu) hc.1,hf];refine zB (g:=fun f=>match fG P d f.type with | some ty=>if ty.size=P.cellsOf f.type then some ty else none | none=>none) (fun f ty hg =>?_) fs.toList l _ _ r [] cs [] ds hl (fun f hf =>?_) hc.2.2 rfl h1 h2 hr
     ·split at hg
      ·rename_i ty' hty;split at hg
       ·rename_i hs;simp only[v6] at hg;subst hg;exact ⟨hs,d,hty,fun x y u v r hx hy hr=>rq d f.type _ hty x y u v r hx hy hr k (by omega)⟩
       ·cases hg
      ·cases hg
     ·have:=Y5.1 hc.2.1 f hf;simpa using this
    ·cases hr
   ·cases h
  ·rename_i n e hu;split at h
   ·rename_i ty' hty;split at h
    ·rename_i hc;simp only[v6] at h;subst h;simp only[bR] at hr;split at hr
     ·split at hr
      ·rename_i hl;obtain ⟨cs,rfl,h1⟩:=iu hx;obtain ⟨ds,rfl,h2⟩:=iu hy;obtain ⟨i,hi⟩:=Y6.1 hc.2;rw[run_equalIn_array w k _ _ hu hi,List.range_eq_range'];exact zC hty hc.1 (fun x y u v r hx hy hr=>rq d e _ hty x y u v r hx hy hr k (by omega)) n 0 _ _ [] cs [] ds r hl.1 hl.2 (by simp) (by simp) h1 h2 hr
      ·cases hr
     ·cases hr
    ·cases h
   ·cases h
  ·cases h
end
section
variable {c:cm} {A:ab} {o:Oper} {x:I}
theorem Xg{P:Program}{w:World}{D:aD}{E:aN}(op:BinOp)(t:TypeId)(x y:Operand){a b:I}{ty:bZ}{r:Bool}{u v:Value}(hr:bR ty a b=some r)(hx:aP w D E a u)(hm:P.eqGuardType P.depth t=false) :
  (eqGuard op t x y u v).run P w=.ok () w:=by
 have:u.oneCell'=true∧u≠.nilIface∨∃ cs,u=.agg cs:=by
  cases ty <;>simp only[bR] at hr <;>split at hr <;>first
   |(cases hr;done)
   |(left;rw[(dp hx).1];exact ⟨rfl,by simp⟩)
   |(left;rw[kc hx];exact ⟨rfl,by simp⟩)
   |(left;rw[(fL hx).1];exact ⟨rfl,by simp⟩)
   |(right;obtain ⟨cs,h,_⟩:=iu hx;exact ⟨_,h⟩)
 rcases this with ⟨h1,h2⟩ | ⟨cs,rfl⟩
 ·exact vX op t x y h1 h2
 ·cases op <;>cases v <;>simp[eqGuard,run_program,hm]
theorem F5{P:Program}{w:World}{D:aD}{E:aN}{neg:Bool}{t:TypeId}{a b:I}{ty:bZ}{r:Bool}{u v:Value}(hr:bR ty a b=some r)(hx:aP w D E a u)(hy:aP w D E b v){dt:Nat}(hdt:dt≤10000)(hty:fG P dt t=some ty) :
  (binOp (if neg then .neq else .eql) t u v).run P w=.ok (.bool (if neg then !r else r)) w:=by
 have he:=rq (w:=w) (D:=D) (E:=E) dt t ty hty a b u v r hx hy hr 10000 hdt;cases ty <;>simp only[bR] at hr <;>split at hr <;>first | (cases hr;done) | skip
 ·rw[(dp hx).1,(dp hy).1] at *;split at hr
  ·rename_i hk;simp only[v6] at hr;subst hr;rw[hk.1,hk.2];cases neg <;>simp[binOp,Op.intCmp,bne]
  ·cases hr
 ·have e1:=kc hx;have e2:=kc hy;subst e1 e2;cases neg <;>simp only[binOp,if_true,Z7,if_false] <;>simp[Op.equal,Op.maxDepth,he]
 ·rw[(fL hx).1,(fL hy).1] at *;simp only[v6] at hr;subst hr;cases neg <;>simp[binOp,Op.stringOp]
 ·obtain ⟨cs,rfl,_⟩:=iu hx;obtain ⟨ds,rfl,_⟩:=iu hy;cases neg <;>simp only[if_true,Z7,if_false]
  ·rw[run_eql_struct,he];rfl
  ·rw[run_neq_struct,he];rfl
 ·obtain ⟨cs,rfl,_⟩:=iu hx;obtain ⟨ds,rfl,_⟩:=iu hy;cases neg <;>simp only[if_true,Z7,if_false]
  ·rw[run_eql_struct,he];rfl
  ·rw[run_neq_struct,he];rfl
theorem Ts{neg:Bool}{t yt:TypeId}{y z:Operand}{y' z':au}{ty:bZ}{r:Bool}(ho:o.op=.binOp (if neg then .neq else .eql) t y z yt)(hy:aS c.P 0 y=some y')(hz:aS c.P 0 z=some z')(hg:c.P.eqGuardType c.P.depth t=false)
  (hty:fG c.P 12 t=some ty) (h:bR ty (af A y') (af A z')=some r):cG c A o (.bool (if neg then !r else r)) :=
 .same fun a w D E hs=>by
  have h1:=bn hs hy;have h2:=bn hs hz;refine ⟨_,?_,j4 _⟩;simp only[execOp,ho,Sem.run_bind,Xg _ t y z h h1 hg,Result.andThen_ok,F5 h h1 h2 (dt:=12) (by omega) hty];rfl
theorem uY{neg:Bool}{t yt e:TypeId}{y z:Operand}{y':au}{sz:Nat}{r:Bool}(ho:o.op=.binOp (if neg then .neq else .eql) t y z yt)(hu:c.P.underlying t=some (.slice e))(hy:aS c.P 0 y=some y')(hz:aS c.P 0 z=some (.c (.nils sz)))
  (h:(∃ s,af A y'=.nils s∧r=true)∨(∃ s es,af A y'=.slice s es∧es≠[]∧r=false)∨(∃ n p s lo k,af A y'=.view n p s lo k∧r=false)):cG c A o (.bool (if neg then !r else r)) :=
 .same fun a w D E hs=>by
  have h1:=bn hs hy;have h2:aP w D E (.nils sz) (a.eval z):=bn hs hz;have hv:a.eval z=.slice none 0 0:=by
   obtain ⟨cs,q1,q2⟩:=h2;simp only[ae] at q2;simpa[aW,I.isAgg,q2] using q1.symm
  have hu':(∃ ad n cp,a.eval y=.slice ad n cp∧r=ad.isNone):=by
   rcases h with ⟨s,h,rfl⟩ | ⟨s,es,h,hne,rfl⟩ | ⟨n,p,s,lo,k,h,rfl⟩
   ·rw[h] at h1;obtain ⟨cs,q1,q2⟩:=h1;simp only[ae] at q2;exact ⟨none,0,0,by simpa[aW,I.isAgg,q2] using q1.symm,rfl⟩
   ·rw[h] at h1;obtain ⟨ad,cap,e1,_,_,e4,_⟩:=ke h1;rcases e4 with e4 | ⟨b,off,cs,rfl,_,_⟩
    ·exact absurd e4 hne
    ·exact ⟨_,_,_,e1,rfl⟩
   ·rw[h] at h1;obtain ⟨cs,q1,q2⟩:=h1;simp only[ae] at q2;obtain ⟨b,aK,off,l,_,_,_,q2,_⟩:=q2;exact ⟨_,_,_,by simpa[aW,I.isAgg,q2] using q1.symm,rfl⟩
  obtain ⟨ad,n,cp,hyv,rfl⟩:=hu';have he:∀ d,(Op.equalIn (d+1) t (.slice ad n cp) (.slice none 0 0)).run c.P w=.ok ad.isNone w:=fun d=>by
   cases ad <;>simp[Op.equalIn,run_underlying hu]
  refine ⟨.bool (if neg then !ad.isNone else ad.isNone),?_,j4 _⟩;cases neg <;>simp only[execOp,ho,hyv,hv,if_true,Z7,if_false,Sem.run_bind,eqGuard] <;>simp[binOp,Op.equal,Op.maxDepth,he]
end
def ga(c:cm)(A:ab)(o:Oper)(B:ab):Prop :=
 ∀ a w D E,aL c A a w D E→∃ w',((∃ v,(execOp a.eval o).run c.P w=.ok (.value v) w'∧bA c B (a.put o.dst v) w')∨((execOp a.eval o).run c.P w=.ok .skip w'∧bA c B (a.put o.dst undef) w'))
section
variable {c:cm} {A:ab} {o:Oper} {x:I}
theorem cG.does(h:cG c A o x)(hd:∀ k,o.dst=some k→k<c.n):ga c A o (A.aM o.dst x):=by
 intro a w D E hs;obtain ⟨v,w',D',h1,h2,h3⟩:=h a w D E hs;exact ⟨w',.inl ⟨v,h1,D',E,h2.aM hd h3⟩⟩
theorem Kz{t:TypeId}{z:I}{d:Nat}(ho:o.op=.alloc t)(hz:fe c.P t=some z)(hd:o.dst=some d)(hn:d<c.n)(hf:A.o d=none):ga c A o ((A.aO d (.box z)).put d (.ptr d [])):=by
 intro a w D E hs;obtain ⟨i,zv,hi,hzv,hzr⟩:=kp hz;have h1:=hs.pP (T:=t) (.inl hn) hf (hzr w D E);have h2:=h1.put (x:=.ptr d []) (v:=.pointer (some ⟨w.heap.size,0,none⟩)) hn ⟨_,by simp[aW,I.isAgg];rfl,by
  simp only[ae,if_true];exact ⟨w.heap.size,z.aK,0,rfl,by cases z.aK <;>simp[bL.off],rfl⟩⟩
 exact ⟨w.alloc (.cells zv.cells t),.inl ⟨.pointer (some ⟨w.heap.size,0,none⟩),by simp[execOp,ho,Instr.alloc,zeroValue,typeInfo,hi,hzv,newVar,newRow],D,_,by rw[hd];exact h2⟩⟩
theorem KE{t:TypeId}{y:Operand}{y':au}{d:Nat}(ho:o.op=.box t y)(hy:aS c.P t y=some y')(hv:(af A y').cv=true)(hd:o.dst=some d)(hn:d<c.n)(hf:A.o d=none) :
  ga c A o ((A.aO d (.box (af A y'))).put d (.ptr d [])):=by
 intro a w D E hs;obtain ⟨cs,k1,k2⟩:∃ cs,aW (af A y') (a.eval y) cs∧ae w D E (af A y') cs:=by
  have h:=bn hs hy;generalize af A y'=z at *;cases z <;>simp[I.cv] at hv <;>exact h
 have hc:=k1.cells k2;rw[←hc] at k2;have h1:=hs.pP (T:=t) (.inl hn) hf k2;have h2:=h1.put (x:=.ptr d []) (v:=.pointer (some ⟨w.heap.size,0,none⟩)) hn ⟨_,by simp[aW,I.isAgg];rfl,by
  simp only[ae,if_true];exact ⟨w.heap.size,(af A y').aK,0,rfl,by cases (af A y').aK <;>simp[bL.off],rfl⟩⟩
 exact ⟨w.alloc (.cells (a.eval y).cells t),.inl ⟨.pointer (some ⟨w.heap.size,0,none⟩),by simp[execOp,ho,Instr.box,newVar,newRow],D,_,by rw[hd];exact h2⟩⟩
theorem KM{t:TypeId}{y z:Operand}{y' z':au}{s:Option Nat}{n:Nat}{p:List Nat}{b old:I}(ho:o.op=.store t y z)(hk:eQ c.P t=some s)(hk1:s.isSome=true∨c.P.cellsOf t=1)(hy:aS c.P 0 y=some y')(hz:aS c.P t z=some z')
  (hp:af A y'=.ptr n p) (hb:A.o n=some (.box b)) (hat:b.at p=some old) (hv:(af A z').cv=true) (hok:bS s (af A z')=true) (hsh:(af A z').aK=old.aK) (hd:o.dst=none) :
  ga c A o (A.aO n (.box (b.dz p (af A z')))):=by
 intro a w D E hs;have h1:=bn hs hy;rw[hp] at h1;obtain ⟨bb,aK,off,h2,h3,h4⟩:=kd h1;obtain ⟨b',cs,T,k1,k2,k3,k4,k5⟩:=hs.box hb;rw[k1] at h2;simp only[v6,br.aB.injEq] at h2;obtain ⟨rfl,rfl⟩:=h2;obtain ⟨ds,q1,q2⟩:∃ ds,aW (af A z') (a.eval z) ds∧ae w D E (af A z') ds:=by
  have h:=bn hs hz;generalize af A z'=zz at *;cases zz <;>simp[I.cv] at hv <;>exact h
 have hc:=q1.cells q2;obtain ⟨off',p1,p2,p3,p4⟩:=sI p b old _ _ ds k4 hat q2 hsh;rw[h3,v6] at p1;subst p1;have hl:=ae.length _ _ q2;obtain ⟨i,hi⟩:=rW hk;have hsz:ds.length=c.P.cellsOf t:=by
  cases s with
  |none =>
   simp only[bS,Bool.not_eq_true'] at hok;have:(af A z').size=1:=by generalize af A z'=zz at *;cases zz <;>simp_all[I.isAgg,I.size]
   rw[hl,this];rcases hk1 with h | h
   ·cases h
   ·exact h.symm
  |some m =>
   simp only[bS,Z0,beq_iff_eq] at hok;rw[hl,hok.2,vc hk]
 have hcs:(a.eval z).cells.size=ds.length:=by rw[←hc,zz5]
 have hrun:=sU c.P b' off T ds 0 cs w k3 (by rw[zz5] at p2;omega) (ae.j6 _ _ q2);simp only[Nat.add_zero] at hrun;have hs2:=hs.wj (y:=b.dz p (af A z')) (cs':=(cs.toList.take off++ds++cs.toList.drop (off+ds.length)).toArray) hb k1 p4 (by simpa using p3);refine ⟨w.setRow b' (cs.toList.take off++ds++cs.toList.drop (off+ds.length)).toArray,.inr ⟨?_,D,E,?_⟩⟩
 ·have e:(a.eval z).cells.toList=ds:=hc;have hg:¬ (a.eval z).cells.size≠c.P.cellsOf t:=by rw[hcs,hsz];simp
  simp only[execOp,ho,h4,Instr.storeAt,Instr.sureAddr,storeVar,Sem.run_bind,Sem.run_pure,Result.andThen_ok,gq hi,Sem.run_ite,if_neg hg,e,hrun]
 ·rw[hd];exact hs2
end
section
variable {c:cm} {A:ab} {a:Act} {w:World} {D:aD} {E:aN}
theorem aL.zU(h:aL c A a w D E){n:Nat}{T:TypeId}{sz cap:Nat}{es ys:List I}{pre news rest:List Value}{cs:Array Value}{aA:Option (Nat×Nat)}(hn:A.o n=some (.bE T sz es))(aq:E n=some (.rw aA es.length))(hes:az w D E es pre)
  (hys:az w D E ys news) (hysz:∀ e∈ys,e.size=sz) (hne:ys≠[]) (hcs:cs.toList=(pre++news)++rest) (hsize:cs.size=cap*sz) (hlen:es.length+ys.length≤cap) (hcap:cap≤maxLen) :
  aL c (A.aO n (.bE T sz (es++ys))) a (w.drew.alloc (.cells cs T)) D (fun m=>if m=n then some (.rw (some (w.heap.size,cap)) (es.length+ys.length)) else E m):=by
 have hlast:0<ys.length:=List.length_pos_iff.2 hne;have hheap:∀ b,b<w.heap.size→(w.drew.alloc (.cells cs T)).heap[b]?=w.heap[b]?:=fun b hb=>Below.heap_alloc w.drew _ b hb;have hl:dh w D E (w.drew.alloc (.cells cs T)) D (fun m=>if m=n then some (.rw (some (w.heap.size,cap)) (es.length+ys.length)) else E m):=by
  have ew:∀ {m:Nat} {e:br},E m=some e→e.eh=true→(if m=n then some (.rw (some (w.heap.size,cap)) (es.length+ys.length)) else E m)=some e:=fun {m e} he hfx=>by
   have:m≠n:=fun e=>by rw[e,aq] at he;cases he;cases hfx
   rw[if_neg this];exact he
  refine ⟨fun _ _ h=>h,fun b o v _ hv =>?_,fun m b aK he=>ew he rfl,fun m blk' l he =>?_,fun m b he=>ew he rfl,fun m b he=>ew he rfl,fun b es ck _ hm=>(hheap b (eG hm)).trans hm⟩
  ·rw[World.cell?_of_block (hheap b (World.block_lt_of_cell? w _ hv))];exact hv
  ·by_cases hm:m=n
   ·subst hm;rw[aq] at he;simp only[v6,br.rw.injEq] at he;exact ⟨_,_,if_pos rfl,by omega,fun e=>by omega⟩
   ·exact ⟨blk',l,by simp only[if_neg hm];exact he,Z5 _,fun _=>rfl⟩
 have hown:=h.bz n;rw[hn] at hown;obtain ⟨blk1,hb1,hb2,_⟩:=hown;refine ⟨h.sz,h.ec.mono fun B _ hB=>(hheap B (Y3.1 hB).1).trans hB,fun t=>aP.later hl (h.dB t),h.df.trans ⟨rfl,rfl,rfl,by simp,fun k hk=>hheap k (h.old hk)⟩,h.cI,fun b o hd'=>by have:=h.cL b o hd';simp;omega,fun m =>?_,?_,fun m e hm =>?_,h.eF,h.cw,h.eI,h.jL hl⟩
 ·simp only[ab.aO];by_cases hm:m=n
  ·subst hm;simp only[if_true,cX];refine ⟨some (w.heap.size,cap),by simp,fun e he =>?_,?_⟩
   ·rcases Y8.1 he with he | he
    ·exact hb2 e he
    ·exact hysz e he
   ·refine ⟨cs,pre++news,rest,.inl h.df.size,heap_alloc_new w.drew _,hcs,?_,hsize,by simpa using hlen,hcap,fun o ho=>absurd (h.cL _ o ho) (Nat.lt_irrefl _)⟩;exact az.later hl _ _ (iK _ _ _ _ hes hys)
  ·simp only[if_neg hm];exact (h.bz m).later hl (by simp only[if_neg hm]) fun e b he hb=>⟨hheap b (h.eW he hb),fun _ ho=>ho⟩
 ·intro m m' e e' b h1 h2 h3 h4;by_cases hm:m=n <;>by_cases hm':m'=n
  ·rw[hm,hm']
  ·simp only[if_pos hm,v6] at h1;simp only[if_neg hm'] at h2;subst h1;simp only[br.aA,v6] at h3;have:=h.eW h2 h4;omega
  ·simp only[if_neg hm] at h1;simp only[if_pos hm',v6] at h2;subst h2;simp only[br.aA,v6] at h4;have:=h.eW h1 h3;omega
  ·simp only[if_neg hm] at h1;simp only[if_neg hm'] at h2;exact h.cz m m' e e' b h1 h2 h3 h4
 ·by_cases hmn:m=n
  ·subst hmn;rcases h.dy _ _ hm with k | ⟨e',k,hle⟩
   ·rw[aq] at k;cases k
   ·rw[aq] at k;cases k;exact .inr ⟨_,if_pos rfl,hle.trans (.inr ⟨_,_,_,_,rfl,rfl,by omega,fun e=>by omega⟩)⟩
  ·simp only[if_neg hmn];exact h.dy _ _ hm
theorem aL.V6(h:aL c A a w D E){n:Nat}{T:TypeId}{sz b cap:Nat}{es ys:List I}{pre news rest:List Value}{cs:Array Value}(hn:A.o n=some (.bE T sz es))(aq:E n=some (.rw (some (b,cap)) es.length))(hb:w.heap[b]?=some (.cells cs T (0,0)))
  (hcs:cs.toList=pre++rest) (hes:az w D E es pre) (hys:az w D E ys news) (hysz:∀ e∈ys,e.size=sz) (hne:ys≠[]) (hsize:cs.size=cap*sz) (hlen:es.length+ys.length≤cap) (hcap:cap≤maxLen) (hD:∀ o,D b o→o<pre.length) (hbase:c.eg b) :
  aL c (A.aO n (.bE T sz (es++ys))) a (w.setRow b (pre++news++rest.drop news.length).toArray) D (fun m=>if m=n then some (.rw (some (b,cap)) (es.length+ys.length)) else E m):=by
 have hlast:0<ys.length:=List.length_pos_iff.2 hne;have hown:=h.bz n;rw[hn] at hown;obtain ⟨blk1,hb1,hb2,_⟩:=hown;have hnl:news.length=ys.length*sz:=by rw[az.length _ _ hys,I.fY _ hysz]
 have hpl:pre.length=es.length*sz:=by rw[az.length _ _ hes,I.fY _ hb2]
 have hl:dh w D E (w.setRow b (pre++news++rest.drop news.length).toArray) D (fun m=>if m=n then some (.rw (some (b,cap)) (es.length+ys.length)) else E m):=by
  have ew:∀ {m:Nat} {e:br},E m=some e→e.eh=true→(if m=n then some (.rw (some (b,cap)) (es.length+ys.length)) else E m)=some e:=fun {m e} he hfx=>by
   have:m≠n:=fun e=>by rw[e,aq] at he;cases he;cases hfx
   rw[if_neg this];exact he
  refine ⟨fun _ _ h=>h,fun b1 o v hd hv =>?_,fun m b aK he=>ew he rfl,fun m blk' l he =>?_,fun m b he=>ew he rfl,fun m b he=>ew he rfl,fun b1 es ck _ hm=>(setRow_other w b b1 _ (fun e=>by rw[e,hb] at hm;cases hm)).trans hm⟩
  ·by_cases hbb:b1=b
   ·subst hbb;have ho:=hD o hd;have h1:=setRow_heap w b1 cs (pre++news++rest.drop news.length).toArray T _ hb;rw[cell_of_row _ b1 o _ T (0,0) h1];rw[cell_of_row _ b1 o _ T (0,0) hb] at hv;have e1:cs[o]?=pre[o]?:=by rw[←Array.getElem?_toList,hcs,zz7 ho]
    rw[←hv,e1];simp only[List.getElem?_toArray,Z3];rw[zz7 ho]
   ·rw[tZ _ _ _ _ hbb];exact hv
  ·by_cases hm:m=n
   ·subst hm;rw[aq] at he;simp only[v6,br.rw.injEq] at he;exact ⟨_,_,if_pos rfl,by omega,fun e=>by omega⟩
   ·exact ⟨blk',l,by simp only[if_neg hm];exact he,Z5 _,fun _=>rfl⟩
 refine ⟨h.sz,h.ec.mono fun B _ hB=>(setRow_other w b B _ (fun e=>by rw[e,hb] at hB;cases hB)).trans hB,fun t=>aP.later hl (h.dB t),u9 h.df hbase _,h.cI,fun b1 o hd=>by have:=h.cL b1 o hd;simpa[World.setRow] using this,fun m =>?_,?_,fun m e hm =>?_,h.eF,h.cw,h.eI,h.jL hl⟩
 ·simp only[ab.aO];by_cases hm:m=n
  ·subst hm;simp only[if_true,cX];refine ⟨some (b,cap),by simp,fun e he =>?_,?_⟩
   ·rcases Y8.1 he with he | he
    ·exact hb2 e he
    ·exact hysz e he
   ·refine ⟨_,pre++news,rest.drop news.length,hbase,setRow_heap w b cs _ T _ hb,by simp,az.later hl _ _ (iK _ _ _ _ hes hys),?_,by simpa using hlen,hcap,fun o ho =>?_⟩
    ·have e1:cs.size=pre.length+rest.length:=by rw[←zz5,hcs,Z1]
     have e2:news.length+pre.length≤cs.size:=by
      rw[hsize,hnl,hpl,←Nat.add_mul];exact Nat.mul_le_mul_right _ (by omega)
     simp only[List.size_toArray,Z1,List.length_drop];omega
    ·have:=hD o ho;rw[Z1];omega
  ·simp only[if_neg hm];refine (h.bz m).later hl (by simp only[if_neg hm]) fun e b1 he hb'=>⟨setRow_other w b b1 _ (fun e1=>hm (h.cz m n e _ b he aq (by rw[hb',e1]) rfl)),fun _ ho=>ho⟩
 ·intro m m' e e' b' h1 h2 h3 h4;by_cases hm:m=n <;>by_cases hm':m'=n
  ·rw[hm,hm']
  ·simp only[if_pos hm,v6] at h1;simp only[if_neg hm'] at h2;subst h1;exact absurd (h.cz m' n e' _ b' h2 aq h4 h3) hm'
  ·simp only[if_neg hm] at h1;simp only[if_pos hm',v6] at h2;subst h2;exact absurd (h.cz m n e _ b' h1 aq h3 h4) hm
  ·simp only[if_neg hm] at h1;simp only[if_neg hm'] at h2;exact h.cz m m' e e' b' h1 h2 h3 h4
 ·by_cases hmn:m=n
  ·subst hmn;rcases h.dy _ _ hm with k | ⟨e',k,hle⟩
   ·rw[aq] at k;cases k
   ·rw[aq] at k;cases k;exact .inr ⟨_,if_pos rfl,hle.trans (.inr ⟨_,_,_,_,rfl,rfl,by omega,fun e=>by omega⟩)⟩
  ·simp only[if_neg hmn];exact h.dy _ _ hm
theorem Ey(n:Nat):(Builtin.zeroCells #[Value.int .i64 0] n).toList=(List.replicate n (0:Int)).map (Value.int .i64):=by
 simp only[Builtin.zeroCells,List.size_toArray,List.length_singleton,Nat.mul_one,Nat.mod_one,List.map_replicate];apply List.ext_getElem?;intro k;simp[List.getElem?_replicate];by_cases h:k<n
 ·rw[if_pos h,List.getElem?_range h];rfl
 ·rw[if_neg h,List.getElem?_eq_none (by simpa using h)];rfl
theorem C2{w:World}{D:aD}{E:aN} : ∀ {xs:List Int} {cs:List Value},az w D E (xs.map (I.int .i64)) cs→cs=xs.map (Value.int .i64)∧∀ x∈xs,IntKind.i64.min≤x∧x≤IntKind.i64.max
 | [],cs,h=>by
  simp only[zz0,az] at h;subst h;exact ⟨rfl,by simp⟩
 |x::xs,cs,h=>by
  simp only[Z4,az] at h;obtain ⟨c1,c2,rfl,h1,h2⟩:=h;obtain ⟨rfl,h3⟩:=C2 h2;have h1':c1=[.int .i64 x]∧IntKind.i64.min≤x∧x≤IntKind.i64.max:=h1;obtain ⟨rfl,h4⟩:=h1';refine ⟨rfl,fun y hy =>?_⟩;rcases zy0.1 hy with rfl | hy
  ·exact h4
  ·exact h3 y hy
theorem aL.zV(h:aL c A a w D E){n:Nat}{T:TypeId}{cap m':Nat}{es ys:List Int}{cs:Array Value}{aA:Option (Nat×Nat)}(hn:A.o n=some (.dL T es))(aq:E n=some (.rw aA es.length))(hr:∀ x∈es++ys,IntKind.i64.min≤x∧x≤IntKind.i64.max)
  (hne:ys≠[]) (hcs:cs.toList=(es++ys++List.replicate m' 0).map (Value.int .i64)) (hlen:es.length+ys.length+m'=cap) (hcap:cap≤maxLen) :
  aL c (A.aO n (.dL T (es++ys))) a (w.drew.alloc (.cells cs T)) D (fun m=>if m=n then some (.rw (some (w.heap.size,cap)) (es.length+ys.length)) else E m):=by
 have hlast:0<ys.length:=List.length_pos_iff.2 hne;have hheap:∀ b,b<w.heap.size→(w.drew.alloc (.cells cs T)).heap[b]?=w.heap[b]?:=fun b hb=>Below.heap_alloc w.drew _ b hb;have hl:dh w D E (w.drew.alloc (.cells cs T)) D (fun m=>if m=n then some (.rw (some (w.heap.size,cap)) (es.length+ys.length)) else E m):=by
  have ew:∀ {m:Nat} {e:br},E m=some e→e.eh=true→(if m=n then some (.rw (some (w.heap.size,cap)) (es.length+ys.length)) else E m)=some e:=fun {m e} he hfx=>by
   have:m≠n:=fun e=>by rw[e,aq] at he;cases he;cases hfx
   rw[if_neg this];exact he
  refine ⟨fun _ _ h=>h,fun b o v _ hv =>?_,fun m b aK he=>ew he rfl,fun m blk' l he =>?_,fun m b he=>ew he rfl,fun m b he=>ew he rfl,fun b es ck _ hm=>(hheap b (eG hm)).trans hm⟩
  ·rw[World.cell?_of_block (hheap b (World.block_lt_of_cell? w _ hv))];exact hv
  ·by_cases hm:m=n
   ·subst hm;rw[aq] at he;simp only[v6,br.rw.injEq] at he;exact ⟨_,_,if_pos rfl,by omega,fun e=>by omega⟩
   ·exact ⟨blk',l,by simp only[if_neg hm];exact he,Z5 _,fun _=>rfl⟩
 refine ⟨h.sz,h.ec.mono fun B _ hB=>(hheap B (Y3.1 hB).1).trans hB,fun t=>aP.later hl (h.dB t),h.df.trans ⟨rfl,rfl,rfl,by simp,fun k hk=>hheap k (h.old hk)⟩,h.cI,fun b o hd'=>by have:=h.cL b o hd';simp;omega,fun m =>?_,?_,fun m e hm =>?_,h.eF,h.cw,h.eI,h.jL hl⟩
 ·simp only[ab.aO];by_cases hm:m=n
  ·subst hm;simp only[if_true,cX];exact ⟨some (w.heap.size,cap),by simp,hr,cs,m',.inl h.df.size,heap_alloc_new w.drew _,hcs,by simp[hne],by simp only[Z1];exact hlen,hcap,fun o ho=>absurd (h.cL _ o ho) (Nat.lt_irrefl _)⟩
  ·simp only[if_neg hm];exact (h.bz m).later hl (by simp only[if_neg hm]) fun e b he hb=>⟨hheap b (h.eW he hb),fun _ ho=>ho⟩
 ·intro m m' e e' b h1 h2 h3 h4;by_cases hm:m=n <;>by_cases hm':m'=n
  ·rw[hm,hm']
  ·simp only[if_pos hm,v6] at h1;simp only[if_neg hm'] at h2;subst h1;simp only[br.aA,v6] at h3;have:=h.eW h2 h4;omega
  ·simp only[if_neg hm] at h1;simp only[if_pos hm',v6] at h2;subst h2;simp only[br.aA,v6] at h4;have:=h.eW h1 h3;omega
  ·simp only[if_neg hm] at h1;simp only[if_neg hm'] at h2;exact h.cz m m' e e' b h1 h2 h3 h4
 ·by_cases hmn:m=n
  ·subst hmn;rcases h.dy _ _ hm with k | ⟨e',k,hle⟩
   ·rw[aq] at k;cases k
   ·rw[aq] at k;cases k;exact .inr ⟨_,if_pos rfl,hle.trans (.inr ⟨_,_,_,_,rfl,rfl,by omega,fun e=>by omega⟩)⟩
  ·simp only[if_neg hmn];exact h.dy _ _ hm
theorem aL.V7(h:aL c A a w D E){n:Nat}{T:TypeId}{b cap m':Nat}{es ys:List Int}{cs:Array Value}(hn:A.o n=some (.dL T es))(aq:E n=some (.rw (some (b,cap)) es.length))(hb:w.heap[b]?=some (.cells cs T (0,0)))
  (hr:∀ x∈es++ys,IntKind.i64.min≤x∧x≤IntKind.i64.max) (hne:ys≠[]) (hlen:es.length+ys.length+m'=cap) (hcap:cap≤maxLen) (hD:∀ o,¬ D b o) (hbase:c.eg b) :
  aL c (A.aO n (.dL T (es++ys))) a (w.setRow b ((es++ys++List.replicate m' 0).map (Value.int .i64)).toArray) D (fun m=>if m=n then some (.rw (some (b,cap)) (es.length+ys.length)) else E m):=by
 have hlast:0<ys.length:=List.length_pos_iff.2 hne;have hl:dh w D E (w.setRow b ((es++ys++List.replicate m' 0).map (Value.int .i64)).toArray) D (fun m=>if m=n then some (.rw (some (b,cap)) (es.length+ys.length)) else E m):=by
  have ew:∀ {m:Nat} {e:br},E m=some e→e.eh=true→(if m=n then some (.rw (some (b,cap)) (es.length+ys.length)) else E m)=some e:=fun {m e} he hfx=>by
   have:m≠n:=fun e=>by rw[e,aq] at he;cases he;cases hfx
   rw[if_neg this];exact he
  refine ⟨fun _ _ h=>h,fun b1 o v hd hv =>?_,fun m b aK he=>ew he rfl,fun m blk' l he =>?_,fun m b he=>ew he rfl,fun m b he=>ew he rfl,fun b1 es ck _ hm=>(setRow_other w b b1 _ (fun e=>by rw[e,hb] at hm;cases hm)).trans hm⟩
  ·by_cases hbb:b1=b
   ·subst hbb;exact absurd hd (hD o)
   ·rw[tZ _ _ _ _ hbb];exact hv
  ·by_cases hm:m=n
   ·subst hm;rw[aq] at he;simp only[v6,br.rw.injEq] at he;exact ⟨_,_,if_pos rfl,by omega,fun e=>by omega⟩
   ·exact ⟨blk',l,by simp only[if_neg hm];exact he,Z5 _,fun _=>rfl⟩
 refine ⟨h.sz,h.ec.mono fun B _ hB=>(setRow_other w b B _ (fun e=>by rw[e,hb] at hB;cases hB)).trans hB,fun t=>aP.later hl (h.dB t),u9 h.df hbase _,h.cI,fun b1 o hd=>by have:=h.cL b1 o hd;simpa[World.setRow] using this,fun m =>?_,?_,fun m e hm =>?_,h.eF,h.cw,h.eI,h.jL hl⟩
 ·simp only[ab.aO];by_cases hm:m=n
  ·subst hm;simp only[if_true,cX];exact ⟨some (b,cap),by simp,hr,_,m',hbase,setRow_heap w b cs _ T _ hb,by simp,by simp[hne],by simp only[Z1];exact hlen,hcap,hD⟩
  ·simp only[if_neg hm];refine (h.bz m).later hl (by simp only[if_neg hm]) fun e b1 he hb'=>⟨setRow_other w b b1 _ (fun e1=>hm (h.cz m n e _ b he aq (by rw[hb',e1]) rfl)),fun _ ho=>ho⟩
 ·intro m m' e e' b' h1 h2 h3 h4;by_cases hm:m=n <;>by_cases hm':m'=n
  ·rw[hm,hm']
  ·simp only[if_pos hm,v6] at h1;simp only[if_neg hm'] at h2;subst h1;exact absurd (h.cz m' n e' _ b' h2 aq h4 h3) hm'
  ·simp only[if_neg hm] at h1;simp only[if_pos hm',v6] at h2;subst h2;exact absurd (h.cz m n e _ b' h1 aq h3 h4) hm
  ·simp only[if_neg hm] at h1;simp only[if_neg hm'] at h2;exact h.cz m m' e e' b' h1 h2 h3 h4
 ·by_cases hmn:m=n
  ·subst hmn;rcases h.dy _ _ hm with k | ⟨e',k,hle⟩
   ·rw[aq] at k;cases k
   ·rw[aq] at k;cases k;exact .inr ⟨_,if_pos rfl,hle.trans (.inr ⟨_,_,_,_,rfl,rfl,by omega,fun e=>by omega⟩)⟩
  ·simp only[if_neg hmn];exact h.dy _ _ hm
end
section
variable {c:cm} {A:ab} {o:Oper}
theorem KA{t e:TypeId}{s x:Operand}{s' x':au}{n k sz:Nat}{es ys:List I}{z:I}(ho:o.op=.call { callee:=.builtin .append,args := #[s,x],argTypes := #[t,t] })(ht:c.P.underlying t=some (.slice e))(hs':aS c.P t s=some s')(hx':aS c.P t x=some x')
  (hz:fe c.P e=some z) (hzs:z.size=c.P.cellsOf e) (hpos:0<c.P.cellsOf e) (hs:af A s'=.own n k) (hn:A.o n=some (.bE e (c.P.cellsOf e) es)) (hk:k=es.length) (hx:af A x'=.slice sz ys) (hsz:sz=c.P.cellsOf e) (hne:ys≠[])
  (h63:es.length+ys.length≤maxLen) (hby:(es.length+ys.length)*c.P.bytesOf e≤140737488355328) (hd:∀ k,o.dst=some k→k<c.n) :
  ga c A o ((A.aO n (.bE e (c.P.cellsOf e) (es++ys))).aM o.dst (.own n (es.length+ys.length))):=by
 intro a w D E hsim;obtain ⟨i,zv,hi,hzv,hzr⟩:=kp hz;have hci:c.P.cellsOf e=i.size:=by simp[Program.cellsOf,hi]
 have hbi:c.P.bytesOf e=i.bytes:=by simp[Program.bytesOf,hi]
 have hzc:zv.cells.size=i.size:=by
  have:=ae.length _ _ (hzr w D E);rw[zz5] at this;rw[this,hzs,hci]
 subst hk;have v1:=bn hsim hs';rw[hs] at v1;have v2:=bn hsim hx';rw[hx] at v2;obtain ⟨ad,cp,hxv,hc1,hc2,hc3,hc4⟩:=ke v2;obtain ⟨b2,off2,news,rfl,hr2,hys⟩:=hc3.resolve_left hne;have hobj:=hsim.bz n;rw[hn] at hobj;obtain ⟨aA,aq,hesz,hblk⟩:=hobj;have hnl:news.length=ys.length*i.size:=by rw[az.length _ _ hys,I.fY _ hc4,hsz,hci]
 have hysz:∀ y∈ys,y.size=c.P.cellsOf e:=fun y hy=>by rw[hc4 y hy,hsz]
 have hnews:∀ j v,news[j]?=some v→w.cell? ((⟨b2,off2,none⟩:Addr).add j)=some v:=fun j v hj=>by
  rw[Addr.add_lit];exact (hr2 j v hj).1
 have h1:=az.j6 _ _ hys;have hsv:match aA with | none=>a.eval s=.slice none 0 0 | some (b,cap)=>a.eval s=.slice (some ⟨b,0,none⟩) es.length cap:=by
  obtain ⟨cs,q1,q2⟩:=v1;simp only[ae] at q2;obtain ⟨blk',l,q3,q4,q5,q6⟩:=q2;rw[aq] at q3;simp only[v6,br.rw.injEq] at q3;obtain ⟨rfl,rfl⟩:=q3;have q7:=q6 rfl;simp only[aW,I.isAgg] at q1;cases aA with
  |none=>simp only at q7 ⊢;rw[q7] at q1;simpa using q1.symm
  |some bc=>simp only at q7 ⊢;rw[q7] at q1;simpa using q1.symm
 have hl0:0<ys.length:=List.length_pos_iff.2 hne;have h63':=h63;simp only[maxLen] at h63';have run:∀ v' w',(Builtin.append_ #[t,t] o.type #[a.eval s,.slice (some ⟨b2,off2,none⟩) ys.length cp]).run c.P w=.ok v' w'→(execOp a.eval o).run c.P w=.ok (.value v') w':=by
  intro v' w' hr;unfold execOp;simp only[ho,resolve,invoke,builtin,Sem.run_bind,Sem.run_pure,Result.andThen_ok,List.map_toArray,Z4,zz0,hxv,hr]
 have put:∀ (w':World) (b cap:Nat) (v':Value),v'=.slice (some ⟨b,0,none⟩) (es.length+ys.length) cap→aL c (A.aO n (.bE e (c.P.cellsOf e) (es++ys))) a w' D (fun m=>if m=n then some (.rw (some (b,cap)) (es.length+ys.length)) else E m) →
   bA c ((A.aO n (.bE e (c.P.cellsOf e) (es++ys))).aM o.dst (.own n (es.length+ys.length))) (a.put o.dst v') w':=by
  rintro w' b cap v' rfl hs2;refine ⟨D,_,hs2.aM hd ⟨_,by simp[aW,I.isAgg];rfl,?_⟩⟩;simp only[ae,if_true];exact ⟨some (b,cap),es.length+ys.length,rfl,Z5 _,⟨_,_,_,rfl⟩,fun _=>rfl⟩
 cases aA with
 |none =>
  simp only at hblk hsv;subst hblk;have hr:=run_append_nil (P:=c.P) w t o.type e i zv ht hi hzv ⟨b2,off2,none⟩ ys.length cp news hnl hnews hl0 (by simp at h63';omega) (by rw[hbi] at hby;simp at hby;omega);rw[←hsv] at hr;have hge:=grownCap_ge w ys.length 0 e;refine ⟨_,.inl ⟨_,run _ _ hr,put _ w.heap.size (grownCap w ys.length 0 e) _ (by simp) ?_⟩⟩;refine hsim.zU (pre:=[]) (news:=news) (rest:=(Builtin.zeroCells zv.cells (grownCap w ys.length 0 e-ys.length)).toList) hn aq (by simp[az]) hys hysz hne (by simp) ?_ (by simpa using hge) (grownCap_le_maxLen w ys.length 0 e (by simpa using h63));simp only[Array.size_append,List.size_toArray,size_zeroCells,hzc,hnl,hci,←Nat.add_mul]
  congr 1
  omega
 |some bc =>
  obtain ⟨b,cap⟩:=bc;simp only at hblk hsv;obtain ⟨cs,pre,rest,k1,k2,k3,k4,k5,k6,k7,k8⟩:=hblk;have hpl:pre.length=es.length*i.size:=by rw[az.length _ _ k4,I.fY _ hesz,hci]
  by_cases hroom:es.length+ys.length≤cap
  ·have hfit:es.length*i.size+news.length≤cs.size:=by rw[hnl,k5,hci,←Nat.add_mul];exact Nat.mul_le_mul_right _ hroom
   have hr:=run_append_room (P:=c.P) w t o.type e i ht hi b es.length cap cs k2 ⟨b2,off2,none⟩ ys.length cp news hnl hnews h1 hroom hfit;rw[←hsv] at hr;refine ⟨_,.inl ⟨_,run _ _ hr,put _ b cap _ rfl ?_⟩⟩;have e1:cs.toList.take (es.length*i.size)=pre:=by rw[k3,←hpl];exact zy7
   have e2:cs.toList.drop (es.length*i.size+news.length)=rest.drop news.length:=by rw[k3,←hpl,←List.drop_drop,List.drop_left]
   rw[e1,e2];exact hsim.V6 hn aq k2 k3 k4 hys hysz hne k5 hroom k7 k8 k1
  ·have holds:∀ j v,pre[j]?=some v→w.cell? ((⟨b,0,none⟩:Addr).add j)=some v:=fun j v hj=>by
    rw[Addr.add_lit,Z9,cell_of_row w b j cs e (0,0) k2,←Array.getElem?_toList,k3];have:j<pre.length:=(Z8.1 hj).1;rw[zz7 this];exact hj
   have hr:=run_append_grow (P:=c.P) w t o.type e i zv ht hi hzv ⟨b,0,none⟩ es.length cap pre hpl holds ⟨b2,off2,none⟩ ys.length cp news hnl hnews (by omega) (by omega) (growslice_fits (by omega) (by rw[←hbi];exact hby));rw[←hsv] at hr;have hge:=grownCap_ge w (es.length+ys.length) cap e;refine ⟨_,.inl ⟨_,run _ _ hr,put _ w.heap.size (grownCap w (es.length+ys.length) cap e) _ rfl ?_⟩⟩;refine hsim.zU (pre:=pre) (news:=news) (rest:=(Builtin.zeroCells zv.cells (grownCap w (es.length+ys.length) cap e-(es.length+ys.length))).toList) hn aq k4 hys hysz hne (by simp) ?_ hge (grownCap_le_maxLen w _ cap e h63);simp only[Array.size_append,List.size_toArray,size_zeroCells,hzc,hnl,hpl,hci,←Nat.add_mul]
   congr 1
   omega
theorem KB{t e:TypeId}{s x:Operand}{s' x':au}{n k sz:Nat}{es ys:List Int}(ho:o.op=.call { callee:=.builtin .append,args := #[s,x],argTypes := #[t,t] })(ht:c.P.underlying t=some (.slice e))(hs':aS c.P t s=some s')(hx':aS c.P t x=some x')
  (hz:fe c.P e=some (.int .i64 0)) (h1c:c.P.cellsOf e=1) (hs:af A s'=.own n k) (hn:A.o n=some (.dL e es)) (hk:k=es.length) (hx:af A x'=.slice sz (ys.map (.int .i64))) (hne:ys≠[])
  (h63:es.length+ys.length≤maxLen) (hby:(es.length+ys.length)*c.P.bytesOf e≤140737488355328) (hd:∀ k,o.dst=some k→k<c.n) :
  ga c A o ((A.aO n (.dL e (es++ys))).aM o.dst (.own n (es.length+ys.length))):=by
 intro a w D E hsim;obtain ⟨i,zv,hi,hzv,hzr⟩:=kp hz;have hci:c.P.cellsOf e=i.size:=by simp[Program.cellsOf,hi]
 have hi1:i.size=1:=hci.symm.trans h1c;have hbi:c.P.bytesOf e=i.bytes:=by simp[Program.bytesOf,hi]
 have hzv2:zv.cells = #[Value.int .i64 0]:=by
  have:zv.cells.toList=[Value.int .i64 0]:=(hzr w D E).1;exact Array.toList_inj.1 this
 subst hk;have v1:=bn hsim hs';rw[hs] at v1;have v2:=bn hsim hx';rw[hx] at v2;obtain ⟨ad,cp,hxv,hc1,hc2,hc3,hc4⟩:=ke v2;obtain ⟨b2,off2,news,rfl,hr2,hys⟩:=hc3.resolve_left (by simpa using hne);rw[Z2] at hxv;obtain ⟨aA,aq,hesr,hblk⟩:=hsim.wM hn;obtain ⟨hnw,hyr⟩:=C2 hys;have hnl0:news.length=ys.length:=by rw[hnw,Z2]
 have hnl:news.length=ys.length*i.size:=by rw[hi1,Nat.mul_one,hnl0]
 have hrr:∀ x∈es++ys,IntKind.i64.min≤x∧x≤IntKind.i64.max:=fun x hx=>by
  rcases Y8.1 hx with h | h
  ·exact hesr x h
  ·exact hyr x h
 have hnews:∀ j v,news[j]?=some v→w.cell? ((⟨b2,off2,none⟩:Addr).add j)=some v:=fun j v hj=>by
  rw[Addr.add_lit];exact (hr2 j v hj).1
 have h1:=az.j6 _ _ hys;have hsv:match aA with | none=>a.eval s=.slice none 0 0 | some (b,cap)=>a.eval s=.slice (some ⟨b,0,none⟩) es.length cap:=by
  obtain ⟨cs,q1,q2⟩:=v1;simp only[ae] at q2;obtain ⟨blk',l,q3,q4,q5,q6⟩:=q2;rw[aq] at q3;simp only[v6,br.rw.injEq] at q3;obtain ⟨rfl,rfl⟩:=q3;have q7:=q6 rfl;simp only[aW,I.isAgg] at q1;cases aA with
  |none=>simp only at q7 ⊢;rw[q7] at q1;simpa using q1.symm
  |some bc=>simp only at q7 ⊢;rw[q7] at q1;simpa using q1.symm
 have hl0:0<ys.length:=List.length_pos_iff.2 hne;have h63':=h63;simp only[maxLen] at h63';have run:∀ v' w',(Builtin.append_ #[t,t] o.type #[a.eval s,.slice (some ⟨b2,off2,none⟩) ys.length cp]).run c.P w=.ok v' w'→(execOp a.eval o).run c.P w=.ok (.value v') w':=by
  intro v' w' hr;unfold execOp;simp only[ho,resolve,invoke,builtin,Sem.run_bind,Sem.run_pure,Result.andThen_ok,List.map_toArray,Z4,zz0,hxv,hr]
 have put:∀ (w':World) (b cap:Nat) (v':Value),v'=.slice (some ⟨b,0,none⟩) (es.length+ys.length) cap→aL c (A.aO n (.dL e (es++ys))) a w' D (fun m=>if m=n then some (.rw (some (b,cap)) (es.length+ys.length)) else E m) →
   bA c ((A.aO n (.dL e (es++ys))).aM o.dst (.own n (es.length+ys.length))) (a.put o.dst v') w':=by
  rintro w' b cap v' rfl hs2;refine ⟨D,_,hs2.aM hd ⟨_,by simp[aW,I.isAgg];rfl,?_⟩⟩;simp only[ae,if_true];exact ⟨some (b,cap),es.length+ys.length,rfl,Z5 _,⟨_,_,_,rfl⟩,fun _=>rfl⟩
 cases aA with
 |none =>
  simp only at hblk hsv;subst hblk;have hr:=run_append_nil (P:=c.P) w t o.type e i zv ht hi hzv ⟨b2,off2,none⟩ ys.length cp news hnl hnews hl0 (by simp at h63';omega) (by rw[hbi] at hby;simp at hby;omega);rw[←hsv] at hr;have hge:=grownCap_ge w ys.length 0 e;refine ⟨_,.inl ⟨_,run _ _ hr,put _ w.heap.size (grownCap w ys.length 0 e) _ (by simp) ?_⟩⟩;refine hsim.zV (m':=grownCap w ys.length 0 e-ys.length) hn aq hrr hne ?_ (by simp;omega) (grownCap_le_maxLen w ys.length 0 e (by simpa using h63));rw[hzv2];simp only[Array.toList_append,Ey,zz2,zz8,hnw]
 |some bc =>
  obtain ⟨b,cap⟩:=bc;simp only at hblk hsv;obtain ⟨cs,m,k1,k2,k3,k4,k5,k6,k7⟩:=hblk;have hcz:cs.size=cap:=by rw[←zz5,k3];simp;omega
  by_cases hroom:es.length+ys.length≤cap
  ·have hfit:es.length*i.size+news.length≤cs.size:=by rw[hnl,hi1];omega
   have hr:=run_append_room (P:=c.P) w t o.type e i ht hi b es.length cap cs k2 ⟨b2,off2,none⟩ ys.length cp news hnl hnews h1 hroom hfit;rw[←hsv] at hr;refine ⟨_,.inl ⟨_,run _ _ hr,put _ b cap _ rfl ?_⟩⟩;have e0:cs.toList.take (es.length*i.size)++news++cs.toList.drop (es.length*i.size+news.length)=(es++ys++List.replicate (m-ys.length) 0).map (Value.int .i64):=by
    rw[hi1,Nat.mul_one,hnl0,k3,hnw,←List.map_take,←List.map_drop,zy7,←List.drop_drop,List.drop_left];simp only[zz8,List.drop_replicate]
   rw[e0];exact hsim.V7 (m':=m-ys.length) hn aq k2 hrr hne (by omega) k6 k7 k1
  ·have hpl:(es.map (Value.int .i64)).length=es.length*i.size:=by rw[hi1];simp
   have holds:∀ j v,(es.map (Value.int .i64))[j]?=some v→w.cell? ((⟨b,0,none⟩:Addr).add j)=some v:=fun j v hj=>by
    rw[Addr.add_lit,Z9,cell_of_row w b j cs e (0,0) k2,←Array.getElem?_toList,k3];have:j<(es.map (Value.int .i64)).length:=(Z8.1 hj).1;rw[zz8,zz7 this];exact hj
   have hr:=run_append_grow (P:=c.P) w t o.type e i zv ht hi hzv ⟨b,0,none⟩ es.length cap (es.map (Value.int .i64)) hpl holds ⟨b2,off2,none⟩ ys.length cp news hnl hnews (by omega) (by omega) (growslice_fits (by omega) (by rw[←hbi];exact hby));rw[←hsv] at hr;have hge:=grownCap_ge w (es.length+ys.length) cap e;refine ⟨_,.inl ⟨_,run _ _ hr,put _ w.heap.size (grownCap w (es.length+ys.length) cap e) _ rfl ?_⟩⟩;refine hsim.zV (m':=grownCap w (es.length+ys.length) cap e-(es.length+ys.length)) hn aq hrr hne ?_ (by omega) (grownCap_le_maxLen w _ cap e h63);rw[hzv2];simp only[Array.toList_append,Ey,zz8,hnw]
end
mutual
def I.only(p:Nat→Bool):I→Bool
 | .agg fs | .tuple fs=>I.cH p fs
 | .slice _ es=>I.cH p es
 | .ref x=>x.only p
 | .func _ caps=>I.cH p caps
 | .iface _ v=>v.only p
 | .ptr n _ | .own n _ | .view n _ _ _ _ | .mref n | .cR n=>p n
 | .cW ks vs=>I.cH p ks&&I.cH p vs
 |_=>true
def I.cH(p:Nat→Bool):List I→Bool
 | []=>true
 |x::xs=>x.only p&&I.cH p xs
end
mutual
theorem lL(p:Nat→Bool):∀ x:I,x.bu=true→x.only p=true
 | .agg fs,h=>by simp only[I.bu,I.only] at *;exact mG p fs h
 | .slice _ es,h=>by simp only[I.bu,I.only] at *;exact mG p es h
 | .ref x,h=>by simp only[I.bu,I.only] at *;exact lL p x h
 | .func _ caps,h=>by simp only[I.bu,I.only] at *;exact mG p caps h
 | .iface _ v,h=>by simp only[I.bu,I.only] at *;exact lL p v h
 | .bool _,_ | .int _ _,_ | .aj _,_ | .nilp,_ | .c8,_ | .cN,_ | .any,_ | .raw _,_ | .nils _,_ | .c0 _,_=>by simp[I.only]
 | .cW ks vs,h=>by simp only[I.bu,I.only,Z0] at *;exact ⟨mG p ks h.1,mG p vs h.2⟩
 | .ptr _ _,h | .own _ _,h | .view _ _ _ _ _,h | .mref _,h | .cR _,h | .undef,h | .cU,h | .tuple _,h=>by simp[I.bu] at h
theorem mG(p:Nat→Bool):∀ xs:List I,I.cj xs=true→I.cH p xs=true
 | [],_=>rfl
 |x::xs,h=>by
  simp only[I.cj,I.cH,Z0] at *;exact ⟨lL p x h.1,mG p xs h.2⟩
end
mutual
theorem ae.dD{w:World}{D:aD}{E E':aN}{p:Nat→Bool}(aq:∀ n,p n=true→E' n=E n):∀ (x:I) (cs:List Value),x.only p=true→ae w D E x cs→ae w D E' x cs
 | .agg fs,cs,ho,hr=>by simp only[ae,I.only] at *;exact az.dD aq fs cs ho hr
 | .bool b,cs,_,hr=>by simpa only[ae] using hr
 | .int k n,cs,_,hr=>by simpa only[ae] using hr
 | .aj s,cs,_,hr=>by simpa only[ae] using hr
 | .nilp,cs,_,hr=>by simpa only[ae] using hr
 | .c8,cs,_,hr=>by simpa only[ae] using hr
 | .cN,cs,_,hr | .any,cs,_,hr=>by simpa only[ae] using hr
 | .raw _,cs,_,hr=>by simpa only[ae] using hr
 | .nils _,cs,_,hr=>by simpa only[ae] using hr
 | .c0 _,cs,_,hr=>by simpa only[ae] using hr
 | .slice sz es,cs,ho,hr=>by
  simp only[ae,I.only] at *;obtain ⟨a,cap,h1,h2,h3,h4,h5⟩:=hr;refine ⟨a,cap,h1,h2,h3,?_,h5⟩;rcases h4 with h4 | ⟨b,off,cs',h6,h7,h8⟩
  ·exact .inl h4
  ·exact .inr ⟨b,off,cs',h6,h7,az.dD aq es cs' ho h8⟩
 | .ref x,cs,ho,hr=>by
  simp only[ae,I.only] at *;obtain ⟨b,off,cs',h1,h2,h3⟩:=hr;exact ⟨b,off,cs',h1,h2,ae.dD aq x cs' ho h3⟩
 | .func f caps,cs,ho,hr=>by
  simp only[ae,I.only] at *;obtain ⟨vs,h1,h2⟩:=hr;exact ⟨vs,h1,ao.dD aq caps vs ho h2⟩
 | .iface t v,cs,ho,hr=>by
  simp only[ae,I.only] at *;obtain ⟨u,cs',h1,h2,h3⟩:=hr;exact ⟨u,cs',h1,h2,ae.dD aq v cs' ho h3⟩
 | .ptr n p,cs,ho,hr=>by
  simp only[ae,I.only] at *;obtain ⟨b,aK,off,h1,h2⟩:=hr;exact ⟨b,aK,off,(aq n ho).trans h1,h2⟩
 | .own n k,cs,ho,hr=>by
  simp only[ae,I.only] at *;obtain ⟨aA,l,h1,h2⟩:=hr;exact ⟨aA,l,(aq n ho).trans h1,h2⟩
 | .view n p _ _ _,cs,ho,hr=>by
  simp only[ae,I.only] at *;obtain ⟨b,aK,off,l,h1,h2⟩:=hr;exact ⟨b,aK,off,l,(aq n ho).trans h1,h2⟩
 | .mref n,cs,ho,hr=>by
  simp only[ae,I.only] at *;obtain ⟨b,h1,h2⟩:=hr;exact ⟨b,(aq n ho).trans h1,h2⟩
 | .cR n,cs,ho,hr=>by
  simp only[ae,I.only] at *;obtain ⟨b,h1,h2⟩:=hr;exact ⟨b,(aq n ho).trans h1,h2⟩
 | .cW ks vs,cs,ho,hr=>by
  simp only[ae,I.only,Z0] at *;obtain ⟨b,es,ck,h1,h2,h3,h4⟩:=hr;exact ⟨b,es,ck,h1,h2,ao.dD aq ks _ ho.1 h3,ao.dD aq vs _ ho.2 h4⟩
 | .undef,_,_,hr=>by simp only[ae] at hr
 | .cU,_,_,hr=>by simp only[ae] at hr
 | .tuple _,_,_,hr=>by simp only[ae] at hr
theorem az.dD{w:World}{D:aD}{E E':aN}{p:Nat→Bool}(aq:∀ n,p n=true→E' n=E n):∀ (xs:List I) (cs:List Value),I.cH p xs=true→az w D E xs cs→az w D E' xs cs
 | [],cs,_,hr=>by simpa only[az] using hr
 |x::xs,cs,ho,hr=>by
  simp only[az,I.cH,Z0] at *;obtain ⟨c1,c2,h1,h2,h3⟩:=hr;exact ⟨c1,c2,h1,ae.dD aq x c1 ho.1 h2,az.dD aq xs c2 ho.2 h3⟩
theorem ao.dD{w:World}{D:aD}{E E':aN}{p:Nat→Bool}(aq:∀ n,p n=true→E' n=E n):∀ (xs:List I) (vs:List Value),I.cH p xs=true→ao w D E xs vs→ao w D E' xs vs
 | [],vs,_,hr=>by simpa only[ao] using hr
 |x::xs,vs,ho,hr=>by
  simp only[ao,I.cH,Z0] at *;obtain ⟨v,rest,cs,h1,h2,h3,h4⟩:=hr;exact ⟨v,rest,cs,h1,h2,ae.dD aq x cs ho.1 h3,ao.dD aq xs rest ho.2 h4⟩
end
theorem aP.dD{w:World}{D:aD}{E E':aN}{p:Nat→Bool}(aq:∀ n,p n=true→E' n=E n){x:I}{v:Value}(ho:x.only p=true)(hr:aP w D E x v):aP w D E' x v:=by
 cases x <;>simp only[aP] at * <;>first
  |exact hr
  |(obtain ⟨vs,h1,h2⟩:=hr;exact ⟨vs,h1,ao.dD aq _ _ (by simpa[I.only] using ho) h2⟩)
  |(obtain ⟨cs,h1,h2⟩:=hr;exact ⟨cs,h1,ae.dD aq _ _ ho h2⟩)
def ai.only(p:Nat→Bool):ai→Bool
 | .box x=>x.only p
 | .bE _ _ es=>I.cH p es
 | .db _=>true
 | .dL _ _=>true
 | .b7 ks vs | .it ks vs _ _=>I.cH p ks&&I.cH p vs
def bo:List (Nat×Nat)→Nat→Nat
 | [],n=>n
 |(a,b)::r,n=>if n=a then b else bo r n
mutual
def I.aR(ρ:Nat→Nat):I→I
 | .agg fs=>.agg (I.cT ρ fs)
 | .tuple fs=>.tuple (I.cT ρ fs)
 | .slice sz es=>.slice sz (I.cT ρ es)
 | .ref x=>.ref (x.aR ρ)
 | .func f caps=>.func f (I.cT ρ caps)
 | .iface t v=>.iface t (v.aR ρ)
 | .ptr n p=>.ptr (ρ n) p
 | .own n k=>.own (ρ n) k
 | .view n p sz lo k=>.view (ρ n) p sz lo k
 | .mref n=>.mref (ρ n)
 | .cR n=>.cR (ρ n)
 | .cW ks vs=>.cW (I.cT ρ ks) (I.cT ρ vs)
 | .undef=>.undef | .cU=>.cU | .bool b=>.bool b | .int k n=>.int k n | .aj s=>.aj s
 | .nilp=>.nilp | .c8=>.c8 | .cN=>.cN | .any=>.any | .raw u=>.raw u | .nils z=>.nils z | .c0 z=>.c0 z
def I.cT(ρ:Nat→Nat):List I→List I
 | []=>[]
 |x::xs=>x.aR ρ::I.cT ρ xs
end
def ai.aR(ρ:Nat→Nat):ai→ai
 | .box x=>.box (x.aR ρ)
 | .bE T sz es=>.bE T sz (I.cT ρ es)
 | .db x=>.db x
 | .dL T xs=>.dL T xs
 | .b7 ks vs=>.b7 (I.cT ρ ks) (I.cT ρ vs)
 | .it ks vs left cur=>.it (I.cT ρ ks) (I.cT ρ vs) left cur
mutual
theorem qb(ρ:Nat→Nat):∀ x:I,(x.aR ρ).size=x.size
 | .agg fs=>by simp only[I.aR,I.size];exact Di ρ fs
 | .undef | .cU | .bool _ | .int _ _ | .aj _ | .nilp | .c8 | .cN | .any | .raw _ | .nils _ | .c0 _ | .slice _ _ | .tuple _ | .ref _ | .func _ _ | .iface _ _ | .ptr _ _ | .own _ _ | .view _ _ _ _ _ | .mref _ | .cR _ | .cW _ _=>by simp only[I.aR,I.size]
theorem Di(ρ:Nat→Nat):∀ xs:List I,I.sizes (I.cT ρ xs)=I.sizes xs
 | []=>rfl
 |x::xs=>by simp only[I.cT,I.sizes,qb ρ x,Di ρ xs]
end
mutual
theorem qa(ρ:Nat→Nat):∀ x:I,(x.aR ρ).aK=x.aK
 | .agg fs=>by simp only[I.aR,I.aK,bL.eJ.injEq];exact Dg ρ fs
 | .undef | .cU | .bool _ | .int _ _ | .aj _ | .nilp | .c8 | .cN | .any | .raw _ | .nils _ | .c0 _ | .slice _ _ | .tuple _ | .ref _ | .func _ _ | .iface _ _ | .ptr _ _ | .own _ _ | .view _ _ _ _ _ | .mref _ | .cR _ | .cW _ _=>by simp only[I.aR,I.aK]
theorem Dg(ρ:Nat→Nat):∀ xs:List I,I.cK (I.cT ρ xs)=I.cK xs
 | []=>rfl
 |x::xs=>by simp only[I.cT,I.cK,qa ρ x,Dg ρ xs]
end
theorem WR(ρ:Nat→Nat)(x:I):(x.aR ρ).isAgg=x.isAgg:=by cases x <;>simp[I.aR,I.isAgg]
theorem qd(ρ:Nat→Nat)(xs:List I):I.cT ρ xs=xs.map (I.aR ρ):=by
 induction xs with
 |nil=>rfl
 |cons x xs ih=>simp[I.cT,ih]
theorem qc(ρ:Nat→Nat)(xs:List I):(I.cT ρ xs).length=xs.length:=by rw[qd];simp
theorem Df(ρ:Nat→Nat)(x:I)(v:Value)(cs:List Value):aW (x.aR ρ) v cs=aW x v cs:=by simp only[aW,WR]
mutual
/-- A value,its names put for others that stand for the same. -/
theorem ae.aR{w:World}{D:aD}{E E':aN}{p:Nat→Bool}{ρ:Nat→Nat}(aq:∀ n,p n=true→E' (ρ n)=E n):∀ (x:I) (cs:List Value),x.only p=true→(ae w D E' (x.aR ρ) cs↔ae w D E x cs)
 | .agg fs,cs,ho=>by simp only[ae,I.aR,I.only] at *;exact az.aR aq fs cs ho
 | .bool b,cs,_ | .int k n,cs,_ | .aj s,cs,_ | .nilp,cs,_ | .c8,cs,_ | .cN,cs,_ | .any,cs,_ | .raw _,cs,_ | .nils _,cs,_ | .c0 _,cs,_ | .undef,cs,_ | .cU,cs,_ | .tuple _,cs,_=>by simp only[ae,I.aR]
 | .slice sz es,cs,ho=>by
  simp only[ae,I.aR,I.only,qc] at *;have e1:(I.cT ρ es=[])↔es=[]:=by rw[←List.length_eq_zero_iff,qc,List.length_eq_zero_iff]
  have e2:(∀ e∈I.cT ρ es,e.size=sz)↔∀ e∈es,e.size=sz:=by
   rw[qd];constructor
   ·intro h e he;rw[←qb ρ e];exact h _ (zz1.2 ⟨e,he,rfl⟩)
   ·intro h e he;obtain ⟨e',he',rfl⟩:=zz1.1 he;rw[qb];exact h _ he'
  simp only[e1,e2];constructor
  ·rintro ⟨a,cap,h1,h2,h3,h4,h5⟩;refine ⟨a,cap,h1,h2,h3,?_,h5⟩;rcases h4 with h4 | ⟨b,off,cs',h6,h7,h8⟩
   ·exact .inl h4
   ·exact .inr ⟨b,off,cs',h6,h7,(az.aR aq es cs' ho).1 h8⟩
  ·rintro ⟨a,cap,h1,h2,h3,h4,h5⟩;refine ⟨a,cap,h1,h2,h3,?_,h5⟩;rcases h4 with h4 | ⟨b,off,cs',h6,h7,h8⟩
   ·exact .inl h4
   ·exact .inr ⟨b,off,cs',h6,h7,(az.aR aq es cs' ho).2 h8⟩
 | .ref x,cs,ho=>by
  simp only[ae,I.aR,I.only] at *;constructor
  ·rintro ⟨b,off,cs',h1,h2,h3⟩;exact ⟨b,off,cs',h1,h2,(ae.aR aq x cs' ho).1 h3⟩
  ·rintro ⟨b,off,cs',h1,h2,h3⟩;exact ⟨b,off,cs',h1,h2,(ae.aR aq x cs' ho).2 h3⟩
 | .func f caps,cs,ho=>by
  simp only[ae,I.aR,I.only] at *;constructor
  ·rintro ⟨vs,h1,h2⟩;exact ⟨vs,h1,(ao.aR aq caps vs ho).1 h2⟩
  ·rintro ⟨vs,h1,h2⟩;exact ⟨vs,h1,(ao.aR aq caps vs ho).2 h2⟩
 | .iface t v,cs,ho=>by
  simp only[ae,I.aR,I.only,Df] at *;constructor
  ·rintro ⟨u,cs',h1,h2,h3⟩;exact ⟨u,cs',h1,h2,(ae.aR aq v cs' ho).1 h3⟩
  ·rintro ⟨u,cs',h1,h2,h3⟩;exact ⟨u,cs',h1,h2,(ae.aR aq v cs' ho).2 h3⟩
 | .ptr n p,cs,ho=>by simp only[ae,I.aR,I.only] at *;rw[aq n ho]
 | .own n k,cs,ho=>by simp only[ae,I.aR,I.only] at *;rw[aq n ho]
 | .view n p _ _ _,cs,ho=>by simp only[ae,I.aR,I.only] at *;rw[aq n ho]
 | .mref n,cs,ho=>by simp only[ae,I.aR,I.only] at *;rw[aq n ho]
 | .cR n,cs,ho=>by simp only[ae,I.aR,I.only] at *;rw[aq n ho]
 | .cW ks vs,cs,ho=>by
  simp only[ae,I.aR,I.only,Z0] at *;constructor
  ·rintro ⟨b,es,ck,h1,h2,h3,h4⟩;exact ⟨b,es,ck,h1,h2,(ao.aR aq ks _ ho.1).1 h3,(ao.aR aq vs _ ho.2).1 h4⟩
  ·rintro ⟨b,es,ck,h1,h2,h3,h4⟩;exact ⟨b,es,ck,h1,h2,(ao.aR aq ks _ ho.1).2 h3,(ao.aR aq vs _ ho.2).2 h4⟩
theorem az.aR{w:World}{D:aD}{E E':aN}{p:Nat→Bool}{ρ:Nat→Nat}(aq:∀ n,p n=true→E' (ρ n)=E n):∀ (xs:List I) (cs:List Value),I.cH p xs=true→(az w D E' (I.cT ρ xs) cs↔az w D E xs cs)
 | [],cs,_=>by simp only[az,I.cT]
 |x::xs,cs,ho=>by
  simp only[az,I.cT,I.cH,Z0] at *;constructor
  ·rintro ⟨c1,c2,h1,h2,h3⟩;exact ⟨c1,c2,h1,(ae.aR aq x c1 ho.1).1 h2,(az.aR aq xs c2 ho.2).1 h3⟩
  ·rintro ⟨c1,c2,h1,h2,h3⟩;exact ⟨c1,c2,h1,(ae.aR aq x c1 ho.1).2 h2,(az.aR aq xs c2 ho.2).2 h3⟩
theorem ao.aR{w:World}{D:aD}{E E':aN}{p:Nat→Bool}{ρ:Nat→Nat}(aq:∀ n,p n=true→E' (ρ n)=E n):∀ (xs:List I) (vs:List Value),I.cH p xs=true→(ao w D E' (I.cT ρ xs) vs↔ao w D E xs vs)
 | [],vs,_=>by simp only[ao,I.cT]
 |x::xs,vs,ho=>by
  simp only[ao,I.cT,I.cH,Z0,Df] at *;constructor
  ·rintro ⟨v,rest,cs,h1,h2,h3,h4⟩;exact ⟨v,rest,cs,h1,h2,(ae.aR aq x cs ho.1).1 h3,(ao.aR aq xs rest ho.2).1 h4⟩
  ·rintro ⟨v,rest,cs,h1,h2,h3,h4⟩;exact ⟨v,rest,cs,h1,h2,(ae.aR aq x cs ho.1).2 h3,(ao.aR aq xs rest ho.2).2 h4⟩
end
theorem aP.aR{w:World}{D:aD}{E E':aN}{p:Nat→Bool}{ρ:Nat→Nat}(aq:∀ n,p n=true→E' (ρ n)=E n){x:I}{v:Value}(ho:x.only p=true):aP w D E' (x.aR ρ) v↔aP w D E x v:=by
 cases x <;>first
  |(simp only[aP,I.aR];done)
  |(simp only[aP,I.aR,I.only] at ho ⊢
    constructor
    ·rintro ⟨vs,h1,h2⟩;exact ⟨vs,h1,(ao.aR aq _ _ ho).1 h2⟩
    ·rintro ⟨vs,h1,h2⟩;exact ⟨vs,h1,(ao.aR aq _ _ ho).2 h2⟩)
  |(have key:=fun x cs=>ae.aR (w:=w) (D:=D) aq x cs
    refine exists_congr fun cs=>and_congr ?_ ?_
    ·first | exact Iff.rfl | simp only[aW,I.aR,I.isAgg]
    ·first | exact key _ cs ho | (have h:=key _ cs ho;simpa only[I.aR] using h))
mutual
/-- Values that read no memory: but they may name objects. -/
def I.cV:I→Bool
 | .agg fs | .tuple fs=>I.jb fs
 | .func _ caps=>I.jb caps
 | .iface _ v=>v.cV
 | .slice _ es=>es.isEmpty
 | .ref _ | .cW _ _=>false
 |_=>true
def I.jb:List I→Bool
 | []=>true
 |x::xs=>x.cV&&I.jb xs
end
def ai.cV:ai→Bool
 | .box x=>x.cV
 | .bE _ _ es=>I.jb es
 | .dL _ _=>true
 | .db _=>true
 | .b7 ks vs=>I.jb ks&&I.jb vs
 | .it .. =>false
mutual
theorem ae.cV{w w':World}{D D':aD}{E:aN} : ∀ (x:I) (cs:List Value),x.cV=true→ae w D E x cs→ae w' D' E x cs
 | .agg fs,cs,hf,hr=>by simp only[ae,I.cV] at *;exact az.cV fs cs hf hr
 | .bool b,cs,_,hr | .int k n,cs,_,hr | .aj s,cs,_,hr | .nilp,cs,_,hr | .c8,cs,_,hr | .cN,cs,_,hr | .any,cs,_,hr | .raw _,cs,_,hr | .nils _,cs,_,hr | .c0 _,cs,_,hr
 | .ptr _ _,cs,_,hr | .own _ _,cs,_,hr | .view _ _ _ _ _,cs,_,hr | .mref _,cs,_,hr | .cR _,cs,_,hr=>by simpa only[ae] using hr
 | .func f caps,cs,hf,hr=>by
  simp only[ae,I.cV] at *;obtain ⟨vs,h1,h2⟩:=hr;exact ⟨vs,h1,ao.cV caps vs hf h2⟩
 | .iface t v,cs,hf,hr=>by
  simp only[ae,I.cV] at *;obtain ⟨u,cs',h1,h2,h3⟩:=hr;exact ⟨u,cs',h1,h2,ae.cV v cs' hf h3⟩
 | .slice sz es,cs,hf,hr=>by
  simp only[ae,I.cV,List.isEmpty_iff] at *;subst hf;obtain ⟨a,cap,h1,h2,h3,_,h5⟩:=hr;exact ⟨a,cap,h1,h2,h3,.inl rfl,h5⟩
 | .ref _,_,hf,_ | .cW _ _,_,hf,_=>by simp[I.cV] at hf
 | .undef,_,_,hr | .cU,_,_,hr | .tuple _,_,_,hr=>by simp only[ae] at hr
theorem az.cV{w w':World}{D D':aD}{E:aN} : ∀ (xs:List I) (cs:List Value),I.jb xs=true→az w D E xs cs→az w' D' E xs cs
 | [],cs,_,hr=>by simpa only[az] using hr
 |x::xs,cs,hf,hr=>by
  simp only[az,I.jb,Z0] at *;obtain ⟨c1,c2,h1,h2,h3⟩:=hr;exact ⟨c1,c2,h1,ae.cV x c1 hf.1 h2,az.cV xs c2 hf.2 h3⟩
theorem ao.cV{w w':World}{D D':aD}{E:aN} : ∀ (xs:List I) (vs:List Value),I.jb xs=true→ao w D E xs vs→ao w' D' E xs vs
 | [],vs,_,hr=>by simpa only[ao] using hr
 |x::xs,vs,hf,hr=>by
  simp only[ao,I.jb,Z0] at *;obtain ⟨v,rest,cs,h1,h2,h3,h4⟩:=hr;exact ⟨v,rest,cs,h1,h2,ae.cV x cs hf.1 h3,ao.cV xs rest hf.2 h4⟩
end
theorem aP.cV{w w':World}{D D':aD}{E:aN}{x:I}{v:Value}(hf:x.cV=true)(hr:aP w D E x v):aP w' D' E x v:=by
 cases x <;>simp only[aP] at * <;>first
  |exact hr
  |(obtain ⟨vs,h1,h2⟩:=hr;exact ⟨vs,h1,ao.cV _ _ (by simpa[I.cV] using hf) h2⟩)
  |(obtain ⟨cs,h1,h2⟩:=hr;exact ⟨cs,h1,ae.cV _ _ hf h2⟩)
def cY(ρ:List (Nat×Nat))(os:List (Nat×ai)):List (Nat×ai):=os.map fun q=>(bo ρ q.1,q.2.aR (bo ρ))
def pre(ρ:List (Nat×Nat))(os:List (Nat×ai))(n:Nat):Option Nat:=(os.find? fun q=>bo ρ q.1==n).map (·.1)
theorem u5{os:List (Nat×ai)}{m:Nat} : aC os m=true↔∃ q∈os,q.1=m:=by
 induction os with
 |nil=>simp[aC,aH]
 |cons q os ih =>
  obtain ⟨k,v⟩:=q;simp only[aC,aH] at *;by_cases h:m=k
  ·subst h;simp
  ·simp only[if_neg h,ih,zy0,Prod.exists,exists_and_right,exists_eq_right];constructor
   ·rintro ⟨a,b⟩;exact ⟨a,.inr b⟩
   ·rintro ⟨a,b | b⟩
    ·cases b;exact absurd rfl h
    ·exact ⟨a,b⟩
theorem kS{ρ:List (Nat×Nat)}{os:List (Nat×ai)}{n m:Nat}(h:pre ρ os n=some m):aC os m=true∧bo ρ m=n:=by
 simp only[pre,t7] at h;obtain ⟨q,hq,rfl⟩:=h;exact ⟨u5.2 ⟨q,List.mem_of_find?_eq_some hq,rfl⟩,by simpa using List.find?_some hq⟩
theorem BU{ρ:List (Nat×Nat)}{os:List (Nat×ai)}{n m:Nat}(h:pre ρ os n=none)(hm:aC os m=true):bo ρ m≠n:=by
 simp only[pre,Option.map_eq_none_iff,List.find?_eq_none] at h;obtain ⟨q,hq,rfl⟩:=u5.1 hm;simpa using h q hq
theorem r5(ρ:List (Nat×Nat))(os os0:List (Nat×ai))(n:Nat):aH (cY ρ os++os0) n=match pre ρ os n with
  |some m=>(aH os m).map (ai.aR (bo ρ))
  |none=>aH os0 n:=by
 induction os with
 |nil=>simp[cY,pre]
 |cons q os ih =>
  obtain ⟨k,v⟩:=q;simp only[cY,Z4,Y2,aH,pre,List.find?_cons] at *;by_cases h:bo ρ k=n
  ·subst h;simp
  ·rw[if_neg (Ne.symm h)];have hb:(bo ρ k==n)=false:=by simpa using h
   rw[hb,ih];simp only;cases hf:os.find? (fun q=>bo ρ q.1==n) with
   |none=>rfl
   |some q =>
    simp only[Y1];have hq:=List.find?_some hf;have hne:q.1≠k:=fun e=>h (by rw[←e];simpa using hq);rw[if_neg hne]
def aq(ρ:List (Nat×Nat))(os:List (Nat×ai))(E:aN):aN:=fun n=>if aC os n then E (bo ρ n) else none
structure eM (ρ:List (Nat×Nat)) (os os0:List (Nat×ai)):Prop where
 bB:∀ m x,aH os m=some x→aH os0 (bo ρ m)=some (x.aR (bo ρ))∧x.only (aC os)=true∧x.eh=true
 inj:∀ m m',aC os m=true→aC os m'=true→bo ρ m=bo ρ m'→m=m'
structure dG (aB:Bool) (ρ:List (Nat×Nat)) (os os0:List (Nat×ai)) (r:I) (os':List (Nat×ai)):Prop where
 bB:∀ m x,aH os' m=some x→x.only (aC os')=true∧x.eh=true∧(aB=true→x.cV=true)
 inj:∀ m m',aC os' m=true→aC os' m'=true→bo ρ m=bo ρ m'→m=m'
 old:∀ m,aC os m=true→aC os' m=true
 nZ:∀ m,aC os' m=true→aC os m=false→aH os0 (bo ρ m)=none∧bo ρ m<1000000
 vR:r.only (aC os')=true∧(aB=true→r.cV=true)
section
variable {c:cm} {a:Act} {w:World} {D:aD} {E:aN} {ts:List (Nat×I)} {os0 os:List (Nat×ai)} {ρ:List (Nat×Nat)}
theorem aL.given(hs:aL c (aw ts os0) a w D E)(hg:eM ρ os os0){m:Nat}(hm:aC os m=true):∃ x e,aH os m=some x∧aq ρ os E m=some e∧E (bo ρ m)=some e∧cX (fun _=>True) w D (aq ρ os E) m (some x) ∧
  ∀ b,e.aA=some b→c.eg b∧(∃ o,w.heap[b]?=some o∧sk o=true)∧b<w.heap.size∧(e.eh=true→∀ o,¬ D b o):=by
 cases hx:aH os m with
 |none=>simp[aC,hx] at hm
 |some x =>
  obtain ⟨h1,h2,h3⟩:=hg.bB m x hx;have ho:=hs.bz (bo ρ m);simp only[aw] at ho;rw[h1] at ho;have hEm:aq ρ os E m=E (bo ρ m):=by simp only[aq,hm,if_true]
  have hin:∀ n,aC os n=true→E (bo ρ n)=aq ρ os E n:=fun n hn=>by simp only[aq,hn,if_true]
  cases x with
  |bE T sz es =>
   obtain ⟨aA,k1,k2,k3⟩:=ho;rw[qc] at k1;have h2':I.cH (aC os) es=true:=h2;have k2':∀ e∈es,e.size=sz:=fun e he=>by rw[←qb (bo ρ) e];exact k2 _ (by rw[qd];exact zz1.2 ⟨e,he,rfl⟩)
   refine ⟨_,_,rfl,hEm.trans k1,k1,⟨aA,hEm.trans k1,k2',?_⟩,fun b hb =>?_⟩
   ·cases aA with
    |none=>simp only[qd,List.map_eq_nil_iff] at k3;exact k3
    |some bc =>
     obtain ⟨b,cap⟩:=bc;obtain ⟨cs,pr,rest,q1,q2,q3,q4,q5,q6,q7,q8⟩:=k3;rw[qc] at q6;exact ⟨cs,pr,rest,trivial,q2,q3,(az.aR (p:=aC os) hin es _ h2').1 q4,q5,q6,q7,q8⟩
   ·cases aA with
    |none=>cases hb
    |some bc =>
     obtain ⟨b',cap⟩:=bc;cases hb;obtain ⟨cs,pr,rest,q1,q2,_⟩:=k3;exact ⟨q1,⟨_,q2,rfl⟩,eG q2,fun h=>by cases h⟩
  |box y =>
   obtain ⟨b,cs,T,k1,k2,k3,k4,k5⟩:=ho;rw[qa] at k1;refine ⟨_,_,rfl,hEm.trans k1,k1,⟨b,cs,T,hEm.trans k1,trivial,k3.aK (by rw[qa]),?_,k5⟩,fun b' hb =>?_⟩
   ·exact (ae.aR (p:=aC os) hin y _ (by simpa[ai.only] using h2)).1 k4
   ·cases hb;exact ⟨k2,k3.bz,k3.lt,fun _=>k5⟩
  |db o =>
   obtain ⟨b,k1,k2,k3,k4,k5⟩:=ho;exact ⟨_,_,rfl,hEm.trans k1,k1,⟨b,hEm.trans k1,trivial,k3,k4,k5⟩,fun b' hb=>by cases hb;exact ⟨k2,⟨_,k3,Vc k4⟩,eG k3,fun _=>k5⟩⟩
  |b7 ks vs =>
   obtain ⟨b,es,ck,k1,k2,k3,k4,k5,k6,k7⟩:=ho;simp only[ai.only,Z0] at h2;exact ⟨_,_,rfl,hEm.trans k1,k1,⟨b,es,ck,hEm.trans k1,trivial,k3,k4,(ao.aR (p:=aC os) hin ks _ h2.1).1 k5,(ao.aR (p:=aC os) hin vs _ h2.2).1 k6,k7⟩,
    fun b' hb=>by cases hb;exact ⟨k2,⟨_,k3,rfl⟩,eG k3,fun _=>k7⟩⟩
  |it ks vs left cur=>cases h3
  |dL T xs =>
   obtain ⟨aA,k1,k2,k3⟩:=ho;refine ⟨_,_,rfl,hEm.trans k1,k1,⟨aA,hEm.trans k1,k2,?_⟩,fun b hb =>?_⟩
   ·cases aA with
    |none=>exact k3
    |some bc =>
     obtain ⟨b,cap⟩:=bc;obtain ⟨cs,r,q1,q2⟩:=k3;exact ⟨cs,r,trivial,q2⟩
   ·cases aA with
    |none=>cases hb
    |some bc =>
     obtain ⟨b',cap⟩:=bc;cases hb;obtain ⟨cs,r,q1,q2,_⟩:=k3;exact ⟨q1,⟨_,q2,rfl⟩,eG q2,fun h=>by cases h⟩
theorem aL.rJ(hs:aL c (aw ts os0) a w D E)(hg:eM ρ os os0){b:Nat}(hb:bQ (aq ρ os E) b):∃ m e,aC os m=true∧E (bo ρ m)=some e∧e.aA=some b∧c.eg b∧(∃ o,w.heap[b]?=some o∧sk o=true)∧b<w.heap.size:=by
 obtain ⟨m,e,h1,h2⟩:=hb;by_cases hm:aC os m=true
 ·obtain ⟨x,e',k1,k2,k3,k4,k5⟩:=hs.given hg hm;rw[k2,v6] at h1;subst h1;obtain ⟨q1,q2,q3,_⟩:=k5 b h2;exact ⟨m,_,hm,k3,h2,q1,q2,q3⟩
 ·simp[aq,hm] at h1
theorem aL.Av(hs:aL c (aw ts os0) a w D E)(hg:eM ρ os os0){D1:aD}(hD:∀ b o,D b o→D1 b o)(hown:∀ b o,D1 b o→bQ (aq ρ os E) b→D b o):iR (fun _=>True) w D1 (aq ρ os E) (aH os):=by
 refine ⟨fun n =>?_,fun n m e e' b h1 h2 h3 h4 =>?_⟩
 ·cases hx:aH os n with
  |none=>simp[cX,aq,aC,hx]
  |some x =>
   have hm:aC os n=true:=by simp[aC,hx]
   obtain ⟨y,e,k1,k2,k3,k4,k5⟩:=hs.given hg hm;rw[hx,v6] at k1;subst k1;refine k4.later (E':=aq ρ os E) ⟨hD,fun _ _ _ _ h=>h,fun _ _ _ h=>h,fun _ aA l h=>⟨aA,l,h,Z5 _,fun _=>rfl⟩,fun _ _ h=>h,fun _ _ h=>h,fun _ _ _ _ h=>h⟩ rfl fun e' b' he hb'=>⟨rfl,fun o ho =>?_⟩
   exact hown b' o ho ⟨n,e',he,hb'⟩
 ·have hn:aC os n=true:=by
   by_cases h:aC os n=true;· exact h
   ·simp[aq,h] at h1
  have hm:aC os m=true:=by
    by_cases h:aC os m=true;· exact h
    ·simp[aq,h] at h2
  simp only[aq,hn,hm,if_true] at h1 h2;exact hg.inj n m hn hm (hs.cz _ _ e e' b h1 h2 h3 h4)
theorem aL.kD(hs:aL c (aw ts os0) a w D E)(hg:eM ρ os os0){aB:Bool}{D1:aD}(hD:∀ b o,D b o→D1 b o)(hbx:aB=false→∀ b o,D1 b o→D b o){w':World}{D':aD}{E':aN}{v:Value}{r:I}{os':List (Nat×ai)}
  (hb:dG aB ρ os os0 r os') (hr:aP w' D' E' r v) (hh:iR (fun b=>w.heap.size≤b∨bQ (aq ρ os E) b) w' D' E' (aH os')) (hk:er (fun b=>w.heap.size≤b∨bQ (aq ρ os E) b) w w')
  (hlive:∀ b o,D' b o→b<w'.heap.size) (hup:∀ b o,D1 b o→D' b o) (hst:fM w D1 w') (hold:∀ b o,D' b o→b<w.heap.size→¬ bQ (aq ρ os E) b→D1 b o) (hbox:∀ n e,aq ρ os E n=some e→aC os' n=true→∃ e',E' n=some e'∧e.fo e') :
  ∃ D2 E2,aL c (aw ts (cY ρ os'++os0)) a w' D2 E2∧aP w' D2 E2 (r.aR (bo ρ)) v∧∀ m e,aq ρ os E m=some e→aC os' m=true→∃ e',E2 (bo ρ m)=some e'∧e.fo e':=by
 obtain ⟨M1,hM1⟩:∃ M1:Nat→Prop,M1=fun b=>w.heap.size≤b∨bQ (aq ρ os E) b:=⟨_,rfl⟩
 rw[←hM1] at hh hk;obtain ⟨D2,hD2⟩:∃ D2:aD,D2=fun b o=>D b o∨(M1 b∧D' b o):=⟨_,rfl⟩
 obtain ⟨E2,hE2⟩:∃ E2:aN,E2=fun n=>match pre ρ os' n with | some m=>E' m | none=>E n:=⟨_,rfl⟩
 have jc:∀ b,M1 b→c.eg b:=fun b hb'=>by
  rw[hM1] at hb';rcases hb' with h | h
  ·exact .inl (Nat.le_trans hs.df.size h)
  ·obtain ⟨m,e,_,_,_,h3,_⟩:=hs.rJ hg h;exact h3
 have upD:∀ b o,D b o→D' b o:=fun b o hd=>hup b o (hD b o hd);have E2m:∀ m,aC os' m=true→E2 (bo ρ m)=E' m:=fun m hm=>by
  rw[hE2];simp only;cases hp:pre ρ os' (bo ρ m) with
  |none=>exact absurd rfl (BU hp hm)
  |some m' =>
   obtain ⟨h1,h2⟩:=kS hp;rw[hb.inj m' m h1 hm h2]
 have E2o:∀ n,pre ρ os' n=none→E2 n=E n:=fun n hn=>by rw[hE2];simp only[hn]
 -- a name that has a new meaning: one that was handed over,or one that was free
 have cas:∀ n m,pre ρ os' n=some m→(aC os m=true∧∃ e e',E n=some e∧E' m=some e'∧e.fo e')∨(aC os m=false∧E n=none∧c.cu n=none):=fun n m hp=>by
  obtain ⟨h1,h2⟩:=kS hp;cases hm:aC os m with
  |true =>
   obtain ⟨y,e,k1,k2,k3,_⟩:=hs.given hg hm;rw[h2] at k3;obtain ⟨e',q1,q2⟩:=hbox m e k2 h1;exact .inl ⟨rfl,e,e',k3,q1,q2⟩
  |false =>
   obtain ⟨k1,k2⟩:=hb.nZ m h1 hm;rw[h2] at k1 k2;have ho:=hs.bz n;simp only[aw,k1] at ho;exact .inr ⟨rfl,ho,hs.iY (.inr k2)⟩
 have hl:dh w D E w' D2 E2:=by
  have pG:∀ n e,E n=some e→∃ e',E2 n=some e'∧e.fo e':=fun n e he=>by
   cases hp:pre ρ os' n with
   |none=>exact ⟨e,by rw[E2o n hp];exact he,.refl e⟩
   |some m =>
    rw[hE2];simp only[hp];rcases cas n m hp with ⟨_,e1,e2,k1,k2,k3⟩ | ⟨_,k1,_⟩
    ·rw[he] at k1;cases k1;exact ⟨e2,k2,k3⟩
    ·rw[he] at k1;cases k1
  have keepf:∀ n e,E n=some e→e.eh=true→E2 n=some e:=fun n e he hf=>by
   obtain ⟨e',k1,k2⟩:=pG n e he;rw[k1,k2.eq hf]
  refine ⟨fun b o h=>by rw[hD2];exact .inl h,fun b o v' hd hv=>hst.cell b o v' (hD b o hd) hv,fun n b aK he=>keepf n _ he rfl,fun n aA l he =>?_,fun n b he=>keepf n _ he rfl,fun n b he=>keepf n _ he rfl,fun b es ck hd hm=>hst.ik b es ck (hD b 0 hd) hm⟩;obtain ⟨e',k1,k2⟩:=pG n _ he;rcases k2 with rfl | ⟨_,_,blk',l',e,rfl,k3,k4⟩
  ·exact ⟨aA,l,k1,Z5 _,fun _=>rfl⟩
  ·cases e;exact ⟨blk',l',k1,k3,k4⟩
 -- blocks of names that were not handed over
 have other:∀ n e b,pre ρ os' n=none→E n=some e→e.aA=some b→¬ M1 b:=fun n e b hp he hb' hm=>by
  rw[hM1] at hm;rcases hm with h | h
  ·exact absurd (hs.eW he hb') (by omega)
  ·obtain ⟨m,e',h1,h2,h3,_⟩:=hs.rJ hg h;have:=hs.cz n (bo ρ m) e _ b he h2 hb' h3;exact BU hp (hb.old m h1) this.symm
 have toD2:∀ {x:I} {cs:List Value},(aB=true→x.cV=true)→ae w' D' E2 x cs→ae w' D2 E2 x cs:=fun {x cs} hx h=>by
  cases hbb:aB with
  |true=>exact ae.cV x cs (hx hbb) h
  |false =>
   refine ae.later (E:=E2) ⟨fun b o hd =>?_,fun _ _ _ _ h=>h,fun _ _ _ h=>h,fun _ aA l h=>⟨aA,l,h,Z5 _,fun _=>rfl⟩,fun _ _ h=>h,fun _ _ h=>h,fun _ _ _ _ h=>h⟩ x cs h;rw[hD2];by_cases hm:M1 b
   ·exact .inr ⟨hm,hd⟩
   ·rw[hM1] at hm;exact .inl (hbx hbb b o (hold b o hd (Nat.lt_of_not_le fun h=>hm (.inl h)) fun h=>hm (.inr h)))
 have toD2c:∀ {xs:List I} {cs:List Value},I.cH (aC os') xs=true→(aB=true→I.jb xs=true)→az w' D' E' xs cs→az w' D2 E2 (I.cT (bo ρ) xs) cs:=fun {xs cs} ho hx h=>by
  cases hbb:aB with
  |true=>exact (az.aR (w:=w') (D:=D2) (p:=aC os') (ρ:=bo ρ) (E:=E') (E':=E2) (fun n hn=>E2m n hn) xs cs ho).2 (az.cV xs cs (hx hbb) h)
  |false =>
   have h2:=(az.aR (w:=w') (D:=D') (p:=aC os') (ρ:=bo ρ) (E:=E') (E':=E2) (fun n hn=>E2m n hn) xs cs ho).2 h;refine az.later (E:=E2) ⟨fun b o hd =>?_,fun _ _ _ _ h=>h,fun _ _ _ h=>h,fun _ aA l h=>⟨aA,l,h,Z5 _,fun _=>rfl⟩,fun _ _ h=>h,fun _ _ h=>h,fun _ _ _ _ h=>h⟩ _ cs h2;rw[hD2];by_cases hm:M1 b
   ·exact .inr ⟨hm,hd⟩
   ·rw[hM1] at hm;exact .inl (hbx hbb b o (hold b o hd (Nat.lt_of_not_le fun h=>hm (.inl h)) fun h=>hm (.inr h)))
 have toD2s:∀ {xs:List I} {cs:List Value},I.cH (aC os') xs=true→(aB=true→I.jb xs=true)→ao w' D' E' xs cs→ao w' D2 E2 (I.cT (bo ρ) xs) cs:=fun {xs cs} ho hx h=>by
  cases hbb:aB with
  |true=>exact (ao.aR (w:=w') (D:=D2) (p:=aC os') (ρ:=bo ρ) (E:=E') (E':=E2) (fun n hn=>E2m n hn) xs cs ho).2 (ao.cV xs cs (hx hbb) h)
  |false =>
   have h2:=(ao.aR (w:=w') (D:=D') (p:=aC os') (ρ:=bo ρ) (E:=E') (E':=E2) (fun n hn=>E2m n hn) xs cs ho).2 h;refine ao.later (E:=E2) ⟨fun b o hd =>?_,fun _ _ _ _ h=>h,fun _ _ _ h=>h,fun _ aA l h=>⟨aA,l,h,Z5 _,fun _=>rfl⟩,fun _ _ h=>h,fun _ _ h=>h,fun _ _ _ _ h=>h⟩ _ cs h2;rw[hD2];by_cases hm:M1 b
   ·exact .inr ⟨hm,hd⟩
   ·rw[hM1] at hm;exact .inl (hbx hbb b o (hold b o hd (Nat.lt_of_not_le fun h=>hm (.inl h)) fun h=>hm (.inr h)))
 refine ⟨D2,E2,⟨hs.sz,hs.ec.mono fun B _ hB =>?_,fun t=>aP.later hl (hs.dB t),hs.df.trans ⟨hk.os,hk.tape,hk.output,hk.size,fun k hk'=>hk.block k fun h=>hk' (jc k h)⟩,fun b o hd hm =>?_,fun b o hd =>?_,fun n =>?_,?_,fun n e hn =>?_,hs.eF,
  fun b o hd=>hl.cI b o (hs.cw b o hd),hs.eI,hs.jL hl⟩,?_,fun m e k1 k3=>by rw[E2m m k3];exact hbox m e k1 k3⟩
 ·refine (hk.block B fun hm =>?_).trans hB;rw[hM1] at hm;rcases hm with h | h
  ·exact absurd (Y3.1 hB).1 (by omega)
  ·obtain ⟨m,e,_,_,_,_,⟨o,h4,h5⟩,_⟩:=hs.rJ hg h;rw[hB] at h4;cases h4;cases h5
 ·rw[hD2] at hd;rcases hd with hd | ⟨h1,_⟩
  ·exact hs.cI b o hd hm
  ·exact absurd (jc b h1) hm
 ·rw[hD2] at hd;rcases hd with hd | ⟨_,h1⟩
  ·exact Nat.lt_of_lt_of_le (hs.cL b o hd) hk.size
  ·exact hlive b o h1
 ·simp only[aw,r5];cases hp:pre ρ os' n with
  |none =>
   simp only;refine (hs.bz n).later hl (E2o n hp) fun e b he hb'=>⟨hk.block b (other n e b hp he hb'),fun o ho =>?_⟩
   rw[hD2] at ho;rcases ho with ho | ⟨h1,_⟩
   ·exact ho
   ·exact absurd h1 (other n e b hp he hb')
  |some m =>
   simp only;obtain ⟨h1,h2⟩:=kS hp;cases hx:aH os' m with
   |none=>simp[aC,hx] at h1
   |some x =>
    obtain ⟨k1,kf,k2⟩:=hb.bB m x hx;have ho:=hh.bz m;rw[hx] at ho;have noD:∀ b,(∀ o,¬ D' b o)→∀ o,¬ D2 b o:=fun b hno o ho=>by
     rw[hD2] at ho;rcases ho with ho | ⟨_,ho⟩
     ·exact hno o (upD b o ho)
     ·exact hno o ho
    cases x with
    |bE T sz es =>
     obtain ⟨aA,q1,q2,q3⟩:=ho;simp only[Y1,ai.aR,cX,qc];refine ⟨aA,by rw[←h2,E2m m h1];exact q1,fun e he =>?_,?_⟩
     ·rw[qd] at he;obtain ⟨e',he',rfl⟩:=zz1.1 he;rw[qb];exact q2 e' he'
     ·cases aA with
      |none=>simp only at q3 ⊢;rw[q3];rfl
      |some bc =>
       obtain ⟨b,cap⟩:=bc;obtain ⟨cs,pr,rest,g1,g2,g3,g4,g5,g6,g7,g8⟩:=q3;refine ⟨cs,pr,rest,jc b g1,g2,g3,toD2c (by simpa[ai.only] using k1) (fun h=>by simpa[ai.cV] using k2 h) g4,g5,g6,g7,fun o ho =>?_⟩;rw[hD2] at ho;rcases ho with ho | ⟨_,ho⟩
       ·exact g8 o (upD b o ho)
       ·exact g8 o ho
    |dL T xs =>
     obtain ⟨aA,q1,q2,q3⟩:=ho;simp only[Y1,ai.aR,cX];refine ⟨aA,by rw[←h2,E2m m h1];exact q1,q2,?_⟩;cases aA with
     |none=>exact q3
     |some bc =>
      obtain ⟨b,cap⟩:=bc;obtain ⟨cs,r,g1,g2,g3,g4,g5,g6,g7⟩:=q3;exact ⟨cs,r,jc b g1,g2,g3,g4,g5,g6,noD b g7⟩
    |db x =>
     obtain ⟨b,q1,q2,q3,q4,q5⟩:=ho;simp only[Y1,ai.aR,cX];exact ⟨b,by rw[←h2,E2m m h1];exact q1,jc b q2,q3,q4,noD b q5⟩
    |it ks vs left cur=>cases kf
    |b7 ks vs =>
     obtain ⟨b,es,ck,q1,q2,q3,q4,q5,q6,q7⟩:=ho;simp only[Y1,ai.aR,cX];simp only[ai.only,Z0] at k1;simp only[ai.cV,Z0] at k2;exact ⟨b,es,ck,by rw[←h2,E2m m h1];exact q1,jc b q2,q3,q4,toD2s k1.1 (fun h=>(k2 h).1) q5,toD2s k1.2 (fun h=>(k2 h).2) q6,noD b q7⟩
    |box y =>
     obtain ⟨b,cs,T,q1,q2,q3,q4,q5⟩:=ho;simp only[Y1,ai.aR,cX];refine ⟨b,cs,T,by rw[qa,←h2,E2m m h1];exact q1,jc b q2,q3.aK (by rw[qa]),?_,noD b q5⟩;have h3:=(ae.aR (w:=w') (D:=D') (p:=aC os') (ρ:=bo ρ) (E:=E') (E':=E2) (fun n hn=>E2m n hn) y cs.toList (by simpa[ai.only] using k1)).2 q4;cases hbb:aB with
     |true =>
      have h4:ae w' D2 E' y cs.toList:=ae.cV y _ (k2 hbb) q4;exact (ae.aR (w:=w') (D:=D2) (p:=aC os') (ρ:=bo ρ) (E:=E') (E':=E2) (fun n hn=>E2m n hn) y cs.toList (by simpa[ai.only] using k1)).2 h4
     |false=>exact toD2 (fun h=>by rw[hbb] at h;cases h) h3
 ·intro n m e e' b h1 h2 h3 h4;have blk':∀ n m e,pre ρ os' n=some m→E2 n=some e→e.aA=some b→M1 b∧E' m=some e:=fun n m e hp he hb'=>by
   obtain ⟨k1,k2⟩:=kS hp;rw[←k2,E2m m k1] at he;cases hx:aH os' m with
   |none=>simp[aC,hx] at k1
   |some x =>
    obtain ⟨_,kf,_⟩:=hb.bB m x hx;have ho:=hh.bz m;rw[hx] at ho;cases x with
    |bE T sz es =>
     obtain ⟨aA,q1,q2,q3⟩:=ho;rw[q1,v6] at he;subst he;cases aA with
     |none=>cases hb'
     |some bc =>
      obtain ⟨b',cap⟩:=bc;cases hb';obtain ⟨cs,pr,rest,g1,_⟩:=q3;exact ⟨g1,q1⟩
    |it ks vs left cur=>cases kf
    |dL T xs =>
     obtain ⟨aA,q1,q2,q3⟩:=ho;rw[q1,v6] at he;subst he;cases aA with
     |none=>cases hb'
     |some bc =>
      obtain ⟨b',cap⟩:=bc;cases hb';obtain ⟨cs,r,g1,_⟩:=q3;exact ⟨g1,q1⟩
    |b7 ks vs =>
     obtain ⟨b',es,ck,q1,q2,_⟩:=ho;rw[q1,v6] at he;subst he;cases hb';exact ⟨q2,q1⟩
    |db x =>
     obtain ⟨b',q1,q2,_⟩:=ho;rw[q1,v6] at he;subst he;cases hb';exact ⟨q2,q1⟩
    |box y =>
     obtain ⟨b',cs,T,q1,q2,_⟩:=ho;rw[q1,v6] at he;subst he;cases hb';exact ⟨q2,q1⟩
  cases hn:pre ρ os' n with
  |none =>
   have g1:E n=some e:=by rw[←E2o n hn];exact h1
   cases hm:pre ρ os' m with
   |none=>exact hs.cz n m e e' b g1 (by rw[←E2o m hm];exact h2) h3 h4
   |some m'=>exact absurd (blk' m m' e' hm h2 h4).1 (other n e b hn g1 h3)
  |some n' =>
   have g1:=blk' n n' e hn h1 h3;cases hm:pre ρ os' m with
   |none=>exact absurd g1.1 (other m e' b hm (by rw[←E2o m hm];exact h2) h4)
   |some m' =>
    have g2:=blk' m m' e' hm h2 h4;have:=hh.cz n' m' e e' b g1.2 g2.2 h3 h4;rw[←(kS hn).2,←(kS hm).2,this]
 ·cases hp:pre ρ os' n with
  |none=>rw[E2o n hp];exact hs.dy n e hn
  |some m =>
   rcases cas n m hp with ⟨_,e1,e2,k1,k2,k3⟩ | ⟨_,_,k1⟩
   ·rcases hs.dy n e hn with h | ⟨e3,h,h'⟩
    ·rw[h] at k1;cases k1
    ·rw[k1,v6] at h;subst h
     right
     rw[hE2];simp only[hp];exact ⟨e2,k2,h'.trans k3⟩
   ·rw[hn] at k1;cases k1
 ·have h3:=(aP.aR (w:=w') (p:=aC os') (ρ:=bo ρ) (E:=E') (E':=E2) (D:=D') (fun n hn=>E2m n hn) (v:=v) hb.vR.1).2 hr;cases hbb:aB with
  |true=>exact (aP.aR (w:=w') (p:=aC os') (ρ:=bo ρ) (E:=E') (E':=E2) (D:=D2) (fun n hn=>E2m n hn) (v:=v) hb.vR.1).2 (aP.cV (hb.vR.2 hbb) hr)
  |false =>
   refine aP.later (E:=E2) ⟨fun b o hd =>?_,fun _ _ _ _ h=>h,fun _ _ _ h=>h,fun _ aA l h=>⟨aA,l,h,Z5 _,fun _=>rfl⟩,fun _ _ h=>h,fun _ _ h=>h,fun _ _ _ _ h=>h⟩ h3;rw[hD2];by_cases hm:M1 b
   ·exact .inr ⟨hm,hd⟩
   ·rw[hM1] at hm;exact .inl (hbx hbb b o (hold b o hd (Nat.lt_of_not_le fun h=>hm (.inl h)) fun h=>hm (.inr h)))
end
theorem tk(z:Array Value):∀ n:Nat,(Builtin.zeroCells z n).toList=(List.replicate n z.toList).flatten
 |0=>by simp[Builtin.zeroCells]
 |n+1=>by
  rw[List.replicate_succ,List.flatten_cons,←tk z n];apply List.ext_getElem?;intro i;by_cases hz:z.size=0
  ·have hz':z = #[]:=Array.eq_empty_of_size_eq_zero hz;subst hz';simp[Builtin.zeroCells]
  have hpos:0<z.size:=Nat.pos_of_ne_zero hz;by_cases hi:i<z.toList.length
  ·rw[zz7 hi];have hi':i<z.size:=by simpa using hi
   have h1:i<(n+1)*z.size:=by rw[Nat.succ_mul];omega
   simp only[Builtin.zeroCells,Array.toList_map,Array.toList_range,zz6,List.getElem?_range h1,Y1,Nat.mod_eq_of_lt hi'];simp[hi']
  ·rw[List.getElem?_append_right (by omega)];have hi':z.size≤i:=by simpa using hi
   simp only[Builtin.zeroCells,Array.toList_map,Array.toList_range,zz6,zz5];by_cases h2:i<(n+1)*z.size
   ·have h3:i-z.size<n*z.size:=by rw[Nat.succ_mul] at h2;omega
    rw[List.getElem?_range h2,List.getElem?_range h3];simp only[Y1];rw[←Nat.mod_eq_sub_mod hi']
   ·have h3:¬ i-z.size<n*z.size:=by rw[Nat.succ_mul] at h2;omega
    rw[List.getElem?_eq_none (by simpa using h2),List.getElem?_eq_none (by simpa using h3)]
theorem p7{w:World}{D:aD}{E:aN}{z:I}{cs:List Value}(h:ae w D E z cs):∀ n:Nat,az w D E (List.replicate n z) (List.replicate n cs).flatten
 |0=>by simp[az]
 |n+1=>by
  simp only[List.replicate_succ,List.flatten_cons,az];exact ⟨cs,_,rfl,h,p7 h n⟩
section
variable {c:cm} {A:ab} {a:Act} {w:World} {D:aD} {E:aN}
theorem aL.view(h:aL c A a w D E){n:Nat}{p:List Nat}{sz lo k:Nat}{v:Value}{fs:List I}(hv:aP w D E (.view n p sz lo k) v)(hx:bO A (.ptr n p)=some (.agg fs)) :
  ∃ y b cs T off c1 c2 c3,A.o n=some (.box y)∧E n=some (.aB b y.aK)∧dZ w b cs T y.aK∧y.at p=some (.agg fs)∧y.aK.off p=some off∧cs.toList=c1++c2++c3∧c1.length=off∧az w D E fs c2 ∧
   ae w D E y cs.toList∧(∀ f∈fs,f.size=sz)∧lo+k≤fs.length∧fs.length≤maxLen∧v=.slice (some ⟨b,off+lo*sz,none⟩) k (fs.length-lo):=by
 obtain ⟨z,b',cs',T,off',c1,c2,c3,k1,k2,_,k3,k4,k5,k6,k7,k8,k9,_⟩:=h.at hx;obtain ⟨vs,g1,g2⟩:=hv;simp only[ae] at g2;obtain ⟨b,aK,off,l,h1,h2,h3,h4,h5,h6,h7⟩:=g2;rw[k2] at h1;simp only[v6,br.aB.injEq] at h1;obtain ⟨rfl,rfl⟩:=h1;rw[k5,v6] at h2;subst h2;rw[lg p z _ k4] at h3;simp only[I.aK,v6,bL.eJ.injEq] at h3;subst h3;rw[I.cF,Z2] at h4 h5 h6;refine ⟨z,b',cs',T,off',c1,c2,c3,k1,k2,k3,k4,k5,k6,k7,by simpa only[ae] using k8,k9,DM h7,h6,h5,?_⟩;simpa[aW,I.isAgg,h4] using g1.symm
theorem aL.ln(h:aL c A a w D E){sz:Nat}{x:I}{v:Value}{ys:List I}(hv:aP w D E x v)(hs:cO A sz x=some ys) :
  ∃ ad cp news,v=.slice ad ys.length cp∧ys.length≤cp∧cp≤maxLen∧az w D E ys news∧(∀ y∈ys,y.size=sz)∧(ys≠[]→∃ b o,ad=some ⟨b,o,none⟩∧∀ j u,news[j]?=some u→w.cell? ⟨b,o+j,none⟩=some u):=by
 cases x <;>simp only[cO] at hs <;>try (cases hs;done)
 case nils z =>
  simp only[v6] at hs;subst hs;obtain ⟨cs,q1,q2⟩:=hv;simp only[ae] at q2;exact ⟨none,0,[],by simpa[aW,I.isAgg,q2] using q1.symm,by simp,by simp[maxLen],by simp[az],by simp,fun h=>absurd rfl h⟩
 case c0 z =>
  simp only[v6] at hs;subst hs;obtain ⟨cs,q1,q2⟩:=hv;simp only[ae] at q2;obtain ⟨ad,q2⟩:=q2;exact ⟨ad,0,[],by simpa[aW,I.isAgg,q2] using q1.symm,by simp,by simp[maxLen],by simp[az],by simp,fun h=>absurd rfl h⟩
 case slice z es =>
  split at hs
  ·rename_i hz;simp only[v6] at hs;subst hs hz;obtain ⟨ad,cap,e1,e2,e3,e4,e5⟩:=ke hv;rcases e4 with rfl | ⟨b,off,cs,rfl,q1,q2⟩
   ·exact ⟨ad,cap,[],e1,e2,e3,by simp[az],by simp,fun h=>absurd rfl h⟩
   ·exact ⟨_,cap,cs,e1,e2,e3,q2,e5,fun _=>⟨b,off,rfl,fun j u hj=>(q1 j u hj).1⟩⟩
  ·cases hs
 case own n l =>
  split at hs
  ·rename_i T z es hn;split at hs
   ·rename_i hz;obtain ⟨hz1,rfl⟩:=hz;simp only[v6] at hs;subst hs;obtain ⟨aA,k1,k2,k3⟩:=h.bE hn;obtain ⟨cs,q1,q2⟩:=hv;simp only[ae] at q2;obtain ⟨blk',l',g1,g2,_,g4⟩:=q2;rw[k1] at g1;simp only[v6,br.rw.injEq] at g1;obtain ⟨rfl,rfl⟩:=g1
    replace g4:=g4 hz1
    cases aA with
    |none =>
     simp only at k3 g4;subst k3;have hv':v=.slice none 0 0:=by rw[g4] at q1;simpa[aW,I.isAgg] using q1.symm
     exact ⟨none,0,[],hv',by simp,by simp[maxLen],by simp[az],by simp,fun h=>absurd rfl h⟩
    |some bc =>
     obtain ⟨b,cap⟩:=bc;simp only at g4;obtain ⟨cs',pre,rest,k4,k5,k6,k7,k8,k9,k10,k11⟩:=k3;refine ⟨some ⟨b,0,none⟩,cap,pre,by rw[←hz1];simpa[aW,I.isAgg,g4] using q1.symm,k9,k10,k7,k2,fun _=>⟨b,0,rfl,fun j u hj =>?_⟩⟩;have:=(sN (D:=fun _ _=>True) (c1:=[]) (c2:=pre) (c3:=rest) k5 (by simpa using k6) (fun _ _=>trivial)) j u hj;simpa using this.1
   ·cases hs
  ·cases hs
 case view n p z lo k =>
  split at hs
  ·rename_i fs hx;split at hs
   ·rename_i hk;obtain ⟨hk,rfl⟩:=hk;simp only[v6] at hs;subst hs;obtain ⟨y,b,cs,T,off,c1,c2,c3,k1,k2,k3,k4,k5,k6,k7,k8,k9,k10,k11,k12,rfl⟩:=h.view hv hx;obtain ⟨d1,d2,d3,rfl,q1,q2,q3⟩:=sL k8 k10 lo k hk;have hlen:((fs.drop lo).take k).length=k:=by rw[Z6,List.length_drop];omega
    refine ⟨some ⟨b,off+lo*z,none⟩,fs.length-lo,d2,by rw[hlen],by rw[hlen];omega,by omega,q2,fun y hy=>k10 y (List.mem_of_mem_drop (List.mem_of_mem_take hy)),fun _=>⟨b,_,rfl,fun j u hj =>?_⟩⟩;have:=(sM (D:=fun _ _=>True) (c1:=c1++d1) (c2:=d2) (c3:=d3++c3) k3 (by rw[k6];simp) (fun _ _=>trivial)) j u hj;rw[Z1,k7,q1] at this;exact this.1
   ·cases hs
  ·cases hs
theorem aL.gZ(h:aL c A a w D E){n:Nat}{p:List Nat}{sz j:Nat}{y:I}{fs ys:List I}{b off:Nat}{cs:Array Value}{T:TypeId}{c1 c2 c3 ds:List Value}(hn:A.o n=some (.box y))(aq:E n=some (.aB b y.aK))(hb:dZ w b cs T y.aK)
  (hat:y.at p=some (.agg fs)) (hoff:y.aK.off p=some off) (hcs:cs.toList=c1++c2++c3) (hc1:c1.length=off) (hfs:az w D E fs c2) (hy:ae w D E y cs.toList) (hsz:∀ f∈fs,f.size=sz) (hys:az w D E ys ds) (hj:j+ys.length≤fs.length)
  (hsh:I.cK ys=I.cK ((fs.drop j).take ys.length)) (P:Program) :
  ∃ w',(storeCells ⟨b,off+j*sz,none⟩ ds 0).run P w=.ok () w'∧aL c (A.aO n (.box (y.dz p (.agg (fs.take j++(ys++fs.drop (j+ys.length))))))) a w' D E:=by
 obtain ⟨d1,d2,d3,rfl,q1,q2,q3⟩:=sL hfs hsz j ys.length hj;have hd1:az w D E (fs.take j) d1:=by
  have e1:fs=fs.take j++fs.drop j:=(zy4 j fs).symm;rw[e1] at hfs;obtain ⟨e1,e2,he,k1,k2⟩:=sK _ _ _ hfs;have hl:e1.length=d1.length:=by
   rw[az.length _ _ k1,I.fY _ (fun x hx=>hsz x (List.mem_of_mem_take hx)),q1,Z6];congr 1;omega
  have:e1=d1:=by
   have:=congrArg (List.take d1.length) he;rw[zy7,←hl,zy7] at this;exact this.symm
  rw[←this];exact k1
 have hlen:ds.length=d2.length:=by rw[az.length _ _ hys,az.length _ _ q2,←I.lh,←I.lh,hsh]
 have hds:ae w D E (.agg (fs.take j++(ys++fs.drop (j+ys.length)))) (d1++(ds++d3)):=by
  simp only[ae];refine iK _ _ _ _ hd1 (iK _ _ _ _ hys ?_);rw[List.drop_drop] at q3;exact q3
 have hshape:(I.agg (fs.take j++(ys++fs.drop (j+ys.length)))).aK=(I.agg fs).aK:=by
  simp only[I.aK,bL.eJ.injEq,I.cF,zz8];rw[←I.cF ys,hsh,I.cF,←zz8,←zz8]
  congr 1
  rw[←List.drop_drop,zy4,zy4]
 obtain ⟨off',g1,g2,g3,g4⟩:=sI p y _ _ _ _ hy hat hds hshape;rw[hoff,v6] at g1;subst g1;have hst:=sU P b (off+j*sz) T ds 0 cs w hb (by
  have:cs.size=cs.toList.length:=by simp
  rw[this,hcs];simp only[Z1];omega) (az.j6 _ _ hys)
 simp only[Nat.add_zero] at hst;refine ⟨_,hst,?_⟩;refine h.wj hn aq g4 ?_;have e:cs.toList.take (off+j*sz)++ds++cs.toList.drop (off+j*sz+ds.length)=cs.toList.take off++(d1++(ds++d3))++cs.toList.drop (off+(d1++(ds++d3)).length):=by
  rw[hcs];have t1:(c1++(d1++(d2++d3))++c3).take (off+j*sz)=c1++d1:=by
   rw[←hc1,←q1,Z3,List.take_length_add_append,Z3,zy7]
  have t2:(c1++(d1++(d2++d3))++c3).drop (off+j*sz+ds.length)=d3++c3:=by
   rw[←hc1,←q1,hlen,Z3,Nat.add_assoc,List.drop_length_add_append,Z3,List.drop_length_add_append,Z3,List.drop_left]
  have t3:(c1++(d1++(d2++d3))++c3).take off=c1:=by rw[←hc1,Z3,zy7]
  have t4:(c1++(d1++(d2++d3))++c3).drop (off+(d1++(ds++d3)).length)=c3:=by
   have:(d1++(ds++d3)).length=(d1++(d2++d3)).length:=by simp[hlen]
   rw[this,←hc1,Z3,List.drop_length_add_append,List.drop_left]
  rw[t1,t2,t3,t4];simp
 rw[e];simpa using g3
end
end Go.Abs
