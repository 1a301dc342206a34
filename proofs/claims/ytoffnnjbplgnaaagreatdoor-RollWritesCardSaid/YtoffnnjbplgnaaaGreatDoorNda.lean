/-
  A part of the proof that the law RollWrites returns true for every input; five variables of Go's library start as the text lays them (the card ties them); conditions: none beyond the statement's own. (part 1 of 6)
-/
import Derived.WalkKit
import Derived.Orders
import Derived.Still
import Derived.RangeFuncSeq
import Derived.RangeFuncLeaves
import Derived.RangeFuncOwn
import Derived.Great.FillDense
import Derived.Great.BuildSlice
import Derived.Laws.CopyRow
import Derived.ChangeKeysEq
import Derived.Laws.AppendOwn
set_option linter.unusedSimpArgs false
set_option linter.unusedVariables false
set_option maxHeartbeats 16000000
set_option maxRecDepth 100000
namespace Go
theorem y6:type_of% @And.intro:=@And.intro
theorem v6:type_of% @Option.some.injEq:=@Option.some.injEq
theorem t7:type_of% @Option.map_eq_some_iff:=@Option.map_eq_some_iff
theorem t8:type_of% @Nat.le_of_ble_eq_true:=@Nat.le_of_ble_eq_true
theorem Z0:type_of% @Bool.and_eq_true:=@Bool.and_eq_true
theorem Z1:type_of% @List.length_append:=@List.length_append
theorem Z2:type_of% @List.length_map:=@List.length_map
theorem Z3:type_of% @List.map_cons:=@List.map_cons
theorem Z4:type_of% @Nat.zero_add:=@Nat.zero_add
theorem Z5:type_of% @Bool.false_eq_true:=@Bool.false_eq_true
theorem Z6:type_of% @List.getElem?_eq_some_iff:=@List.getElem?_eq_some_iff
theorem Z7:type_of% @Nat.le_refl:=@Nat.le_refl
theorem Z8:type_of% @List.append_assoc:=@List.append_assoc
theorem Z9:type_of% @Option.map_some:=@Option.map_some
theorem Y0:type_of% @List.length_take:=@List.length_take
theorem Y1:type_of% @List.getElem?_eq_getElem:=@List.getElem?_eq_getElem
theorem Y2:type_of% @Array.getElem?_eq_some_iff:=@Array.getElem?_eq_some_iff
theorem Y3:type_of% @List.cons_append:=@List.cons_append
theorem Y4:type_of% @Option.isSome_iff_exists:=@Option.isSome_iff_exists
theorem Y5:type_of% @List.getElem?_append_left:=@List.getElem?_append_left
theorem Y6:type_of% @List.nil_append:=@List.nil_append
theorem Y7:type_of% @List.cons.injEq:=@List.cons.injEq
theorem Y8:type_of% @List.getD_eq_getElem?_getD:=@List.getD_eq_getElem?_getD
theorem Y9:type_of% @Int.eq_ofNat_of_zero_le:=@Int.eq_ofNat_of_zero_le
theorem zz0:type_of% @List.map_nil:=@List.map_nil
theorem zz1:type_of% @Array.getElem?_toList:=@Array.getElem?_toList
theorem zz2:type_of% @List.getElem?_map:=@List.getElem?_map
theorem zz3:type_of% @List.mem_map:=@List.mem_map
theorem zz4:type_of% @Option.map_none:=@Option.map_none
theorem zz5:type_of% @Array.length_toList:=@Array.length_toList
theorem zz6:type_of% @List.all_eq_true:=@List.all_eq_true
theorem zz7:type_of% @List.mem_append:=@List.mem_append
theorem zz8:type_of% @List.length_nil:=@List.length_nil
theorem zz9:type_of% @List.map_append:=@List.map_append
theorem zy0:type_of% @List.mem_cons:=@List.mem_cons
theorem zy1:type_of% @List.length_cons:=@List.length_cons
theorem zy2:type_of% @List.mem_singleton:=@List.mem_singleton
theorem zy3:type_of% @List.eq_nil_of_length_eq_zero:=@List.eq_nil_of_length_eq_zero
theorem zy4:type_of% @List.getElem?_append_right:=@List.getElem?_append_right
theorem zy5:type_of% @Option.bind_eq_some_iff:=@Option.bind_eq_some_iff
theorem zy6:type_of% @Array.getElem?_eq_getElem:=@Array.getElem?_eq_getElem
theorem zy7:type_of% @Nat.lt_of_lt_of_le:=@Nat.lt_of_lt_of_le
theorem zy8:type_of% @List.mem_of_mem_take:=@List.mem_of_mem_take
theorem zy9:type_of% @Nat.zero_le:=@Nat.zero_le
end Go
namespace Go.Abs
open Go
inductive I where
 |undef | cU
 |bool (b:Bool)
 |int (k:IntKind) (n:Int)
 |aj (s:ByteArray)
 |nilp | cZ | cL
 |any
 |raw (v:Value)
 |nils (sz:Nat)
 |c0 (sz:Nat)
 |slice (sz:Nat) (es:List I)
 |agg (fs:List I)
 |tuple (fs:List I)
 |ref (c:I)
 |func (f:FuncId) (caps:List I)
 |iface (t:TypeId) (v:I)
 |ptr (n:Nat) (p:List Nat)
 |own (n:Nat) (k:Nat)
 |view (n:Nat) (p:List Nat) (sz lo k:Nat)
 |mref (n:Nat)
 |cR (n:Nat)
 |cW (ks vs:List I)
 deriving Inhabited
inductive bM where
 |one
 |eC (l:List bM)
 deriving Inhabited
mutual
def bM.size:bM→Nat
 | .one=>1
 | .eC l=>bM.sizes l
def bM.sizes:List bM→Nat
 | []=>0
 |s::l=>s.size+bM.sizes l
end
mutual
def I.aK:I→bM
 | .agg fs=>.eC (I.cE fs)
 |_=>.one
def I.cE:List I→List bM
 | []=>[]
 |f::fs=>f.aK::I.cE fs
end
mutual
def I.size:I→Nat
 | .agg fs=>I.sizes fs
 |_=>1
def I.sizes:List I→Nat
 | []=>0
 |f::fs=>f.size+I.sizes fs
end
def I.isAgg:I→Bool
 | .agg _=>true
 |_=>false
def bM.off:bM→List Nat→Option Nat
 |_,[]=>some 0
 | .one,_::_=>none
 | .eC l,i::p=>match l[i]? with
  |some s=>(s.off p).map (bM.sizes (l.take i) + ·)
  |none=>none
def bM.part:bM→List Nat→Option bM
 |s,[]=>some s
 | .one,_::_=>none
 | .eC l,i::p=>match l[i]? with
  |some s=>s.part p
  |none=>none
def I.at:I→List Nat→Option I
 |c,[]=>some c
 | .agg fs,i::p=>match fs[i]? with
  |some f=>f.at p
  |none=>none
 |_,_::_=>none
def I.dp:I→List Nat→I→I
 |_,[],v=>v
 | .agg fs,i::p,v=>match fs[i]? with
  |some f=>.agg (fs.set i (f.dp p v))
  |none=>.agg fs
 |c,_::_,_=>c
inductive bu where
 |aB (b:Nat) (aK:bM)
 |rw (aA:Option (Nat×Nat)) (len:Nat)
 |op (b:Nat)
 |bZ (b:Nat)
 |it (b:Nat)
def bu.ed:bu→Bool
 | .rw _ _=>false
 |_=>true
def bu.e8(e e':bu):Prop:=e'=e∨∃ aA l blk' l',e=.rw aA l∧e'=.rw blk' l'∧l≤l'∧(l'=l→blk'=aA)
theorem bu.e8.refl(e:bu):e.e8 e:=.inl rfl
theorem bu.e8.eq{e e':bu}(h:e.e8 e')(hf:e.ed=true):e'=e:=by
 rcases h with h | ⟨aA,l,blk',l',rfl,_⟩
 ·exact h
 ·cases hf
theorem bu.e8.trans{a b c:bu}(h:a.e8 b)(k:b.e8 c):a.e8 c:=by
 rcases h with rfl | ⟨aA,l,blk',l',rfl,rfl,h1,h2⟩
 ·exact k
 ·rcases k with rfl | ⟨_,_,blk2,l2,e,rfl,h3,h4⟩
  ·exact .inr ⟨aA,l,blk',l',rfl,rfl,h1,h2⟩
  ·cases e;exact .inr ⟨aA,l,blk2,l2,rfl,rfl,by omega,fun e=>by rw[h4 (by omega),h2 (by omega)]⟩
abbrev aJ:=Nat→Nat→Prop
abbrev aM:=Nat→Option bu
def reads(w:World)(D:aJ)(b off:Nat)(cs:List Value):Prop :=
 ∀ j v,cs[j]?=some v→w.cell? ⟨b,off+j,none⟩=some v∧D b (off+j)
def nh(es:Array MapEntry)(clock:Nat):Prop:=(∀ x∈es.toList,x.born<clock)∧(es.toList.map (·.born)).Nodup
def mE(w:World)(D:aJ)(b:Nat)(es:Array MapEntry)(clock:Nat):Prop:=w.heap[b]?=some (.map es clock)∧D b 0∧nh es clock
def aY(e:I)(v:Value)(cs:List Value):Prop:=if e.isAgg then v=.agg cs.toArray else cs=[v]
def iL(f:Nat)(vs:List Value):Value:=if f<1000000 then .func (.func f) #[] vs.toArray else .func (.func (f-1000000)) vs.toArray #[]
theorem lO{f:Nat}(h:f<1000000)(vs:List Value):iL f vs=.func (.func f) #[] vs.toArray:=by simp only[iL,if_pos h]
theorem pn(f:Nat)(vs:List Value):iL (f+1000000) vs=.func (.func f) vs.toArray #[]:=by
 simp only[iL,if_neg (show ¬ f+1000000<1000000 by omega),Nat.add_sub_cancel]
theorem Md{f:Nat}{vs vs':List Value}(h:iL f vs=iL f vs'):vs=vs':=by
 rcases Nat.lt_or_ge f 1000000 with hf | hf
 ·rw[lO hf,lO hf] at h;simpa using h
 ·obtain ⟨g,rfl⟩:∃ g,f=g+1000000:=⟨f-1000000,by omega⟩
  rw[pn,pn] at h;simpa using h
theorem Af(f:Nat)(vs:List Value):(iL f vs).oneCell'=true:=by
 simp only[iL];split <;>simp[Value.oneCell']
mutual
/-- These cells hold this value. -/
def ae(w:World)(D:aJ)(E:aM):I→List Value→Prop
 | .agg fs,cs=>az w D E fs cs
 | .bool b,cs=>cs=[.bool b]
 | .int k n,cs=>cs=[.int k n]∧k.min≤n∧n≤k.max
 | .aj s,cs=>cs=[.string s]∧s.size≤maxLen
 | .nilp,cs=>cs=[.pointer none]
 | .cZ,cs=>cs=[.nilFunc]
 | .cL,cs=>cs=[.nilIface]
 | .any,cs=>∃ v:Value,cs=[v]∧v.oneCell'=true
 | .raw u,cs=>cs=[u]∧u.oneCell'=true
 | .nils _,cs=>cs=[.slice none 0 0]
 | .c0 _,cs=>∃ a,cs=[.slice a 0 0]
 | .slice sz es,cs=>∃ a cap,cs=[.slice a es.length cap]∧es.length≤cap∧cap≤maxLen ∧
   (es=[]∨∃ b off cs',a=some ⟨b,off,none⟩∧reads w D b off cs'∧az w D E es cs')∧∀ e∈es,e.size=sz
 | .ref c,cs=>∃ b off cs',cs=[.pointer (some ⟨b,off,none⟩)]∧reads w D b off cs'∧ae w D E c cs'
 | .func f caps,cs=>∃ vs:List Value,cs=[iL f vs]∧ak w D E caps vs
 | .iface t v,cs=>∃ u cs',cs=[.iface t u]∧aY v u cs'∧ae w D E v cs'
 | .ptr n p,cs=>∃ b aK off,E n=some (.aB b aK)∧aK.off p=some off∧cs=[.pointer (some ⟨b,off,none⟩)]
 | .own n k,cs=>∃ aA l,E n=some (.rw aA l)∧k≤l∧(∃ a m c,cs=[.slice a m c]) ∧
   (k=l→match aA with | none=>cs=[.slice none 0 0] | some (b,cap)=>cs=[.slice (some ⟨b,0,none⟩) k cap])
 | .view n p sz lo k,cs=>∃ b aK off l,E n=some (.aB b aK)∧aK.off p=some off∧aK.part p=some (.eC l)∧cs=[.slice (some ⟨b,off+lo*sz,none⟩) k (l.length-lo)]∧l.length≤maxLen∧lo+k≤l.length∧∀ s∈l,s.size=sz
 | .mref n,cs=>∃ b,E n=some (.bZ b)∧cs=[.map (some b)]
 | .cR n,cs=>∃ b,E n=some (.it b)∧cs=[.pointer (some ⟨b,0,none⟩)]
 | .cW ks vs,cs=>∃ b es clock,cs=[.map (some b)]∧mE w D b es clock∧ak w D E ks (es.toList.map (·.key))∧ak w D E vs (es.toList.map (·.val))
 | .undef,_ | .cU,_ | .tuple _,_=>False
def az(w:World)(D:aJ)(E:aM):List I→List Value→Prop
 | [],cs=>cs=[]
 |e::es,cs=>∃ c1 c2,cs=c1++c2∧ae w D E e c1∧az w D E es c2
def ak(w:World)(D:aJ)(E:aM):List I→List Value→Prop
 | [],vs=>vs=[]
 |e::es,vs=>∃ v rest cs,vs=v::rest∧aY e v cs∧ae w D E e cs∧ak w D E es rest
end
def aP(w:World)(D:aJ)(E:aM)(x:I)(v:Value):Prop :=
 match x with
 | .undef=>v=undef
 | .cU=>True
 | .tuple fs=>∃ vs:List Value,v=.tuple vs.toArray∧ak w D E fs vs
 |x=>∃ cs,aY x v cs∧ae w D E x cs
structure df (w:World) (D:aJ) (E:aM) (w':World) (D':aJ) (E':aM):Prop where
 cI:∀ b o,D b o→D' b o
 cell:∀ b o v,D b o→w.cell? ⟨b,o,none⟩=some v→w'.cell? ⟨b,o,none⟩=some v
 aB:∀ n b aK,E n=some (.aB b aK)→E' n=some (.aB b aK)
 rw:∀ n aA l,E n=some (.rw aA l)→∃ blk' l',E' n=some (.rw blk' l')∧l≤l'∧(l'=l→blk'=aA)
 bZ:∀ n b,E n=some (.bZ b)→E' n=some (.bZ b)
 it:∀ n b,E n=some (.it b)→E' n=some (.it b)
 iq:∀ b es ck,D b 0→w.heap[b]?=some (.map es ck)→w'.heap[b]?=some (.map es ck)
structure fN (w:World) (D:aJ) (w':World):Prop where
 cell:∀ b o v,D b o→w.cell? ⟨b,o,none⟩=some v→w'.cell? ⟨b,o,none⟩=some v
 iq:∀ b es ck,D b 0→w.heap[b]?=some (.map es ck)→w'.heap[b]?=some (.map es ck)
theorem fN.refl(w:World)(D:aJ):fN w D w:=⟨fun _ _ _ _ h=>h,fun _ _ _ _ h=>h⟩
theorem fN.trans{w w' w'':World}{D D':aJ}(h:fN w D w')(hD:∀ b o,D b o→D' b o)(k:fN w' D' w''):fN w D w'' :=
 ⟨fun b o v hd hv=>k.cell b o v (hD b o hd) (h.cell b o v hd hv),fun b es ck hd hm=>k.iq b es ck (hD b 0 hd) (h.iq b es ck hd hm)⟩
theorem df.fq{w w':World}{D D':aJ}{E E':aM}(h:df w D E w' D' E'):fN w D w':=⟨h.cell,h.iq⟩
theorem mE.later{w w':World}{D D':aJ}{E E':aM}(h:df w D E w' D' E'){b:Nat}{es:Array MapEntry}{clock:Nat}(hr:mE w D b es clock):mE w' D' b es clock :=
 ⟨h.iq _ _ _ hr.2.1 hr.1,h.cI _ _ hr.2.1,hr.2.2⟩
theorem reads.later{w w':World}{D D':aJ}{E E':aM}(h:df w D E w' D' E'){b off:Nat}{cs:List Value}(hr:reads w D b off cs):reads w' D' b off cs :=
 fun j v hj=>⟨h.cell _ _ _ (hr j v hj).2 (hr j v hj).1,h.cI _ _ (hr j v hj).2⟩
mutual
theorem ae.later{w w':World}{D D':aJ}{E E':aM}(h:df w D E w' D' E'):∀ (x:I) (cs:List Value),ae w D E x cs→ae w' D' E' x cs
 | .agg fs,cs,hr=>by simp only[ae] at *;exact az.later h fs cs hr
 | .bool b,cs,hr=>by simpa only[ae] using hr
 | .int k n,cs,hr=>by simpa only[ae] using hr
 | .aj s,cs,hr=>by simpa only[ae] using hr
 | .nilp,cs,hr=>by simpa only[ae] using hr
 | .cZ,cs,hr=>by simpa only[ae] using hr
 | .cL,cs,hr | .any,cs,hr=>by simpa only[ae] using hr
 | .raw _,cs,hr=>by simpa only[ae] using hr
 | .nils _,cs,hr=>by simpa only[ae] using hr
 | .c0 _,cs,hr=>by simpa only[ae] using hr
 | .slice sz es,cs,hr=>by
  simp only[ae] at *;obtain ⟨a,cap,h1,h2,h3,h4,h5⟩:=hr;refine ⟨a,cap,h1,h2,h3,?_,h5⟩;rcases h4 with h4 | ⟨b,off,cs',h6,h7,h8⟩
  ·exact .inl h4
  ·exact .inr ⟨b,off,cs',h6,h7.later h,az.later h es cs' h8⟩
 | .ref c,cs,hr=>by
  simp only[ae] at *;obtain ⟨b,off,cs',h1,h2,h3⟩:=hr;exact ⟨b,off,cs',h1,h2.later h,ae.later h c cs' h3⟩
 | .func f caps,cs,hr=>by
  simp only[ae] at *;obtain ⟨vs,h1,h2⟩:=hr;exact ⟨vs,h1,ak.later h caps vs h2⟩
 | .iface t v,cs,hr=>by
  simp only[ae] at *;obtain ⟨u,cs',h1,h2,h3⟩:=hr;exact ⟨u,cs',h1,h2,ae.later h v cs' h3⟩
 | .ptr n p,cs,hr=>by
  simp only[ae] at *;obtain ⟨b,aK,off,h1,h2,h3⟩:=hr;exact ⟨b,aK,off,h.aB _ _ _ h1,h2,h3⟩
 | .own n k,cs,hr=>by
  simp only[ae] at *;obtain ⟨aA,l,h1,h2,h3,h4⟩:=hr;obtain ⟨blk',l',h5,h6,h7⟩:=h.rw _ _ _ h1;refine ⟨blk',l',h5,Nat.le_trans h2 h6,h3,fun e =>?_⟩;have e1:l'=l:=by omega
  rw[h7 e1];exact h4 (by omega)
 | .view n p _ _ _,cs,hr=>by
  simp only[ae] at *;obtain ⟨b,aK,off,l,h1,h2⟩:=hr;exact ⟨b,aK,off,l,h.aB _ _ _ h1,h2⟩
 | .mref n,cs,hr=>by
  simp only[ae] at *;obtain ⟨b,h1,h2⟩:=hr;exact ⟨b,h.bZ _ _ h1,h2⟩
 | .cR n,cs,hr=>by
  simp only[ae] at *;obtain ⟨b,h1,h2⟩:=hr;exact ⟨b,h.it _ _ h1,h2⟩
 | .cW ks vs,cs,hr=>by
  simp only[ae] at *;obtain ⟨b,es,clock,h1,h2,h3,h4⟩:=hr;exact ⟨b,es,clock,h1,h2.later h,ak.later h ks _ h3,ak.later h vs _ h4⟩
 | .undef,_,hr=>by simp only[ae] at hr
 | .cU,_,hr=>by simp only[ae] at hr
 | .tuple _,_,hr=>by simp only[ae] at hr
theorem az.later{w w':World}{D D':aJ}{E E':aM}(h:df w D E w' D' E'):∀ (xs:List I) (cs:List Value),az w D E xs cs→az w' D' E' xs cs
 | [],cs,hr=>by simpa only[az] using hr
 |x::xs,cs,hr=>by
  simp only[az] at *;obtain ⟨c1,c2,h1,h2,h3⟩:=hr;exact ⟨c1,c2,h1,ae.later h x c1 h2,az.later h xs c2 h3⟩
theorem ak.later{w w':World}{D D':aJ}{E E':aM}(h:df w D E w' D' E'):∀ (xs:List I) (vs:List Value),ak w D E xs vs→ak w' D' E' xs vs
 | [],vs,hr=>by simpa only[ak] using hr
 |x::xs,vs,hr=>by
  simp only[ak] at *;obtain ⟨v,rest,cs,h1,h2,h3,h4⟩:=hr;exact ⟨v,rest,cs,h1,h2,ae.later h x cs h3,ak.later h xs rest h4⟩
end
theorem aP.later{w w':World}{D D':aJ}{E E':aM}(h:df w D E w' D' E'){x:I}{v:Value}(hr:aP w D E x v):aP w' D' E' x v:=by
 cases x <;>simp only[aP] at * <;>first
  |exact hr
  |(obtain ⟨vs,h1,h2⟩:=hr;exact ⟨vs,h1,ak.later h _ _ h2⟩)
  |(obtain ⟨cs,h1,h2⟩:=hr;exact ⟨cs,h1,ae.later h _ _ h2⟩)
mutual
theorem I.hJ:∀ x:I,x.aK.size=x.size
 | .agg fs=>by simp only[I.aK,I.size,bM.size];exact I.lz fs
 | .undef | .cU | .bool _ | .int _ _ | .aj _ | .nilp | .cZ | .cL | .any | .raw _ | .nils _ | .c0 _ | .slice _ _ | .tuple _ | .ref _ | .func _ _ | .iface _ _ | .ptr _ _ | .own _ _ | .view _ _ _ _ _ | .mref _ | .cR _ | .cW _ _=>by simp only[I.aK,I.size,bM.size]
theorem I.lz:∀ xs:List I,bM.sizes (I.cE xs)=I.sizes xs
 | []=>by simp only[I.cE,I.sizes,bM.sizes]
 |x::xs=>by simp only[I.cE,I.sizes,bM.sizes];rw[I.hJ x,I.lz xs]
end
mutual
theorem ae.length{w:World}{D:aJ}{E:aM} : ∀ (x:I) (cs:List Value),ae w D E x cs→cs.length=x.size
 | .agg fs,cs,hr=>by simp only[ae,I.size] at *;exact az.length fs cs hr
 | .bool b,cs,hr=>by simp only[ae] at hr;simp[hr,I.size]
 | .int k n,cs,hr=>by simp only[ae] at hr;simp[hr.1,I.size]
 | .aj s,cs,hr=>by simp only[ae] at hr;simp[hr.1,I.size]
 | .nilp,cs,hr=>by simp only[ae] at hr;simp[hr,I.size]
 | .cZ,cs,hr=>by simp only[ae] at hr;simp[hr,I.size]
 | .cL,cs,hr=>by simp only[ae] at hr;simp[hr,I.size]
 | .any,cs,hr=>by simp only[ae] at hr;obtain ⟨v,rfl,_⟩:=hr;simp[I.size]
 | .raw u,cs,hr=>by simp only[ae] at hr;simp[hr.1,I.size]
 | .nils _,cs,hr=>by simp only[ae] at hr;simp[hr,I.size]
 | .c0 _,cs,hr=>by simp only[ae] at hr;obtain ⟨a,rfl⟩:=hr;simp[I.size]
 | .slice sz es,cs,hr=>by simp only[ae] at hr;obtain ⟨a,cap,rfl,_⟩:=hr;simp[I.size]
 | .ref c,cs,hr=>by simp only[ae] at hr;obtain ⟨b,off,cs',rfl,_⟩:=hr;simp[I.size]
 | .func f caps,cs,hr=>by simp only[ae] at hr;obtain ⟨vs,rfl,_⟩:=hr;simp[I.size]
 | .iface t v,cs,hr=>by simp only[ae] at hr;obtain ⟨u,cs',rfl,_⟩:=hr;simp[I.size]
 | .ptr n p,cs,hr=>by simp only[ae] at hr;obtain ⟨b,aK,off,_,_,rfl⟩:=hr;simp[I.size]
 | .own n k,cs,hr=>by simp only[ae] at hr;obtain ⟨aA,l,_,_,⟨a,m,c,rfl⟩,_⟩:=hr;simp[I.size]
 | .view n p _ _ _,cs,hr=>by simp only[ae] at hr;obtain ⟨b,aK,off,l,_,_,_,rfl,_⟩:=hr;simp[I.size]
 | .mref n,cs,hr=>by simp only[ae] at hr;obtain ⟨b,_,rfl⟩:=hr;simp[I.size]
 | .cR n,cs,hr=>by simp only[ae] at hr;obtain ⟨b,_,rfl⟩:=hr;simp[I.size]
 | .cW ks vs,cs,hr=>by simp only[ae] at hr;obtain ⟨b,es,ck,rfl,_⟩:=hr;simp[I.size]
 | .undef,_,hr=>by simp only[ae] at hr
 | .cU,_,hr=>by simp only[ae] at hr
 | .tuple _,_,hr=>by simp only[ae] at hr
theorem az.length{w:World}{D:aJ}{E:aM} : ∀ (xs:List I) (cs:List Value),az w D E xs cs→cs.length=I.sizes xs
 | [],cs,hr=>by simp only[az] at hr;simp[hr,I.sizes]
 |x::xs,cs,hr=>by
  simp only[az] at hr;obtain ⟨c1,c2,rfl,h1,h2⟩:=hr;simp only[Z1,I.sizes,ae.length x c1 h1,az.length xs c2 h2]
end
mutual
theorem ae.kh{w:World}{D:aJ}{E:aM} : ∀ (x:I) (cs:List Value),ae w D E x cs→∀ v∈cs,v.oneCell'=true
 | .agg fs,cs,hr=>by simp only[ae] at hr;exact az.kh fs cs hr
 | .bool b,cs,hr=>by simp only[ae] at hr;simp[hr,Value.oneCell']
 | .int k n,cs,hr=>by simp only[ae] at hr;simp[hr.1,Value.oneCell']
 | .aj s,cs,hr=>by simp only[ae] at hr;simp[hr.1,Value.oneCell']
 | .nilp,cs,hr=>by simp only[ae] at hr;simp[hr,Value.oneCell']
 | .cZ,cs,hr=>by simp only[ae] at hr;simp[hr,Value.oneCell']
 | .cL,cs,hr=>by simp only[ae] at hr;simp[hr,Value.oneCell']
 | .any,cs,hr=>by simp only[ae] at hr;obtain ⟨v,rfl,h⟩:=hr;simpa using h
 | .raw u,cs,hr=>by simp only[ae] at hr;simpa[hr.1] using hr.2
 | .nils _,cs,hr=>by simp only[ae] at hr;simp[hr,Value.oneCell']
 | .c0 _,cs,hr=>by simp only[ae] at hr;obtain ⟨a,rfl⟩:=hr;simp[Value.oneCell']
 | .slice sz es,cs,hr=>by simp only[ae] at hr;obtain ⟨a,cap,rfl,_⟩:=hr;simp[Value.oneCell']
 | .ref c,cs,hr=>by simp only[ae] at hr;obtain ⟨b,off,cs',rfl,_⟩:=hr;simp[Value.oneCell']
 | .func f caps,cs,hr=>by simp only[ae] at hr;obtain ⟨vs,rfl,_⟩:=hr;simp only[iL];split <;>simp[Value.oneCell']
 | .iface t v,cs,hr=>by simp only[ae] at hr;obtain ⟨u,cs',rfl,_⟩:=hr;simp[Value.oneCell']
 | .ptr n p,cs,hr=>by simp only[ae] at hr;obtain ⟨b,aK,off,_,_,rfl⟩:=hr;simp[Value.oneCell']
 | .own n k,cs,hr=>by simp only[ae] at hr;obtain ⟨aA,l,_,_,⟨a,m,c,rfl⟩,_⟩:=hr;simp[Value.oneCell']
 | .view n p _ _ _,cs,hr=>by simp only[ae] at hr;obtain ⟨b,aK,off,l,_,_,_,rfl,_⟩:=hr;simp[Value.oneCell']
 | .mref n,cs,hr=>by simp only[ae] at hr;obtain ⟨b,_,rfl⟩:=hr;simp[Value.oneCell']
 | .cR n,cs,hr=>by simp only[ae] at hr;obtain ⟨b,_,rfl⟩:=hr;simp[Value.oneCell']
 | .cW ks vs,cs,hr=>by simp only[ae] at hr;obtain ⟨b,es,ck,rfl,_⟩:=hr;simp[Value.oneCell']
 | .undef,_,hr=>by simp only[ae] at hr
 | .cU,_,hr=>by simp only[ae] at hr
 | .tuple _,_,hr=>by simp only[ae] at hr
theorem az.kh{w:World}{D:aJ}{E:aM} : ∀ (xs:List I) (cs:List Value),az w D E xs cs→∀ v∈cs,v.oneCell'=true
 | [],cs,hr=>by simp only[az] at hr;simp[hr]
 |x::xs,cs,hr=>by
  simp only[az] at hr;obtain ⟨c1,c2,rfl,h1,h2⟩:=hr;intro v hv;rcases zz7.1 hv with h | h
  ·exact ae.kh x c1 h1 v h
  ·exact az.kh xs c2 h2 v h
end
theorem aY.cells{x:I}{v:Value}{cs:List Value}{w:World}{D:aJ}{E:aM}(h:aY x v cs)(hr:ae w D E x cs):v.cells.toList=cs:=by
 unfold aY at h;split at h
 ·rw[h];simp[Value.cells]
 ·subst h;have:=ae.kh x _ hr v (by simp);cases v <;>simp[Value.cells,Value.oneCell'] at *
theorem ln{w:World}{D:aJ}{E:aM} : ∀ (xs:List I) (cs:List Value) (i:Nat) (x:I),az w D E xs cs→xs[i]?=some x →
  ∃ c1 c2 c3,cs=c1++c2++c3∧c1.length=I.sizes (xs.take i)∧az w D E (xs.take i) c1∧ae w D E x c2∧az w D E (xs.drop (i+1)) c3
 | [],_,i,x,_,h=>by simp at h
 |y::ys,cs,0,x,hr,h=>by
  simp only[List.getElem?_cons_zero,v6] at h;subst h;simp only[az] at hr;obtain ⟨c1,c2,rfl,h1,h2⟩:=hr;exact ⟨[],c1,c2,by simp,by simp[I.sizes],by simp[az],h1,by simpa using h2⟩
 |y::ys,cs,i+1,x,hr,h=>by
  simp only[List.getElem?_cons_succ] at h;simp only[az] at hr;obtain ⟨c0,c',rfl,h1,h2⟩:=hr;obtain ⟨c1,c2,c3,rfl,h3,h4,h5,h6⟩:=ln ys c' i x h2 h;refine ⟨c0++c1,c2,c3,by simp,?_,?_,h5,by simpa using h6⟩
  ·simp only[Z1,List.take_succ_cons,I.sizes,h3,ae.length y c0 h1]
  ·simp only[List.take_succ_cons,az];exact ⟨c0,c1,rfl,h1,h4⟩
theorem iP{w:World}{D:aJ}{E:aM} : ∀ (xs ys:List I) (cs ds:List Value),az w D E xs cs→az w D E ys ds→az w D E (xs++ys) (cs++ds)
 | [],ys,cs,ds,h,k=>by simp only[az] at h;subst h;simpa using k
 |x::xs,ys,cs,ds,h,k=>by
  simp only[az,Y3] at *;obtain ⟨c1,c2,rfl,h1,h2⟩:=h;exact ⟨c1,c2++ds,by simp,h1,iP xs ys c2 ds h2 k⟩
theorem I.fZ{sz:Nat} : ∀ (xs:List I),(∀ x∈xs,x.size=sz)→I.sizes xs=xs.length*sz
 | [],_=>by simp[I.sizes]
 |x::xs,h=>by
  simp only[I.sizes,zy1];rw[h x (by simp),I.fZ xs (fun y hy=>h y (by simp[hy])),Nat.add_mul];omega
theorem I.cF:∀ xs:List I,I.cE xs=xs.map I.aK
 | []=>by simp[I.cE]
 |x::xs=>by simp[I.cE,I.cF xs]
theorem vQ{w:World}{D:aJ}{E:aM} : ∀ (p:List Nat) (c x:I) (cs:List Value),ae w D E c cs→c.at p=some x →
  ∃ off c1 c2 c3,c.aK.off p=some off∧cs=c1++c2++c3∧c1.length=off∧ae w D E x c2
 | [],c,x,cs,hr,h=>by
  simp only[I.at,v6] at h;subst h;exact ⟨0,[],cs,[],by cases c.aK <;>simp[bM.off],by simp,rfl,hr⟩
 |i::p,.agg fs,x,cs,hr,h=>by
  simp only[I.at] at h;simp only[ae] at hr;cases hf:fs[i]? with
  |none=>simp[hf] at h
  |some f =>
   simp only[hf] at h;obtain ⟨c1,c2,c3,rfl,h1,_,h3,_⟩:=ln fs cs i f hr hf;obtain ⟨off,d1,d2,d3,h4,rfl,h6,h7⟩:=vQ p f x c2 h3 h;refine ⟨I.sizes (fs.take i)+off,c1++d1,d2,d3++c3,?_,by simp,by simp[h1,h6],h7⟩;simp only[I.aK,bM.off,I.cF,zz2,hf,Z9,h4];rw[←List.map_take,←I.cF,I.lz]
 |_::_,.undef,_,_,_,h | _::_,.cU,_,_,_,h | _::_,.bool _,_,_,_,h | _::_,.int _ _,_,_,_,h | _::_,.aj _,_,_,_,h | _::_,.nilp,_,_,_,h
 |_::_,.cZ,_,_,_,h | _::_,.cL,_,_,_,h | _::_,.any,_,_,_,h | _::_,.raw _,_,_,_,h | _::_,.nils _,_,_,_,h | _::_,.c0 _,_,_,_,h | _::_,.slice _ _,_,_,_,h | _::_,.tuple _,_,_,_,h
 |_::_,.ref _,_,_,_,h | _::_,.func _ _,_,_,_,h | _::_,.iface _ _,_,_,_,h | _::_,.ptr _ _,_,_,_,h | _::_,.own _ _,_,_,_,h | _::_,.view _ _ _ _ _,_,_,_,h | _::_,.mref _,_,_,_,h | _::_,.cR _,_,_,_,h | _::_,.cW _ _,_,_,_,h=>by simp[I.at] at h
theorem sK{w:World}{D:aJ}{E:aM} : ∀ (p:List Nat) (c x y:I) (cs ds:List Value),ae w D E c cs→c.at p=some x→ae w D E y ds→y.aK=x.aK →
  ∃ off,c.aK.off p=some off∧off+ds.length≤cs.length∧ae w D E (c.dp p y) (cs.take off++ds++cs.drop (off+ds.length))∧(c.dp p y).aK=c.aK
 | [],c,x,y,cs,ds,hr,h,hy,hs=>by
  simp only[I.at,v6] at h;subst h;have hl:ds.length=cs.length:=by rw[ae.length _ _ hy,ae.length _ _ hr,←I.hJ,←I.hJ,hs]
  refine ⟨0,by cases c.aK <;>simp[bM.off],by omega,?_,by simpa[I.dp] using hs⟩;simpa[I.dp,hl] using hy
 |i::p,.agg fs,x,y,cs,ds,hr,h,hy,hs=>by
  simp only[I.at] at h;simp only[ae] at hr;cases hf:fs[i]? with
  |none=>simp[hf] at h
  |some f =>
   simp only[hf] at h;obtain ⟨c1,c2,c3,rfl,h1,h2,h3,h3'⟩:=ln fs cs i f hr hf;obtain ⟨off,h4,h5,h6,h7⟩:=sK p f x y c2 ds h3 h hy hs;have hi:i<fs.length:=(Z6.1 hf).1;have hfi:fs[i]=f:=(Z6.1 hf).2;refine ⟨I.sizes (fs.take i)+off,?_,?_,?_,?_⟩
   ·simp only[I.aK,bM.off,I.cF,zz2,hf,Z9,h4];rw[←List.map_take,←I.cF,I.lz]
   ·simp only[Z1,h1];omega
   ·simp only[I.dp,hf,ae];have e1:fs.set i (f.dp p y)=fs.take i++f.dp p y::fs.drop (i+1):=by rw[List.set_eq_take_append_cons_drop];simp[hi]
    rw[e1];have e2:(c1++c2++c3).take (I.sizes (fs.take i)+off)++ds++(c1++c2++c3).drop (I.sizes (fs.take i)+off+ds.length)=c1++((c2.take off++ds++c2.drop (off+ds.length))++c3):=by
     rw[←h1,Z8 c1 c2 c3,List.take_length_add_append,Nat.add_assoc,List.drop_length_add_append,List.take_append_of_le_length (by omega),List.drop_append_of_le_length (by omega)];simp
    rw[e2];refine iP _ _ _ _ h2 ?_;simp only[az];exact ⟨_,_,rfl,h6,h3'⟩
   ·simp only[I.dp,hf,I.aK,I.cF,List.map_set,h7,bM.eC.injEq];apply List.ext_getElem?;intro k;rw[List.getElem?_set];split
    ·rename_i hk;subst hk;simp[hi,hfi]
    ·rfl
 |_::_,.undef,_,_,_,_,_,h,_,_ | _::_,.cU,_,_,_,_,_,h,_,_ | _::_,.bool _,_,_,_,_,_,h,_,_ | _::_,.int _ _,_,_,_,_,_,h,_,_ | _::_,.aj _,_,_,_,_,_,h,_,_ | _::_,.nilp,_,_,_,_,_,h,_,_
 |_::_,.cZ,_,_,_,_,_,h,_,_ | _::_,.cL,_,_,_,_,_,h,_,_ | _::_,.any,_,_,_,_,_,h,_,_ | _::_,.raw _,_,_,_,_,_,h,_,_ | _::_,.nils _,_,_,_,_,_,h,_,_ | _::_,.c0 _,_,_,_,_,_,h,_,_ | _::_,.slice _ _,_,_,_,_,_,h,_,_ | _::_,.tuple _,_,_,_,_,_,h,_,_
 |_::_,.ref _,_,_,_,_,_,h,_,_ | _::_,.func _ _,_,_,_,_,_,h,_,_ | _::_,.iface _ _,_,_,_,_,_,h,_,_ | _::_,.ptr _ _,_,_,_,_,_,h,_,_ | _::_,.own _ _,_,_,_,_,_,h,_,_ | _::_,.view _ _ _ _ _,_,_,_,_,_,h,_,_ | _::_,.mref _,_,_,_,_,_,h,_,_ | _::_,.cR _,_,_,_,_,_,h,_,_ | _::_,.cW _ _,_,_,_,_,_,h,_,_=>by simp[I.at] at h
theorem ly:∀ (p:List Nat) (c x:I),c.at p=some x→c.aK.part p=some x.aK
 | [],c,x,h=>by simp only[I.at,v6] at h;subst h;cases c.aK <;>rfl
 |i::p,.agg fs,x,h=>by
  simp only[I.at] at h;cases hf:fs[i]? with
  |none=>simp[hf] at h
  |some f =>
   simp only[hf] at h;simp only[I.aK,bM.part,I.cF,zz2,hf,Z9];exact ly p f x h
 |_::_,.undef,_,h | _::_,.cU,_,h | _::_,.bool _,_,h | _::_,.int _ _,_,h | _::_,.aj _,_,h | _::_,.nilp,_,h
 |_::_,.cZ,_,h | _::_,.cL,_,h | _::_,.any,_,h | _::_,.raw _,_,h | _::_,.nils _,_,h | _::_,.c0 _,_,h | _::_,.slice _ _,_,h | _::_,.tuple _,_,h
 |_::_,.ref _,_,h | _::_,.func _ _,_,h | _::_,.iface _ _,_,h | _::_,.ptr _ _,_,h | _::_,.own _ _,_,h | _::_,.view _ _ _ _ _,_,h | _::_,.mref _,_,h | _::_,.cR _,_,h | _::_,.cW _ _,_,h=>by simp[I.at] at h
end Go.Abs
namespace Go.Abs
open Go Go.RowKit
inductive ai where
 |box (c:I)
 |bJ (T:TypeId) (sz:Nat) (es:List I)
 |c6 (o:Obj)
 |bZ (ks vs:List I)
 |it (ks vs:List I) (left:List Nat) (cur:Option Nat)
 |dJ (T:TypeId) (xs:List Int)
 deriving Inhabited
def ai.ed:ai→Bool
 | .it _ _ _ _=>false
 |_=>true
structure ab where
 t:Nat→I
 o:Nat→Option ai
def ab.put(A:ab)(d:Nat)(v:I):ab:=⟨fun k=>if k=d then v else A.t k,A.o⟩
def ab.aN(A:ab)(d:Option Nat)(v:I):ab:=match d with | some d=>A.put d v | none=>A
def ab.aQ(A:ab)(n:Nat)(x:ai):ab:=⟨A.t,fun k=>if k=n then some x else A.o k⟩
def b8:List (Nat×I)→Nat→I
 | [],_=>.cU
 |(k,v)::r,t=>if t=k then v else b8 r t
def aD:List (Nat×ai)→Nat→Option ai
 | [],_=>none
 |(k,v)::r,t=>if t=k then some v else aD r t
def aw(ts:List (Nat×I))(os:List (Nat×ai)):ab:=⟨b8 ts,aD os⟩
def aI(os:List (Nat×ai))(n:Nat):Bool:=(aD os n).isSome
abbrev bX:=I→List (Nat×ai)→Prop
structure b9 where
 P:Program
 cM:World
 bB:aJ
 n:Nat
 own:Nat→Prop
 cd:aM
 Y:Value→List I→List (Nat×ai)→bX→Prop
 qc:Option Nat
 dK:Option (List Deferred):=none
def fw:Value→List I→List (Nat×ai)→bX→Prop:=fun _ _ _ _=>False
def b9.bh(c:b9):Fence:=match c.qc with
 |none=>Fence.wide
 |some l=>Fence.wide.inRound l
def b9.eb(c:b9)(b:Nat):Prop:=c.cM.heap.size≤b∨c.own b
structure ej (M:Nat→Prop) (w w':World):Prop where
 os:w'.os=w.os
 tape:w'.tape=w.tape
 output:w'.output=w.output
 size:w.heap.size≤w'.heap.size
 block:∀ k,¬ M k→w'.heap[k]?=w.heap[k]?
theorem ej.refl(M:Nat→Prop)(w:World):ej M w w:=⟨rfl,rfl,rfl,Z7 _,fun _ _=>rfl⟩
theorem ej.trans{M:Nat→Prop}{a b c:World}(h:ej M a b)(k:ej M b c):ej M a c :=
 ⟨k.os.trans h.os,k.tape.trans h.tape,k.output.trans h.output,Nat.le_trans h.size k.size,fun i hi=>(k.block i hi).trans (h.block i hi)⟩
theorem ej.grow{M:Nat→Prop}{w w':World}{B:Nat}(h:Below B w w')(hB:∀ k,B≤k→M k):ej M w w' :=
 ⟨h.os,h.tape,h.output,h.size,fun k hk=>h.block k (Nat.lt_of_not_le fun hle=>hk (hB k hle))⟩
theorem ej.Gp{M:Nat→Prop}{w w':World}{B:Nat}(h:ej M w w')(hB:∀ k,k<B→¬ M k):Below B w w' :=
 ⟨h.os,h.tape,h.output,h.size,fun k hk=>h.block k (hB k hk)⟩
def bu.aA:bu→Option Nat
 | .aB b _=>some b
 | .rw (some (b,_)) _=>some b
 | .rw none _=>none
 | .op b=>some b
 | .bZ b=>some b
 | .it b=>some b
def bu.eV:bu→Bool
 | .op _ | .bZ _ | .it _=>true
 |_=>false
def nW:Obj→Bool
 | .loop _=>true
 |_=>false
def sk:Obj→Bool
 | .deferred _=>false
 |_=>true
theorem VJ{o:Obj}(h:nW o=true):sk o=true:=by cases o <;>first | rfl | cases h
def mD(es:Array MapEntry)(seen:Array Nat):List Nat:=(List.range es.size).filter fun i=>match es[i]? with
 |some e => !seen.contains e.born
 |none=>false
def bM.AY:bM→Bool
 | .one=>true
 | .eC _=>false
def bM.flat:bM→Bool
 | .one=>false
 | .eC l=>l.all bM.AY
def dT(w:World)(b:Nat)(cs:Array Value)(T:TypeId)(s:bM):Prop:=∃ fz:Nat×Nat,w.heap[b]?=some (.cells cs T fz)∧(fz=(0,0)∨(fz.1=cs.size∧s.flat=true))
section
variable {w w':World} {b:Nat} {cs cs':Array Value} {T:TypeId} {s:bM}
theorem dT.BB(h:w.heap[b]?=some (.cells cs T (0,0))):dT w b cs T s:=⟨_,h,.inl rfl⟩
theorem dT.lt(h:dT w b cs T s):b<w.heap.size:=by obtain ⟨_,h,_⟩:=h;exact (Y2.1 h).1
theorem dT.Wr(h:dT w b cs T s)(k:w'.heap[b]?=w.heap[b]?):dT w' b cs T s:=by obtain ⟨fz,h,hf⟩:=h;exact ⟨fz,k.trans h,hf⟩
theorem dT.By(h:dT w b cs T s){q:Option (List Deferred)}(k:w.heap[b]?=some (.deferred q)):False:=by obtain ⟨_,h,_⟩:=h;rw[h] at k;cases k
theorem dT.bx(h:dT w b cs T s):∃ o,w.heap[b]?=some o∧sk o=true:=by obtain ⟨_,h,_⟩:=h;exact ⟨_,h,rfl⟩
theorem dT.setRow(h:dT w b cs T s)(hs:cs'.size=cs.size):dT (w.setRow b cs') b cs' T s:=by
 obtain ⟨fz,h,hf⟩:=h;exact ⟨fz,setRow_heap w b cs cs' T _ h,hf.imp id fun k=>⟨k.1.trans hs.symm,k.2⟩⟩
theorem dT.aK{s':bM}(h:dT w b cs T s)(e:s'=s):dT w b cs T s':=e▸h
theorem dT.Mf(h:dT w b cs T s){o:Nat}(ho:o<cs.size):w.frozen? ⟨b,o,none⟩=false:=by
 obtain ⟨⟨z1,z2⟩,h,hf⟩:=h;cases hq:w.frozen? ⟨b,o,none⟩ with
 |false=>rfl
 |true =>
  simp only[World.frozen?,h,Z0,decide_eq_true_eq] at hq;rcases hf with hf | hf
  ·simp only[Prod.mk.injEq] at hf;omega
  ·have:=hf.1;simp only at this;omega
theorem dT.plain(h:dT w b cs T s)(hs:s.flat=false):w.heap[b]?=some (.cells cs T (0,0)):=by
 obtain ⟨fz,h,hf | hf⟩:=h
 ·rw[←hf];exact h
 ·rw[hs] at hf;cases hf.2
end
def cS(M:Nat→Prop)(w:World)(D:aJ)(E:aM)(n:Nat):Option ai→Prop
 |none=>E n=none
 |some (.box x)=>∃ b cs T,E n=some (.aB b x.aK)∧M b∧dT w b cs T x.aK∧ae w D E x cs.toList∧∀ o,¬ D b o
 |some (.bJ T sz es)=>∃ aA,E n=some (.rw aA es.length)∧(∀ e∈es,e.size=sz)∧match aA with
  |none=>es=[]
  |some (b,cap)=>∃ cs pre rest,M b∧w.heap[b]?=some (.cells cs T (0,0))∧cs.toList=pre++rest∧az w D E es pre ∧
    cs.size=cap*sz∧es.length≤cap∧cap≤maxLen∧∀ o,D b o→o<pre.length
 |some (.c6 x)=>∃ b,E n=some (.op b)∧M b∧w.heap[b]?=some x∧nW x=true∧∀ o,¬ D b o
 |some (.bZ ks vs)=>∃ b es clock,E n=some (.bZ b)∧M b∧w.heap[b]?=some (.map es clock)∧nh es clock∧ak w D E ks (es.toList.map (·.key))∧ak w D E vs (es.toList.map (·.val))∧∀ o,¬ D b o
 |some (.it ks vs left cur)=>∃ r b es clock since seen last,E n=some (.it r)∧M r∧w.heap[r]?=some (.mapIter (some b) since seen last)∧mE w D b es clock∧ak w D E ks (es.toList.map (·.key))∧ak w D E vs (es.toList.map (·.val)) ∧
   (∀ x∈es.toList,x.born<since)∧(since≤last∧since≤clock)∧left=mD es seen∧(∀ i,cur=some i→∃ e,es[i]?=some e∧seen.back?=some e.born∧last=clock)∧∀ o,¬ D r o
 |some (.dJ T xs)=>∃ aA,E n=some (.rw aA xs.length)∧(∀ x∈xs,IntKind.i64.min≤x∧x≤IntKind.i64.max)∧match aA with
  |none=>xs=[]
  |some (b,cap)=>∃ cs m,M b∧w.heap[b]?=some (.cells cs T (0,0))∧cs.toList=(xs++List.replicate m 0).map (Value.int .i64)∧xs≠[]∧xs.length+m=cap∧cap≤maxLen∧∀ o,¬ D b o
def bR(E:aM)(b:Nat):Prop:=∃ n e,E n=some e∧e.aA=some b
structure iW (M:Nat→Prop) (w:World) (D:aJ) (E:aM) (o:Nat→Option ai):Prop where
 bx:∀ n,cS M w D E n (o n)
 cu:∀ n m e e' b,E n=some e→E m=some e'→e.aA=some b→e'.aA=some b→n=m
def mi(run:Array Value→World→(Ending→World→Prop)→Prop)(since:World→aJ→aM→Prop)(args:List I)(os:List (Nat×ai))(post:bX):Prop :=
 ∀ (w:World) (D:aJ) (E:aM) (vs:List Value),since w D E→(∀ b o,D b o→b<w.heap.size)→iW (fun _=>True) w D E (aD os)→ak w D E args vs →
  run vs.toArray w fun e w'=>∃ v D' E' r os',e=.returned v∧post r os'∧aP w' D' E' r v∧iW (fun b=>w.heap.size≤b∨bR E b) w' D' E' (aD os') ∧
   ej (fun b=>w.heap.size≤b∨bR E b) w w'∧(∀ b o,D b o→D' b o)∧(∀ b o,D' b o→b<w'.heap.size)∧(∀ b o,D' b o→b<w.heap.size→¬ bR E b→D b o) ∧
   (∀ n e,E n=some e→aI os' n=true→∃ e',E' n=some e'∧e.e8 e')∧fN w D w'
def rS : String := "internal/strconv.uint64pow10"
def A4:Array Value:=(((List.range 20).map fun i=>((10^i:Nat):Int)).map fun z=>Value.int .u64 z).toArray
inductive tD where
 |sF | int | nN
def rT:tD→Array Value→Prop
 | .sF,v=>v=A4
 | .int,v=>∃ m:Int,v = #[.int .i64 m]
 | .nN,v=>∃ t p,v = #[.iface t p]
def mC : List (String × tD) := [(rS, .sF), ("internal/bytealg.MaxLen", .int), ("strconv.ErrSyntax", .nN), ("strconv.ErrRange", .nN)]
def ew(P:Program)(w:World)(own:Nat→Prop):Prop :=
 ∀ q∈mC,∀ g,P.globalNamed q.1=some g→¬ own g∧∃ v,w.var? P q.1=some v∧rT q.2 v
theorem ew.rW{P:Program}{w:World}{own own':Nat→Prop}(h:ew P w own)(ho:∀ b,own' b→own b):ew P w own':=fun q hq g hg=>⟨fun k=>(h q hq g hg).1 (ho g k),(h q hq g hg).2⟩
theorem ew.A2{P:Program}{w w':World}{own own' M:Nat→Prop}(h:ew P w own)(hk:ej M w w')(hM:∀ b,M b→w.heap.size≤b∨own b)(ho:∀ b,own' b→M b):ew P w' own':=fun q hq g hg=>by
 obtain ⟨h1,v,h2,hv⟩:=h q hq g hg;have h3:=h2;unfold World.var? at h2;rw[hg] at h2;simp only[Option.bind_some] at h2;have hlt:g<w.heap.size:=by
  rcases Nat.lt_or_ge g w.heap.size with h | h
  ·exact h
  ·rw[Array.getElem?_eq_none h] at h2;cases h2
 have hn:¬ M g:=fun hm=>by
  rcases hM g hm with h | h
  ·omega
  ·exact h1 h
 refine ⟨fun k=>hn (ho g k),v,?_,hv⟩;unfold World.var?;rw[hg];simp only[Option.bind_some];rw[hk.block g hn];exact h2
theorem ew.rC{P:Program}{w:World}{own:Nat→Prop}(h:ew P w own){n:String}{k:tD}(hm:(n,k)∈mC){g:Nat}(hg:P.globalNamed n=some g):∃ v,w.var? P n=some v∧rT k v:=(h _ hm g hg).2
structure xj (c:b9) (w:World) (D:aJ) (E:aM):Prop where
 de:ej c.eb c.cM w
 cw:∀ b o,c.bB b o→D b o
 cI:∀ b o,D b o→¬ c.eb b→c.bB b o
 dx:∀ n e,c.cd n=some e→E n=none∨∃ e',E n=some e'∧e.e8 e'
 fq:fN c.cM c.bB w
 pG:ew c.P w (bR E)
def qE(P:Program)(v:Value)(vs:Array Value)(w:World)(R:Ending→World→Prop):Prop :=
 ∃ l,v=.func (.yield l) #[] #[]∧YieldAt Fence.wide 9 P l vs w R
def nz(c:b9):Prop:=ew c.P c.cM c.own∧∀ v args os post,c.Y v args os post→mi (qE c.P v) (xj c) args os post
def mj(dK:Option (List Deferred))(cM:World)(ds:List Deferred)(w:World):Prop:=match dK with
 |none=>∃ Bs:List Nat,ds=Bs.map (fun B => { target:=.collected B,args := #[] })∧Bs.Nodup∧∀ B∈Bs,cM.heap.size≤B∧w.heap[B]?=some (.deferred (some []))
 |some l=>ds=l
theorem mj.mono{dK:Option (List Deferred)}{cM w w':World}{ds:List Deferred}(h:mj dK cM ds w)(hk:∀ B,cM.heap.size≤B→w.heap[B]?=some (.deferred (some []))→w'.heap[B]?=some (.deferred (some []))):mj dK cM ds w':=by
 cases dK with
 |none =>
  obtain ⟨Bs,h1,h2,h3⟩:=h;exact ⟨Bs,h1,h2,fun B hB=>⟨(h3 B hB).1,hk B (h3 B hB).1 (h3 B hB).2⟩⟩
 |some l=>exact h
theorem mj.grow{dK:Option (List Deferred)}{cM w w':World}{ds:List Deferred}(h:mj dK cM ds w)(hk:Below w.heap.size w w'):mj dK cM ds w' :=
 h.mono fun B _ hB=>(hk.block B (Y2.1 hB).1).trans hB
structure aL (c:b9) (A:ab) (a:Act) (w:World) (D:aJ) (E:aM):Prop where
 sz:a.tmps.size=c.n
 ec:mj c.dK c.cM a.defers w
 dB:∀ t,aP w D E (A.t t) (a.tmps.getD t undef)
 de:ej c.eb c.cM w
 cI:∀ b o,D b o→¬ c.eb b→c.bB b o
 cK:∀ b o,D b o→b<w.heap.size
 bx:∀ n,cS c.eb w D E n (A.o n)
 cu:∀ n m e e' b,E n=some e→E m=some e'→e.aA=some b→e'.aA=some b→n=m
 dx:∀ n e,c.cd n=some e→E n=none∨∃ e',E n=some e'∧e.e8 e'
 eJ:∀ n,c.cd n≠none→c.n≤n∧1000000≤n
 cw:∀ b o,c.bB b o→D b o
 eQ:nz c
 fq:fN c.cM c.bB w
def bz(c:b9)(A:ab)(a:Act)(w:World):Prop:=∃ D E,aL c A a w D E
section
variable {c:b9} {A:ab} {a:Act} {w:World} {D:aJ} {E:aM}
theorem aL.jT(h:aL c A a w D E){w':World}{D':aJ}{E':aM}(hl:df w D E w' D' E'):fN c.cM c.bB w':=h.fq.trans h.cw hl.fq
theorem aL.uO(h:aL c A a w D E){n:Nat}{e:bu}(hn:c.cd n=some e)(hf:e.ed=true):E n=none∨E n=some e:=by
 rcases h.dx n e hn with k | ⟨e',k,hle⟩
 ·exact .inl k
 ·rw[hle.eq hf] at k;exact .inr k
theorem pP{M:Nat→Prop}{n:Nat}{x:ai}(h:cS M w D E n (some x)):E n≠none:=by
 cases x with
 |box x=>obtain ⟨b,cs,T,h1,_⟩:=h;rw[h1];simp
 |bJ T sz es=>obtain ⟨aA,h1,_⟩:=h;rw[h1];simp
 |c6 o=>obtain ⟨b,h1,_⟩:=h;rw[h1];simp
 |bZ ks vs=>obtain ⟨b,es,ck,h1,_⟩:=h;rw[h1];simp
 |it ks vs left=>obtain ⟨r,b,es,ck,dN,se,la,h1,_⟩:=h;rw[h1];simp
 |dJ T xs=>obtain ⟨aA,h1,_⟩:=h;rw[h1];simp
theorem eI{w:World}{b:Nat}{o:Obj}(h:w.heap[b]?=some o):b<w.heap.size:=(Y2.1 h).1
theorem aL.eX(h:aL c A a w D E){n:Nat}{e:bu}{b:Nat}(he:E n=some e)(hb:e.aA=some b):b<w.heap.size:=by
 have:=h.bx n;unfold cS at this;split at this
 ·simp[this] at he
 ·obtain ⟨b',cs,T,h1,h2,h3,_⟩:=this;rw[h1,v6] at he;subst he;simp only[bu.aA,v6] at hb;subst hb;exact h3.lt
 ·obtain ⟨aA,h1,h2,h3⟩:=this;rw[h1,v6] at he;subst he;split at h3
  ·simp[bu.aA] at hb
  ·obtain ⟨cs,pre,rest,h4,h5,_⟩:=h3;simp only[bu.aA,v6] at hb;subst hb;exact eI h5
 ·obtain ⟨b',h1,h2,h3,_⟩:=this;rw[h1,v6] at he;subst he;simp only[bu.aA,v6] at hb;subst hb;exact eI h3
 ·obtain ⟨b',es,ck,h1,h2,h3,_⟩:=this;rw[h1,v6] at he;subst he;simp only[bu.aA,v6] at hb;subst hb;exact eI h3
 ·obtain ⟨r,b',es,ck,dN,se,la,h1,h2,h3,_⟩:=this;rw[h1,v6] at he;subst he;simp only[bu.aA,v6] at hb;subst hb;exact eI h3
 ·obtain ⟨aA,h1,h2,h3⟩:=this;rw[h1,v6] at he;subst he;split at h3
  ·simp[bu.aA] at hb
  ·obtain ⟨cs,m,h4,h5,_⟩:=h3;simp only[bu.aA,v6] at hb;subst hb;exact eI h5
theorem aL.vH(h:aL c A a w D E){n b:Nat}{e:bu}(he:E n=some e)(ho:e.eV=true)(hb:e.aA=some b):∀ o,¬ D b o:=by
 have:=h.bx n;unfold cS at this;split at this
 ·rw[this] at he;cases he
 ·obtain ⟨b',cs,T,h1,_⟩:=this;rw[h1] at he;cases he;cases ho
 ·obtain ⟨aA,h1,_⟩:=this;rw[h1] at he;cases he;cases ho
 ·obtain ⟨b',h1,_,_,_,h5⟩:=this;rw[h1] at he;cases he;cases hb;exact h5
 ·obtain ⟨b',es,ck,h1,_,_,_,_,_,h5⟩:=this;rw[h1] at he;cases he;cases hb;exact h5
 ·obtain ⟨r,b',es,ck,dN,se,la,h1,_,_,_,_,_,_,_,_,_,h5⟩:=this;rw[h1] at he;cases he;cases hb;exact h5
 ·obtain ⟨aA,h1,_⟩:=this;rw[h1] at he;cases he;cases ho
theorem cS.later{M:Nat→Prop}{w':World}{D':aJ}{E':aM}{n:Nat}{x:Option ai}(h:cS M w D E n x)(hl:df w D E w' D' E')(aq:E' n=E n)
  (hheap:∀ e b,E n=some e→e.aA=some b→w'.heap[b]?=w.heap[b]?∧∀ o,D' b o→D b o):cS M w' D' E' n x:=by
 unfold cS at *;split
 ·rw[aq];exact h
 ·obtain ⟨b,cs,T,h1,h2,h3,h4,h5⟩:=h;obtain ⟨k1,k2⟩:=hheap _ b h1 rfl;exact ⟨b,cs,T,aq.trans h1,h2,h3.Wr k1,ae.later hl _ _ h4,fun o ho=>h5 o (k2 o ho)⟩
 ·obtain ⟨aA,h1,h2,h3⟩:=h;refine ⟨aA,aq.trans h1,h2,?_⟩;split
  ·exact h3
  ·rename_i b cap;obtain ⟨cs,pre,rest,h4,h5,h6,h7,h8,h9,h10,h11⟩:=h3;obtain ⟨k1,k2⟩:=hheap _ b h1 rfl;exact ⟨cs,pre,rest,h4,k1.trans h5,h6,az.later hl _ _ h7,h8,h9,h10,fun o ho=>h11 o (k2 o ho)⟩
 ·obtain ⟨b,h1,h2,h3,h4,h5⟩:=h;obtain ⟨k1,k2⟩:=hheap _ b h1 rfl;exact ⟨b,aq.trans h1,h2,k1.trans h3,h4,fun o ho=>h5 o (k2 o ho)⟩
 ·obtain ⟨b,es,ck,h1,h2,h3,h4,h5,h6,h7⟩:=h;obtain ⟨k1,k2⟩:=hheap _ b h1 rfl;exact ⟨b,es,ck,aq.trans h1,h2,k1.trans h3,h4,ak.later hl _ _ h5,ak.later hl _ _ h6,fun o ho=>h7 o (k2 o ho)⟩
 ·obtain ⟨r,b,es,ck,dN,se,la,h1,h2,h3,h4,h5,h6,h7,h8,h9,h9',h10⟩:=h;obtain ⟨k1,k2⟩:=hheap _ r h1 rfl;exact ⟨r,b,es,ck,dN,se,la,aq.trans h1,h2,k1.trans h3,h4.later hl,ak.later hl _ _ h5,ak.later hl _ _ h6,h7,h8,h9,h9',fun o ho=>h10 o (k2 o ho)⟩
 ·obtain ⟨aA,h1,h2,h3⟩:=h;refine ⟨aA,aq.trans h1,h2,?_⟩;split
  ·exact h3
  ·rename_i b cap;obtain ⟨cs,m,h4,h5,h6,h7,h8,h9,h10⟩:=h3;obtain ⟨k1,k2⟩:=hheap _ b h1 rfl;exact ⟨cs,m,h4,k1.trans h5,h6,h7,h8,h9,fun o ho=>h10 o (k2 o ho)⟩
theorem df.grow{w':World}{D':aJ}(hb:Below w.heap.size w w')(hD:∀ b o,D b o→D' b o):df w D E w' D' E:=by
 refine ⟨hD,fun b o v _ hv =>?_,fun _ _ _ h=>h,fun _ aA l h=>⟨aA,l,h,Z7 _,fun _=>rfl⟩,fun _ _ h=>h,fun _ _ h=>h,fun b es ck _ hm=>(hb.block b (eI hm)).trans hm⟩;rw[hb.cell (World.block_lt_of_cell? w _ hv)];exact hv
theorem aL.AJ(h:aL c A a w D E){w':World}(hb:Below w.heap.size w w'):ej c.eb w w':=ej.grow hb fun k hk=>.inl (Nat.le_trans h.de.size hk)
theorem aL.old(h:aL c A a w D E){b:Nat}(hm:¬ c.eb b):b<w.heap.size :=
 zy7 (Nat.lt_of_not_le fun hle=>hm (.inl hle)) h.de.size
theorem aL.jA(h:aL c A a w D E){d:Nat}(hd:d<c.n∨d<1000000):c.cd d=none:=by
 cases hh:c.cd d with
 |none=>rfl
 |some e=>have:=h.eJ d (by rw[hh];simp);omega
theorem aL.grow(h:aL c A a w D E){w':World}{D':aJ}(hb:Below w.heap.size w w')(hD:∀ b o,D b o→D' b o)
  (hold:∀ b o,D' b o→b<w.heap.size→D b o) (hlive:∀ b o,D' b o→b<w'.heap.size):aL c A a w' D' E:=by
 have hl:df w D E w' D' E:=df.grow hb hD;refine ⟨h.sz,h.ec.grow hb,fun t=>aP.later hl (h.dB t),h.de.trans (h.AJ hb),fun b o hd hm=>h.cI b o (hold b o hd (h.old hm)) hm,hlive,
  fun n=>(h.bx n).later hl rfl (fun e b he hb'=>⟨hb.block b (h.eX he hb'),fun o ho=>hold b o ho (h.eX he hb')⟩),h.cu,h.dx,h.eJ,fun b o hd=>hD b o (h.cw b o hd),h.eQ,h.jT hl⟩
theorem aL.EF(h:aL c A a w D E){D':aJ}(hD:∀ b o,D b o→D' b o)
  (hold:∀ b o,D' b o→¬ c.eb b→c.bB b o) (hlive:∀ b o,D' b o→b<w.heap.size)
  (hbox:∀ n x b,A.o n=some (.box x)→E n=some (.aB b x.aK)→∀ o,¬ D' b o)
  (hrow:∀ n T sz es b cap,A.o n=some (.bJ T sz es)→E n=some (.rw (some (b,cap)) es.length)→∀ o,D' b o→o<es.length*sz)
  (hui:∀ n T xs b cap,A.o n=some (.dJ T xs)→E n=some (.rw (some (b,cap)) xs.length)→∀ o,¬ D' b o)
  (hopq:∀ n e b,E n=some e→e.eV=true→e.aA=some b→∀ o,¬ D' b o):aL c A a w D' E:=by
 have hl:df w D E w D' E:=⟨hD,fun _ _ _ _ h=>h,fun _ _ _ h=>h,fun _ aA l h=>⟨aA,l,h,Z7 _,fun _=>rfl⟩,fun _ _ h=>h,fun _ _ h=>h,fun _ _ _ _ h=>h⟩
 refine ⟨h.sz,h.ec,fun t=>aP.later hl (h.dB t),h.de,hold,hlive,fun n =>?_,h.cu,h.dx,h.eJ,fun b o hd=>hD b o (h.cw b o hd),h.eQ,h.fq⟩;have ho:=h.bx n;cases hx:A.o n with
 |none=>rw[hx] at ho;exact ho
 |some x =>
  cases x with
  |box x =>
   rw[hx] at ho;obtain ⟨b,cs,T,h1,h2,h3,h4,h5⟩:=ho;exact ⟨b,cs,T,h1,h2,h3,ae.later hl _ _ h4,hbox n x b hx h1⟩
  |bJ T sz es =>
   rw[hx] at ho;obtain ⟨aA,h1,h2,h3⟩:=ho;refine ⟨aA,h1,h2,?_⟩;cases aA with
   |none=>exact h3
   |some bc =>
    obtain ⟨b,cap⟩:=bc;obtain ⟨cs,pre,rest,h4,h5,h6,h7,h8,h9,h10,h11⟩:=h3;refine ⟨cs,pre,rest,h4,h5,h6,az.later hl _ _ h7,h8,h9,h10,fun o hd =>?_⟩;rw[az.length _ _ h7,I.fZ _ h2];exact hrow n T sz es b cap hx h1 o hd
  |c6 x =>
   rw[hx] at ho;obtain ⟨b,h1,h2,h3,h4,h5⟩:=ho;exact ⟨b,h1,h2,h3,h4,hopq n _ b h1 rfl rfl⟩
  |bZ ks vs =>
   rw[hx] at ho;obtain ⟨b,es,ck,h1,h2,h3,h4,h5,h6,h7⟩:=ho;exact ⟨b,es,ck,h1,h2,h3,h4,ak.later hl _ _ h5,ak.later hl _ _ h6,hopq n _ b h1 rfl rfl⟩
  |it ks vs left cur =>
   rw[hx] at ho;obtain ⟨r,b,es,ck,dN,se,la,h1,h2,h3,h4,h5,h6,h7,h8,h9,h9',h10⟩:=ho;exact ⟨r,b,es,ck,dN,se,la,h1,h2,h3,h4.later hl,ak.later hl _ _ h5,ak.later hl _ _ h6,h7,h8,h9,h9',hopq n _ r h1 rfl rfl⟩
  |dJ T xs =>
   rw[hx] at ho;obtain ⟨aA,h1,h2,h3⟩:=ho;refine ⟨aA,h1,h2,?_⟩;cases aA with
   |none=>exact h3
   |some bc =>
    obtain ⟨b,cap⟩:=bc;obtain ⟨cs,m,h4,h5,h6,h7,h8,h9,h10⟩:=h3;exact ⟨cs,m,h4,h5,h6,h7,h8,h9,hui n T xs b cap hx h1⟩
theorem TT(a:Act)(d:Nat)(v:Value)(t:Nat)(hd:d<a.tmps.size):(a.put (some d) v).tmps.getD t undef=if t=d then v else a.tmps.getD t undef:=by
 simp only[Act.put,Array.getD_eq_getD_getElem?,Array.getElem?_setIfInBounds];by_cases h:t=d
 ·subst h;simp[hd]
 ·simp[h,Ne.symm h]
theorem aL.put(h:aL c A a w D E){d:Nat}{x:I}{v:Value}(hd:d<c.n)(hv:aP w D E x v):aL c (A.put d x) (a.put (some d) v) w D E:=by
 refine ⟨by simp[Act.put,h.sz],by exact h.ec,fun t =>?_,h.de,h.cI,h.cK,h.bx,h.cu,h.dx,h.eJ,h.cw,h.eQ,h.fq⟩;rw[TT a d v t (by rw[h.sz];exact hd)];simp only[ab.put];split
 ·exact hv
 ·exact h.dB t
theorem aL.aN(h:aL c A a w D E){d:Option Nat}{x:I}{v:Value}(hd:∀ k,d=some k→k<c.n)(hv:aP w D E x v):aL c (A.aN d x) (a.put d v) w D E:=by
 cases d with
 |none=>exact h
 |some d=>exact h.put (hd d rfl) hv
theorem ja(w:World)(o:Obj):Below w.heap.size w (w.alloc o):=(Below.refl _ _).alloc (Z7 _) o
theorem DI{w:World}{D:aJ}{E:aM} : ∀ {xs:List I} {vs:List Value},ak w D E xs vs→vs.length=xs.length
 | [],vs,h=>by simp only[ak] at h;subst h;rfl
 |x::xs,vs,h=>by
  simp only[ak] at h;obtain ⟨v,rest,cs,rfl,_,_,h3⟩:=h;simp[DI h3]
theorem aL.si(h:aL c A a w D E){d:Nat}{x:ai}{o':Obj}{e:bu}(hdn:d<c.n∨d<1000000)(hd:A.o d=none)(heb:e.aA=some w.heap.size)
  (hx:df w D E (w.alloc o') D (fun n=>if n=d then some e else E n)→(∀ o,¬ D w.heap.size o)→cS c.eb (w.alloc o') D (fun n=>if n=d then some e else E n) d (some x)) :
  aL c (A.aQ d x) a (w.alloc o') D (fun n=>if n=d then some e else E n):=by
 have hEd:E d=none:=by have:=h.bx d;rw[hd] at this;exact this
 have hne:∀ {n:Nat} {e:bu},E n=some e→n≠d:=fun he e'=>by rw[e',hEd] at he;cases he
 have hl:df w D E (w.alloc o') D (fun n=>if n=d then some e else E n):=by
  refine ⟨fun _ _ h=>h,fun b o v _ hv =>?_,fun n b aK he =>?_,fun n aA l he =>?_,fun n b he =>?_,fun n b he =>?_,fun b es ck _ hm=>(Below.heap_alloc w _ b (eI hm)).trans hm⟩
  ·rw[World.cell?_alloc_lt _ _ _ (World.block_lt_of_cell? w _ hv)];exact hv
  ·simp only[if_neg (hne he)];exact he
  ·exact ⟨aA,l,by simp only[if_neg (hne he)];exact he,Z7 _,fun _=>rfl⟩
  ·simp only[if_neg (hne he)];exact he
  ·simp only[if_neg (hne he)];exact he
 refine ⟨h.sz,h.ec.grow (ja w _),fun t=>aP.later hl (h.dB t),h.de.trans (h.AJ (ja w _)),h.cI,fun b o hd'=>by have:=h.cK b o hd';simp;omega,fun n =>?_,?_,fun n e' hn =>?_,h.eJ,h.cw,h.eQ,h.jT hl⟩
 ·simp only[ab.aQ];by_cases hn:n=d
  ·subst hn;simp only[if_true];exact hx hl fun o ho=>Nat.lt_irrefl _ (h.cK _ o ho)
  ·simp only[if_neg hn];exact (h.bx n).later hl (by simp only[if_neg hn]) fun e b he hb=>⟨Below.heap_alloc w _ b (h.eX he hb),fun _ ho=>ho⟩
 ·intro n m e1 e2 b h1 h2 h3 h4;by_cases hn:n=d <;>by_cases hm:m=d
  ·rw[hn,hm]
  ·simp only[if_pos hn,v6] at h1;simp only[if_neg hm] at h2;subst h1;rw[heb] at h3;cases h3;have:=h.eX h2 h4;omega
  ·simp only[if_neg hn] at h1;simp only[if_pos hm,v6] at h2;subst h2;rw[heb] at h4;cases h4;have:=h.eX h1 h3;omega
  ·simp only[if_neg hn] at h1;simp only[if_neg hm] at h2;exact h.cu n m e1 e2 b h1 h2 h3 h4
 ·have hnd:n≠d:=fun e=>by rw[e,h.jA hdn] at hn;cases hn
  simp only[if_neg hnd];exact h.dx n e' hn
theorem aL.pO(h:aL c A a w D E){d:Nat}{x:I}{cs:Array Value}{T:TypeId}(hdn:d<c.n∨d<1000000)(hd:A.o d=none)(hx:ae w D E x cs.toList) :
  aL c (A.aQ d (.box x)) a (w.alloc (.cells cs T)) D (fun n=>if n=d then some (.aB w.heap.size x.aK) else E n) :=
 h.si hdn hd rfl fun hl hno=>⟨w.heap.size,cs,T,by simp,.inl h.de.size,.BB (heap_alloc_new w _),ae.later hl _ _ hx,hno⟩
theorem aL.VF(h:aL c A a w D E){d:Nat}(hdn:d<c.n∨d<1000000)(hd:A.o d=none) :
  aL c (A.aQ d (.bZ [] [])) a (w.alloc (.map #[] 0)) D (fun n=>if n=d then some (.bZ w.heap.size) else E n) :=
 h.si hdn hd rfl fun _ hno=>⟨w.heap.size,#[],0,by simp,.inl h.de.size,heap_alloc_new w _,⟨by simp,by simp⟩,by simp[ak],by simp[ak],hno⟩
theorem aL.VE(h:aL c A a w D E){d b clock:Nat}{ks vs:List I}{es:Array MapEntry}(hdn:d<c.n∨d<1000000)(hd:A.o d=none)(hm:mE w D b es clock)(hk:ak w D E ks (es.toList.map (·.key)))(hv:ak w D E vs (es.toList.map (·.val))) :
  aL c (A.aQ d (.it ks vs (List.range ks.length) none)) a (w.alloc (.mapIter (some b) clock #[] clock)) D (fun n=>if n=d then some (.it w.heap.size) else E n) :=
 h.si hdn hd rfl fun hl hno=>⟨w.heap.size,b,es,clock,clock,#[],clock,by simp,.inl h.de.size,heap_alloc_new w _,hm.later hl,ak.later hl _ _ hk,ak.later hl _ _ hv,hm.2.2.1,⟨Z7 _,Z7 _⟩,by
  have e:ks.length=es.size:=by have:=DI hk;simpa using this.symm
  rw[e];unfold mD;exact (List.filter_eq_self.2 fun i hi=>by
   have hi':i<es.size:=by simpa using hi
   simp[zy6 hi']).symm,(fun i hi=>by cases hi),hno⟩
theorem ud(w:World)(g:Nat)(cs:Array Value)(p:Addr)(h:p.block≠g):(w.setRow g cs).cell? p=w.cell? p :=
 World.cell?_of_block (setRow_other w g p.block cs h)
theorem vc{M:Nat→Prop}{cM w:World}(h:ej M cM w){g:Nat}(hg:M g)(cs:Array Value):ej M cM (w.setRow g cs) :=
 h.trans ⟨rfl,rfl,rfl,by simp[World.setRow],fun k hk=>setRow_other w g k cs (fun e=>hk (e▸hg))⟩
theorem aL.wj(h:aL c A a w D E){n b:Nat}{x y:I}{cs':Array Value}(hn:A.o n=some (.box x))(aq:E n=some (.aB b x.aK))(hs:y.aK=x.aK)(hy:ae w D E y cs'.toList) :
  aL c (A.aQ n (.box y)) a (w.setRow b cs') D E:=by
 have ho:=h.bx n;rw[hn] at ho;obtain ⟨b',cs,T,h1,h2,h3,h4,h5⟩:=ho;rw[aq] at h1;simp only[v6,bu.aB.injEq,and_true] at h1;subst h1;have hl:df w D E (w.setRow b cs') D E:=by
  refine ⟨fun _ _ h=>h,fun b1 o v hd hv =>?_,fun _ _ _ h=>h,fun _ aA l h=>⟨aA,l,h,Z7 _,fun _=>rfl⟩,fun _ _ h=>h,fun _ _ h=>h,fun b1 es ck hd hm=>(setRow_other w b b1 _ (fun e=>h5 0 (by rw[←e];exact hd))).trans hm⟩;rw[ud _ _ _ _ (fun e=>h5 o (by rw[←e];exact hd))];exact hv
 refine ⟨h.sz,h.ec.mono fun B _ hB=>(setRow_other w b B cs' (fun e=>h3.By (by rw[←e];exact hB))).trans hB,fun t=>aP.later hl (h.dB t),vc h.de h2 _,h.cI,fun b1 o hd=>by have:=h.cK b1 o hd;simpa[World.setRow] using this,fun m =>?_,h.cu,h.dx,h.eJ,h.cw,h.eQ,h.jT hl⟩;simp only[ab.aQ];by_cases hm:m=n
 ·subst hm;simp only[if_true,cS];exact ⟨b,cs',T,by rw[hs];exact aq,h2,dT.aK (h3.setRow (by have a1:=ae.length _ _ hy;have a2:=ae.length _ _ h4;rw[←I.hJ,hs,I.hJ,←a2] at a1;simpa using a1)) hs,ae.later hl _ _ hy,h5⟩
 ·simp only[if_neg hm];refine (h.bx m).later hl rfl fun e b1 he hb=>⟨setRow_other w b b1 cs' (fun e1=>hm (h.cu m n e _ b he aq (by rw[hb,e1]) rfl)),fun _ ho=>ho⟩
theorem ue{w:World}{B:Nat}{o o':Obj}(h:w.heap[B]?=some o)(ho:o.isCells=false){b off:Nat}{v:Value}(hv:w.cell? ⟨b,off,none⟩=some v):(w.putObj B o').cell? ⟨b,off,none⟩=some v:=by
 have hne:b≠B:=fun e=>by
  obtain ⟨o2,h2,h3⟩:=cells_of_cell hv;simp only at h2;rw[e,h] at h2;cases h2;rw[ho] at h3;cases h3
 rw[World.cell?_of_block (w:=w) (World.putObj_heap_other hne)];exact hv
theorem aL.wm(h:aL c A a w D E){n b:Nat}{e:bu}{x:ai}{o0 o':Obj}(aq:E n=some e)(ho:e.eV=true)(hb:e.aA=some b)(hw:w.heap[b]?=some o0)(hnc:o0.isCells=false)(hnd:∀ q,o0≠.deferred q)(hmine:c.eb b)
  (hx:df w D E (w.putObj b o') D E→(w.putObj b o').heap[b]?=some o'→(∀ o,¬ D b o)→cS c.eb (w.putObj b o') D E n (some x)):aL c (A.aQ n x) a (w.putObj b o') D E:=by
 have hno:=h.vH aq ho hb;have hlt:b<w.heap.size:=eI hw;have hl:df w D E (w.putObj b o') D E:=⟨fun _ _ h=>h,fun b1 o1 v _ hv=>ue hw hnc hv,fun _ _ _ h=>h,fun _ aA l h=>⟨aA,l,h,Z7 _,fun _=>rfl⟩,fun _ _ h=>h,fun _ _ h=>h,
  fun b1 es ck hd hm=>(World.putObj_heap_other (fun e1=>hno 0 (by rw[←e1];exact hd))).trans hm⟩
 refine ⟨h.sz,h.ec.mono fun B _ hB=>(World.putObj_heap_other (fun e1=>by rw[e1,hw] at hB;exact hnd _ (Option.some.inj hB))).trans hB,fun t=>aP.later hl (h.dB t),h.de.trans ⟨rfl,rfl,rfl,by simp,fun k hk=>World.putObj_heap_other (fun e1=>hk (e1▸hmine))⟩,h.cI,
  fun b1 o1 hd=>by have:=h.cK b1 o1 hd;simpa using this,fun m =>?_,h.cu,h.dx,h.eJ,h.cw,h.eQ,h.jT hl⟩
 simp only[ab.aQ];by_cases hm:m=n
 ·subst hm;simp only[if_true];exact hx hl (World.putObj_heap_same hlt) hno
 ·simp only[if_neg hm];exact (h.bx m).later hl rfl fun e' b1 he hb'=>⟨World.putObj_heap_other (fun e1=>hm (h.cu m n e' _ b1 he aq hb' (by rw[e1];exact hb))),fun _ ho=>ho⟩
end
inductive ay where
 |t (n:Nat)
 |c (x:I)
 deriving Inhabited
inductive bY where
 |i (k:IntKind)
 |b
 |s
 |aV (l:List bY)
 |oT (n:Nat) (e:bY)
 deriving Inhabited
mutual
def bY.size:bY→Nat
 | .i _ | .b | .s=>1
 | .aV l=>bY.sizes l
 | .oT n e=>n*e.size
def bY.sizes:List bY→Nat
 | []=>0
 |t::ts=>t.size+bY.sizes ts
end
inductive tF where
 |dN
 |ss (lo hi:Bool)
 |mG (neg:Bool)
 |min2
 |lT (T:TypeId)
 |kj
 deriving Inhabited,DecidableEq
inductive br where
 |mv (x:ay)
 |pick (c a b:ay)
 |bin (op:BinOp) (x y:ay)
 |eqv (ty:bY) (neg:Bool) (x y:ay)
 |nilS (neg:Bool) (x:ay)
 |conv (k:IntKind) (x:ay)
 |un (op:UnOp) (x:ay)
 |ld (s:Option Nat) (x:ay)
 |fa (f off:Nat) (x:ay)
 |fl (f off:Nat) (s:Option Nat) (x:ay)
 |ia (n esz:Nat) (x i:ay)
 |is (esz:Nat) (x i:ay)
 |ix (n esz:Nat) (s:Option Nat) (x i:ay)
 |len (x:ay)
 |lenT (x:ay)
 |va (n esz:Nat) (x:ay)
 |sl (esz:Nat) (x:ay) (lo hi mx:Option ay)
 |bld (zs:List I) (parts:List (Nat×ay))
 |bs (T esz:Nat) (parts:List ay)
 |ext (x:ay) (i:Nat)
 |mk (f:FuncId) (caps:List ay)
 |alloc (z:I)
 |box (x:ay)
 |aV (s:Option Nat) (x v:ay)
 |dD (e:TypeId) (esz bytes:Nat) (z:I) (s x:ay)
 |jt (e:TypeId) (esz bytes:Nat) (z:I) (s n:ay)
 |cap (x:ay)
 |bs0 (esz:Nat)
 |jb (esz:Nat) (z:I) (x:ay)
 |fQ (esz:Nat) (x y:ay)
 |call (f:FuncId) (args:List ay)
 |eY (x:ay) (args:List ay)
 |gv (f:FuncId) (args:List ay)
 |nilC (x:ay)
 |ptrE (neg:Bool) (x y:ay)
 |max2 (x y:ay)
 |prim (p:tF) (xs:List ay)
 |b2s (x:ay)
 |eE (x:ay)
 |jl (e:TypeId) (bytes:Nat) (z:I) (n:ay)
 |ke
 |lk (ty:bY) (z:I) (ok:Bool) (m k:ay)
 |jH (ty:bY) (m k v:ay)
 |lg (ty:bY) (m k:ay)
 |jP (x:ay)
 |jI (x:ay)
 |ent (x:ay)
 deriving Inhabited
def qS(sz:Nat):Value→Option I
 | .bool b=>some (.bool b)
 | .int k n=>if k.min≤n∧n≤k.max then some (.int k n) else none
 | .string s=>if s.size≤1000000 then some (.aj s) else none
 | .pointer none=>some .nilp
 | .slice none 0 0=>some (.nils sz)
 | .nilFunc=>some .cZ
 | .nilIface=>some .cL
 | .map none=>some (.raw (.map none))
 |_=>none
theorem GS{sz:Nat}{v:Value}{x:I}(h:qS sz v=some x)(w:World)(D:aJ)(E:aM):aP w D E x v:=by
 unfold qS at h;split at h
 case h_2 =>
  split at h
  ·rename_i hh;simp only[v6] at h;subst h;exact ⟨_,by simp[aY,I.isAgg];rfl,by simp only[ae,true_and];exact hh⟩
  ·simp at h
 case h_3 =>
  split at h
  ·rename_i hh;simp only[v6] at h;subst h;exact ⟨_,by simp[aY,I.isAgg];rfl,by simp only[ae,true_and];unfold maxLen;omega⟩
  ·simp at h
 case h_9=>simp at h
 all_goals
  simp only[v6] at h;subst h;exact ⟨_,by simp[aY,I.isAgg];rfl,by simp[ae,Value.oneCell']⟩
def LL(P:Program)(t:TypeId):Nat:=match P.underlying t with | some (.slice e)=>P.cellsOf e | _=>0
def aT(P:Program)(t:TypeId):Operand→Option ay
 | .tmp n=>some (.t n)
 | .const v=>(qS (LL P t) v).map .c
 | .func f=>if f<1000000 then some (.c (.func f [])) else none
 | .global _=>none
def af(A:ab):ay→I
 | .t n=>A.t n
 | .c x=>x
section
variable {c:b9} {A:ab} {a:Act} {w:World} {D:aJ} {E:aM}
theorem bp(h:aL c A a w D E){P:Program}{t:TypeId}{x:Operand}{y:ay}(hc:aT P t x=some y):aP w D E (af A y) (a.eval x):=by
 cases x with
 |tmp n=>simp only[aT,v6] at hc;subst hc;exact h.dB n
 |const v =>
  simp only[aT,t7] at hc;obtain ⟨z,hz,rfl⟩:=hc;exact GS hz w D E
 |global g=>simp[aT] at hc
 |func f =>
  simp only[aT] at hc;split at hc
  case isFalse=>cases hc
  rename_i hf;simp only[v6] at hc;subst hc;exact ⟨[.func (.func f) #[] #[]],by simp[aY,I.isAgg,af,Act.eval],by simp only[ae,af,ak];exact ⟨[],by rw[lO hf],rfl⟩⟩
theorem kv{b:Bool}{v:Value}(h:aP w D E (.bool b) v):v=.bool b:=by
 obtain ⟨cs,h1,h2⟩:=h;simp only[ae] at h2;simp[aY,I.isAgg,h2] at h1;exact h1.symm
theorem dc{k:IntKind}{n:Int}{v:Value}(h:aP w D E (.int k n) v):v=.int k n∧k.min≤n∧n≤k.max:=by
 obtain ⟨cs,h1,h2⟩:=h;simp only[ae] at h2;simp[aY,I.isAgg,h2.1] at h1;exact ⟨h1.symm,h2.2⟩
theorem fM{s:ByteArray}{v:Value}(h:aP w D E (.aj s) v):v=.string s∧s.size≤maxLen:=by
 obtain ⟨cs,h1,h2⟩:=h;simp only[ae] at h2;simp[aY,I.isAgg,h2.1] at h1;exact ⟨h1.symm,h2.2⟩
theorem Bv{x:I}{v:Value}(hx:x.isAgg=false)(h:ae w D E x [v]):aP w D E x v:=by
 cases x <;>simp only[ae] at h <;>first | (simp[I.isAgg] at hx;done) | exact ⟨[v],by simp[aY,I.isAgg],by simpa only[ae] using h⟩
theorem iy{fs:List I}{v:Value}(h:aP w D E (.agg fs) v):∃ cs:List Value,v=.agg cs.toArray∧az w D E fs cs:=by
 obtain ⟨cs,h1,h2⟩:=h;simp only[ae] at h2;exact ⟨cs,by simpa[aY,I.isAgg] using h1,h2⟩
theorem Bu{fs:List I}{cs:List Value}(h:az w D E fs cs):aP w D E (.agg fs) (.agg cs.toArray):=⟨cs,by simp[aY,I.isAgg],by simpa only[ae] using h⟩
theorem kd(b:Bool):aP w D E (.bool b) (.bool b):=⟨[.bool b],by simp[aY,I.isAgg],by simp[ae]⟩
theorem gU{k:IntKind}{n:Int}(h:k.min≤n∧n≤k.max):aP w D E (.int k n) (.int k n):=⟨[.int k n],by simp[aY,I.isAgg],by simp only[ae,true_and];exact h⟩
theorem ky{n:Nat}{p:List Nat}{v:Value}(h:aP w D E (.ptr n p) v):∃ b aK off,E n=some (.aB b aK)∧aK.off p=some off∧v=.pointer (some ⟨b,off,none⟩):=by
 obtain ⟨cs,h1,h2⟩:=h;simp only[ae] at h2;obtain ⟨b,aK,off,h3,h4,h5⟩:=h2;exact ⟨b,aK,off,h3,h4,by simpa[aY,I.isAgg,h5] using h1.symm⟩
theorem ot{x:I}{v:Value}(h:aP w D E (.ref x) v):∃ b off cs,v=.pointer (some ⟨b,off,none⟩)∧reads w D b off cs∧ae w D E x cs:=by
 obtain ⟨cs,h1,h2⟩:=h;simp only[ae] at h2;obtain ⟨b,off,cs',h3,h4,h5⟩:=h2;exact ⟨b,off,cs',by simpa[aY,I.isAgg,h3] using h1.symm,h4,h5⟩
theorem r8{x:I}{b off:Nat}{cs:List Value}(h1:reads w D b off cs)(h2:ae w D E x cs):aP w D E (.ref x) (.pointer (some ⟨b,off,none⟩)) :=
 ⟨_,by simp[aY,I.isAgg];rfl,by simp only[ae];exact ⟨b,off,cs,rfl,h1,h2⟩⟩
theorem kz{sz:Nat}{es:List I}{v:Value}(h:aP w D E (.slice sz es) v):∃ ad cap,v=.slice ad es.length cap∧es.length≤cap∧cap≤maxLen ∧
  (es=[]∨∃ b off cs,ad=some ⟨b,off,none⟩∧reads w D b off cs∧az w D E es cs)∧∀ e∈es,e.size=sz:=by
 obtain ⟨cs,h1,h2⟩:=h;simp only[ae] at h2;obtain ⟨ad,cap,h3,h4⟩:=h2;exact ⟨ad,cap,by simpa[aY,I.isAgg,h3] using h1.symm,h4⟩
theorem r9{sz:Nat}{es:List I}{ad:Option Addr}{n cap:Nat}(hn:n=es.length)(h1:n≤cap)(h2:cap≤maxLen)
  (h3:es=[]∨∃ b off cs,ad=some ⟨b,off,none⟩∧reads w D b off cs∧az w D E es cs) (h4:∀ e∈es,e.size=sz):aP w D E (.slice sz es) (.slice ad n cap):=by
 subst hn;exact ⟨_,by simp[aY,I.isAgg];rfl,by simp only[ae];exact ⟨ad,cap,rfl,h1,h2,h3,h4⟩⟩
end
def bF(op:BinOp)(x y:I):Option I :=
 match x,y with
 | .int k a,.int k' b =>
  match op with
  | .shl=>if 0≤b then some (.int k (k.wrap (a*2^(min b.toNat k.bits)))) else none
  | .shr=>if 0≤b then some (.int k (a.fdiv (2^(min b.toNat k.bits)))) else none
  |op=>if k=k' then
   match op with
   | .add=>some (.int k (k.wrap (a+b)))
   | .sub=>some (.int k (k.wrap (a-b)))
   | .mul=>some (.int k (k.wrap (a*b)))
   | .quo=>if b=0 then none else some (.int k (k.wrap (a.tdiv b)))
   | .rem=>if b=0 then none else some (.int k (a.tmod b))
   | .and=>some (.int k (k.wrap ((BitVec.ofInt k.bits a &&& BitVec.ofInt k.bits b).toNat:Int)))
   | .or=>some (.int k (k.wrap ((BitVec.ofInt k.bits a ||| BitVec.ofInt k.bits b).toNat:Int)))
   | .xor=>some (.int k (k.wrap ((BitVec.ofInt k.bits a ^^^ BitVec.ofInt k.bits b).toNat:Int)))
   | .andNot=>some (.int k (k.wrap ((BitVec.ofInt k.bits a &&& ~~~ BitVec.ofInt k.bits b).toNat:Int)))
   | .eql=>some (.bool (a==b))
   | .neq=>some (.bool (a != b))
   | .lss=>some (.bool (decide (a<b)))
   | .leq=>some (.bool (decide (a≤b)))
   | .gtr=>some (.bool (decide (a>b)))
   | .geq=>some (.bool (decide (a≥b)))
   |_=>none
   else none
 | .aj s,.aj t =>
  match op with
  | .eql=>some (.bool (s.toList==t.toList))
  | .neq=>some (.bool (!(s.toList==t.toList)))
  | .lss=>some (.bool (Op.bytesLess s.toList t.toList))
  | .leq=>some (.bool (Op.bytesLess s.toList t.toList||s.toList==t.toList))
  | .gtr=>some (.bool (!(Op.bytesLess s.toList t.toList||s.toList==t.toList)))
  | .geq=>some (.bool (!(Op.bytesLess s.toList t.toList)))
  | .add=>if s.size+t.size≤9223372036854775807 then some (.aj (s++t)) else none
  |_=>none
 |_,_=>none
theorem oE(k:IntKind)(n:Int):k.min≤k.wrap n∧k.wrap n≤k.max:=by
 cases k <;>simp only[IntKind.min,IntKind.max,IntKind.wrap,IntKind.bits,IntKind.signed] <;>simp <;>(try split) <;>omega
theorem Yi(a b:Int):(0≤a→0≤a.tmod b∧a.tmod b≤a)∧(a<0→a≤a.tmod b∧a.tmod b≤0):=by
 have key:∀ n:Nat,0≤(n:Int).tmod b∧(n:Int).tmod b≤n:=by
  intro n;cases b with
  |ofNat m=>show 0≤((n%m:Nat):Int)∧((n%m:Nat):Int)≤n;have:=Nat.mod_le n m;omega
  |negSucc m=>show 0≤((n%(m+1):Nat):Int)∧((n%(m+1):Nat):Int)≤n;have:=Nat.mod_le n (m+1);omega
 refine ⟨fun h =>?_,fun h =>?_⟩
 ·obtain ⟨n,rfl⟩:=Y9 h;exact key n
 ·obtain ⟨n,hn⟩:=Y9 (show 0≤-a by omega);have:=key n;rw[←hn,Int.neg_tmod] at this;omega
theorem Yj(k:IntKind)(a b:Int)(h:k.min≤a∧a≤k.max):k.min≤a.tmod b∧a.tmod b≤k.max:=by
 have h0:k.min≤0∧0≤k.max:=by cases k <;>simp[IntKind.min,IntKind.max,IntKind.bits,IntKind.signed]
 have:=Yi a b;omega
theorem LZ(a:Int)(m:Int)(hm:0<m):(0≤a→0≤a.fdiv m∧a.fdiv m≤a)∧(a<0→a≤a.fdiv m∧a.fdiv m≤0):=by
 rw[Int.fdiv_eq_ediv_of_nonneg _ (by omega)];have h1:=Int.mul_ediv_add_emod a m;have h2:=Int.emod_nonneg a (show m≠0 by omega);refine ⟨fun h=>⟨Int.ediv_nonneg h (by omega),Int.ediv_le_self _ h⟩,fun h=>⟨?_,?_⟩⟩
 ·rw[Int.le_ediv_iff_mul_le hm];have:a*m≤a*1:=Int.mul_le_mul_of_nonpos_left (by omega) (by omega);omega
 ·have:=Int.ediv_neg_of_neg_of_pos h hm;omega
theorem L0(k:IntKind)(a:Int)(n:Nat)(h:k.min≤a∧a≤k.max):k.min≤a.fdiv (2^n)∧a.fdiv (2^n)≤k.max:=by
 have h0:k.min≤0∧0≤k.max:=by cases k <;>simp[IntKind.min,IntKind.max,IntKind.bits,IntKind.signed]
 have:=LZ a (2^n) (Int.pow_pos (by omega));omega
def bQ(A:ab):I→Option I
 | .ref x=>some x
 | .ptr n p=>match A.o n with
  |some (.box x)=>x.at p
  |_=>none
 |_=>none
mutual
def I.bw:I→Bool
 | .agg fs=>I.b7 fs
 | .slice _ es=>I.b7 es
 | .ref x=>x.bw
 | .func _ caps=>I.b7 caps
 | .iface _ v=>v.bw
 | .cW ks vs=>I.b7 ks&&I.b7 vs
 | .ptr _ _ | .own _ _ | .view _ _ _ _ _ | .mref _ | .cR _ | .undef | .cU | .tuple _=>false
 | .bool _ | .int _ _ | .aj _ | .nilp | .cZ | .cL | .any | .raw _ | .nils _ | .c0 _=>true
def I.b7:List I→Bool
 | []=>true
 |x::xs=>x.bw&&I.b7 xs
end
def gE(f:I→Option I):List I→Option (List I)
 | []=>some []
 |x::xs=>match f x,gE f xs with
  |some y,some ys=>some (y::ys)
  |_,_=>none
def fS(A:ab):Nat→I→Option I
 |0,_=>none
 |k+1,x=>if x.bw then some x else match x with
  | .agg fs=>(gE (fS A k) fs).map .agg
  | .func f caps=>if f<1000000 then (gE (fS A k) caps).map (.func f) else some .any
  | .ptr n p=>match bQ A (.ptr n p) with
   |some y=>(fS A k y).map .ref
   |none=>none
  | .view n p sz lo l=>match bQ A (.ptr n p) with
   |some (.agg fs)=>if I.b7 ((fs.drop lo).take l)=true then some (.slice sz ((fs.drop lo).take l)) else none
   |_=>none
  | .mref n=>match A.o n with
   |some (.bZ ks vs)=>if I.b7 ks=true then (gE (fS A k) vs).map (.cW ks) else none
   |_=>none
  | .own n l=>match A.o n with
   |some (.bJ _ sz es)=>if l=es.length∧I.b7 es=true then some (.slice sz es) else none
   |_=>none
  |_=>none
mutual
/-- The value for others to hold: pointers to the frame's own variables and rows become what they hold. -/
def ba(aB:Bool)(A:ab):I→Option I
 | .ptr n p=>if aB then (match bQ A (.ptr n p) with | some x=>if x.bw then some (.ref x) else (fS A 9 x).map .ref | none=>none) else none
 | .own n k=>match A.o n with
  |some (.bJ _ sz es)=>if k=es.length∧I.b7 es=true then some (.slice sz es) else none
  |_=>none
 | .view n p sz lo k=>if aB then (match bQ A (.ptr n p) with
  |some (.agg fs)=>if I.b7 ((fs.drop lo).take k)=true then some (.slice sz ((fs.drop lo).take k)) else none
  |_=>none) else none
 | .mref n=>if aB then (match A.o n with
  |some (.bZ ks vs)=>if I.b7 ks=true then (gE (fS A 9) vs).map (.cW ks) else none
  |_=>none) else none
 | .cR _=>none
 | .cW ks vs=>if I.b7 ks&&I.b7 vs then some (.cW ks vs) else none
 | .nils sz=>some (.slice sz [])
 | .c0 sz=>some (.slice sz [])
 | .func f caps=>if f<1000000 then (bE aB A caps).map (.func f) else some .any
 | .agg fs=>(bE aB A fs).map .agg
 | .tuple _=>none
 | .undef=>none
 | .cU=>none
 | .bool b=>some (.bool b)
 | .int k n=>some (.int k n)
 | .aj s=>some (.aj s)
 | .nilp=>some .nilp
 | .cZ=>some .cZ
 | .cL=>some .cL
 | .any=>some .any
 | .raw u=>some (.raw u)
 | .slice sz es=>if I.b7 es then some (.slice sz es) else none
 | .ref x=>if x.bw then some (.ref x) else none
 | .iface t v=>if v.bw then some (.iface t v) else none
def bE(aB:Bool)(A:ab):List I→Option (List I)
 | []=>some []
 |x::xs=>match ba aB A x,bE aB A xs with
  |some y,some ys=>some (y::ys)
  |_,_=>none
end
def bU(s:Option Nat)(x:I):Bool:=match s with
 |none => !x.isAgg
 |some n=>x.isAgg&&x.size==n
def I.cC:I→Bool
 | .undef | .cU | .tuple _=>false
 |_=>true
def gA(n esz:Nat)(fs:List I):Bool:=fs.length==n&&fs.all fun f=>f.size==esz
def fB(zs:List I):List (Nat×I)→Option (List I)
 | []=>some zs
 |(i,v)::rest=>match zs[i]? with
  |some z=>if v.cC=true∧v.size=z.size then fB (zs.set i v) rest else none
  |none=>none
def gy(x:Option I)(d:Int):Option Int:=match x with
 |none=>some d
 |some (.int _ n)=>some n
 |_=>none
def hU(sz:Nat)(es:List I)(lo hi mx:Option I):Option I :=
 match gy hi es.length with
 |none=>none
 |some h=>match gy mx es.length with
  |none=>none
  |some m=>match gy lo 0 with
   |none=>none
   |some l=>if 0≤l∧l≤h∧h≤m∧m≤es.length then
     (if mx.isSome∧m=l then some (.c0 sz) else some (.slice sz ((es.take h.toNat).drop l.toNat))) else none
def iB(n:Nat)(p:List Nat)(sz lo k total:Nat)(lo' hi' mx':Option I):Option I :=
 match gy hi' k with
 |none=>none
 |some h=>match gy lo' 0 with
  |none=>none
  |some l=>match mx' with
   |none=>if 0≤l∧l≤h∧h≤((total-lo:Nat):Int) then (if l=((total-lo:Nat):Int) then some (.c0 sz) else some (.view n p sz (lo+l.toNat) (h.toNat-l.toNat))) else none
   |some (.int _ m)=>if 0≤l∧l≤h∧h≤m∧m≤((total-lo:Nat):Int) then some .cU else none
   |_=>none
def ic(a b:Option Bool):Option Bool:=match a,b with
 |some x,some y=>some (x&&y)
 |_,_=>none
mutual
/-- '==',part by part. -/
def bT:bY→I→I→Option Bool
 | .i k,x,y=>match x,y with
  | .int k1 a,.int k2 b=>if k1=k∧k2=k then some (a==b) else none
  |_,_=>none
 | .b,x,y=>match x,y with
  | .bool a,.bool b=>some (a==b)
  |_,_=>none
 | .s,x,y=>match x,y with
  | .aj a,.aj b=>some (a.toList==b.toList)
  |_,_=>none
 | .aV l,x,y=>match x,y with
  | .agg fs,.agg gs=>gh l fs gs
  |_,_=>none
 | .oT n e,x,y=>match x,y with
  | .agg fs,.agg gs=>if fs.length=n∧gs.length=n then (fs.zip gs).foldr (fun p acc=>ic (bT e p.1 p.2) acc) (some true) else none
  |_,_=>none
def gh:List bY→List I→List I→Option Bool
 | [],fs,gs=>match fs,gs with
  | [],[]=>some true
  |_,_=>none
 |t::ts,fs,gs=>match fs,gs with
  |f::fs,g::gs=>ic (bT t f g) (gh ts fs gs)
  |_,_=>none
end
def nI(k:IntKind)(n:Int):Int:=k.wrap ((BitVec.ofInt k.bits (if k.signed then -1 else k.max) ^^^ BitVec.ofInt k.bits n).toNat:Int)
def gS(ty:bY)(k:I):List I→Nat→Option (Option Nat)
 | [],_=>some none
 |x::xs,i=>match bT ty k x with
  |some true=>some (some i)
  |some false=>gS ty k xs (i+1)
  |none=>none
def fK(A:ab):I→Option (List I×List I)
 | .cW ks vs=>some (ks,vs)
 | .mref n=>match A.o n with
  |some (.bZ ks vs)=>some (ks,vs)
  |_=>none
 | .raw (.map none)=>some ([],[])
 |_=>none
def pK(ty:bY)(z k:I)(ks vs:List I):Option (I×Bool) :=
 if (bT ty k k).isSome then (match gS ty k ks 0 with
  |some (some i)=>(vs[i]?).map fun v=>(v,true)
  |some none=>some (z,false)
  |none=>none) else none
def gT:I→Option Bool
 | .nilp=>some true
 | .ptr _ _=>some false
 | .ref _=>some false
 |_=>none
def pN(ty:bY)(k v:I)(ks vs:List I):Option (List I×List I) :=
 if (bT ty k k).isSome=true∧k.cC=true∧v.cC=true then (match gS ty k ks 0 with
  |some (some i)=>some (ks,vs.set i v)
  |some none=>some (ks++[k],vs++[v])
  |none=>none) else none
def vl(ty:bY)(k:I)(ks vs:List I):Option (List I×List I) :=
 if (bT ty k k).isSome=true then (match gS ty k ks 0 with
  |some (some i)=>some (ks.eraseIdx i,vs.eraseIdx i)
  |some none=>some (ks,vs)
  |none=>none) else none
def mF:I→Option I
 | .ptr n p=>some (.ptr n p)
 | .ref x=>some (.ref x)
 |_=>none
def vu:I→I→Option I
 | .int k a,.int k2 b=>if k=k2 then some (.int k (if b>a then b else a)) else none
 |_,_=>none
def lZ(neg:Bool):Option Bool→Option Bool→Option I
 |some a,some b=>if a||b then some (.bool (if neg then !(a&&b) else (a&&b))) else none
 |_,_=>none
def pJ(ok:Bool):Option (I×Bool)→Option I
 |some (v,b)=>some (if ok then .tuple [v,.bool b] else v)
 |none=>none
def pI(ty:bY)(z:I)(ok:Bool)(k:I):Option (List I×List I)→Option I
 |some (ks,vs)=>pJ ok (pK ty z k ks vs)
 |none=>none
def rh(ks vs:List I):Option Nat→Option I
 |some i=>match ks[i]?,vs[i]? with
  |some k,some v=>some (.tuple [k,v])
  |_,_=>none
 |none=>none
def mq:List I→Option (List UInt8)
 | []=>some []
 |x::xs=>match x,mq xs with
  | .int .u8 n,some l=>some (UInt8.ofNat n.toNat::l)
  |_,_=>none
def cP(A:ab)(sz:Nat):I→Option (List I)
 | .slice z es=>if z=sz then some es else none
 | .nils _=>some []
 | .c0 _=>some []
 | .own n l=>match A.o n with
  |some (.bJ _ z es)=>if l=es.length∧z=sz then some es else none
  |_=>none
 | .view n p z lo k=>match bQ A (.ptr n p) with
  |some (.agg fs)=>if lo+k≤fs.length∧z=sz then some ((fs.drop lo).take k) else none
  |_=>none
 |_=>none
def ef:tF→List I→Option I
 | .dN,[.aj s,.int _ i]=>if 0≤i then (s.data.toList[i.toNat]?).map fun b=>.int .u8 b.toNat else none
 | .ss false true,[.aj s,.int _ h]=>if 0≤h∧h≤s.size then some (.aj (s.extract 0 h.toNat)) else none
 | .ss true false,[.aj s,.int _ l]=>if 0≤l∧l≤s.size then some (.aj (s.extract l.toNat s.size)) else none
 | .ss true true,[.aj s,.int _ l,.int _ h]=>if 0≤l∧l≤h∧h≤s.size then some (.aj (s.extract l.toNat h.toNat)) else none
 | .mG neg,[.cL]=>some (.bool (!neg))
 | .mG neg,[.iface _ _]=>some (.bool neg)
 | .min2,[.int k a,.int k2 b]=>if k=k2 then some (.int k (if b<a then b else a)) else none
 | .lT T,[x]=>if x.bw=true∧x.cC=true then some (.iface T x) else none
 |_,_=>none
def kM:Option (List I)→Option I
 |some es=>(mq es).map fun l=>.aj ⟨l.toArray⟩
 |none=>none
def jS(A:ab)(sz:Nat):I→Option (List I)
 | .aj s=>if sz=1 then some (s.data.toList.map fun b=>.int .u8 b.toNat) else none
 |x=>cP A sz x
def lv:I→Option (List I)
 | .aj s=>some (s.data.toList.map fun b=>.int .u8 b.toNat)
 |_=>none
def aU(A:ab):br→Option I
 | .mv x=>some (af A x)
 | .pick c a b=>match af A c with | .bool t=>some (if t then af A a else af A b) | _=>none
 | .bin op x y=>bF op (af A x) (af A y)
 | .eqv ty neg x y=>(bT ty (af A x) (af A y)).map fun b=>.bool (if neg then !b else b)
 | .nilS neg x=>match af A x with
  | .nils _=>some (.bool (!neg))
  | .slice _ es=>if es.isEmpty then none else some (.bool neg)
  | .view _ _ _ _ _=>some (.bool neg)
  |_=>none
 | .conv k x=>match af A x with | .int _ n=>some (.int k (k.wrap n)) | _=>none
 | .un op x=>match op,af A x with
  | .not,.bool b=>some (.bool !b)
  | .neg,.int k n=>some (.int k (k.wrap (0-n)))
  | .xor,.int k n=>some (.int k (nI k n))
  |_,_=>none
 | .ld s x=>match bQ A (af A x) with | some v=>if bU s v then some v else none | none=>none
 | .fa f off x=>match af A x with
  | .ref (.agg fs)=>match fs[f]? with | some v=>if I.sizes (fs.take f)=off then some (.ref v) else none | none=>none
  | .ptr n p=>match bQ A (.ptr n p) with | some (.agg fs)=>if f<fs.length∧I.sizes (fs.take f)=off then some (.ptr n (p++[f])) else none | _=>none
  |_=>none
 | .fl f off s x=>match af A x with
  | .agg fs=>match fs[f]? with | some v=>if I.sizes (fs.take f)=off∧bU s v=true then some v else none | none=>none
  |_=>none
 | .ia n esz x i=>match af A i with
  | .int _ k=>if 0≤k∧k<n then (match af A x with
   | .ref (.agg fs)=>if gA n esz fs then (fs[k.toNat]?).map .ref else none
   | .ptr m p=>match bQ A (.ptr m p) with | some (.agg fs)=>if gA n esz fs then some (.ptr m (p++[k.toNat])) else none | _=>none
   |_=>none) else none
  |_=>none
 | .is esz x i=>match af A i with
  | .int _ k=>match af A x with
   | .slice sz es=>if sz=esz∧0≤k∧k<es.length then (es[k.toNat]?).map .ref else none
   | .own m l=>match A.o m with | some (.bJ _ sz es)=>if l=es.length∧sz=esz∧0≤k∧k<es.length then (es[k.toNat]?).map .ref else none | _=>none
   | .view m p sz lo l=>match bQ A (.ptr m p) with | some (.agg _)=>if sz=esz∧0≤k∧k<l then some (.ptr m (p++[lo+k.toNat])) else none | _=>none
   |_=>none
  |_=>none
 | .ix n esz s x i=>match af A i with
  | .int _ k=>if 0≤k∧k<n then (match af A x with
   | .agg fs=>if gA n esz fs then (match fs[k.toNat]? with | some v=>if bU s v then some v else none | none=>none) else none
   |_=>none) else none
  |_=>none
 | .len x=>match af A x with
  | .slice _ es=>some (.int .i64 es.length)
  | .nils _ | .c0 _=>some (.int .i64 0)
  | .own m l=>match A.o m with | some (.bJ _ _ es)=>if l=es.length then some (.int .i64 es.length) else none | _=>none
  | .view _ _ _ _ k=>some (.int .i64 k)
  |_=>none
 | .cap x=>match af A x with
  | .nils _ | .c0 _=>some (.int .i64 ((0:Nat):Int))
  | .view n p _ lo _=>match bQ A (.ptr n p) with | some (.agg fs)=>some (.int .i64 ((fs.length-lo:Nat):Int)) | _=>none
  |_=>none
 | .bs0 esz=>some (.c0 esz)
 | .lenT x=>match af A x with
  | .aj s=>some (.int .i64 s.size)
  |_=>none
 | .va n esz x=>match af A x with
  | .ptr m p=>match bQ A (.ptr m p) with | some (.agg fs)=>if gA n esz fs=true∧n≤maxLen∧n≠0 then some (.view m p esz 0 n) else none | _=>none
  | .ref (.agg fs)=>if gA n esz fs=true∧n≤maxLen∧n≠0 then some (.slice esz fs) else none
  |_=>none
 | .sl esz x lo hi mx=>match af A x with
  | .slice sz es=>if sz=esz then hU sz es (lo.map (af A)) (hi.map (af A)) (mx.map (af A)) else none
  | .nils sz=>if sz=esz then hU sz [] (lo.map (af A)) (hi.map (af A)) (mx.map (af A)) else none
  | .c0 sz=>if sz=esz then hU sz [] (lo.map (af A)) (hi.map (af A)) (mx.map (af A)) else none
  | .view n p sz l0 k=>match bQ A (.ptr n p) with | some (.agg fs)=>if sz=esz then iB n p sz l0 k fs.length (lo.map (af A)) (hi.map (af A)) (mx.map (af A)) else none | _=>none
  |_=>none
 | .bld zs parts=>(fB zs (parts.map fun p=>(p.1,af A p.2))).map .agg
 | .nilC x=>mF (af A x)
 | .max2 x y=>vu (af A x) (af A y)
 | .prim p xs=>ef p (xs.map (af A))
 | .b2s x=>kM (cP A 1 (af A x))
 | .ptrE neg x y=>lZ neg (gT (af A x)) (gT (af A y))
 | .lk ty z ok m k=>pI ty z ok (af A k) (fK A (af A m))
 | .ent x=>match af A x with
  | .cR n=>match A.o n with
   |some (.it ks vs _ cur)=>rh ks vs cur
   |_=>none
  |_=>none
 | .bs _ esz parts=>match bE false A (parts.map (af A)) with
  |some es=>if (es.all fun e=>e.size==esz)∧I.b7 es then some (.slice esz es) else none
  |none=>none
 | .ext x i=>match af A x with | .tuple fs=>fs[i]? | _=>none
 | .mk f caps=>if ((caps.map (af A)).all fun y=>y.cC)=true then some (.func f (caps.map (af A))) else none
 |_=>none
mutual
theorem ae.eT{w:World}{D D':aJ}{E E':aM}(hD:∀ b o,D b o→D' b o):∀ (x:I) (cs:List Value),x.bw=true→ae w D E x cs→ae w D' E' x cs
 | .agg fs,cs,hc,hr=>by simp only[ae,I.bw] at *;exact az.eT hD fs cs hc hr
 | .bool b,cs,_,hr=>by simpa only[ae] using hr
 | .int k n,cs,_,hr=>by simpa only[ae] using hr
 | .aj s,cs,_,hr=>by simpa only[ae] using hr
 | .nilp,cs,_,hr=>by simpa only[ae] using hr
 | .cZ,cs,_,hr=>by simpa only[ae] using hr
 | .cL,cs,_,hr | .any,cs,_,hr=>by simpa only[ae] using hr
 | .raw _,cs,_,hr=>by simpa only[ae] using hr
 | .nils _,cs,_,hr=>by simpa only[ae] using hr
 | .c0 _,cs,_,hr=>by simpa only[ae] using hr
 | .slice sz es,cs,hc,hr=>by
  simp only[ae,I.bw] at *;obtain ⟨a,cap,h1,h2,h3,h4,h5⟩:=hr;refine ⟨a,cap,h1,h2,h3,?_,h5⟩;rcases h4 with h4 | ⟨b,off,cs',h6,h7,h8⟩
  ·exact .inl h4
  ·exact .inr ⟨b,off,cs',h6,fun j v hj=>⟨(h7 j v hj).1,hD _ _ (h7 j v hj).2⟩,az.eT hD es cs' hc h8⟩
 | .ref x,cs,hc,hr=>by
  simp only[ae,I.bw] at *;obtain ⟨b,off,cs',h1,h2,h3⟩:=hr;exact ⟨b,off,cs',h1,fun j v hj=>⟨(h2 j v hj).1,hD _ _ (h2 j v hj).2⟩,ae.eT hD x cs' hc h3⟩
 | .func f caps,cs,hc,hr=>by
  simp only[ae,I.bw] at *;obtain ⟨vs,h1,h2⟩:=hr;exact ⟨vs,h1,ak.eT hD caps vs hc h2⟩
 | .iface t v,cs,hc,hr=>by
  simp only[ae,I.bw] at *;obtain ⟨u,cs',h1,h2,h3⟩:=hr;exact ⟨u,cs',h1,h2,ae.eT hD v cs' hc h3⟩
 | .ptr n p,_,hc,_=>by simp[I.bw] at hc
 | .own n k,_,hc,_=>by simp[I.bw] at hc
 | .view n p _ _ _,_,hc,_=>by simp[I.bw] at hc
 | .mref n,_,hc,_=>by simp[I.bw] at hc
 | .cR n,_,hc,_=>by simp[I.bw] at hc
 | .cW ks vs,cs,hc,hr=>by
  simp only[ae,I.bw,Z0] at *;obtain ⟨b,es,ck,h1,h2,h3,h4⟩:=hr;exact ⟨b,es,ck,h1,⟨h2.1,hD _ _ h2.2.1,h2.2.2⟩,ak.eT hD ks _ hc.1 h3,ak.eT hD vs _ hc.2 h4⟩
 | .undef,_,hc,_=>by simp[I.bw] at hc
 | .cU,_,hc,_=>by simp[I.bw] at hc
 | .tuple _,_,hc,_=>by simp[I.bw] at hc
theorem az.eT{w:World}{D D':aJ}{E E':aM}(hD:∀ b o,D b o→D' b o):∀ (xs:List I) (cs:List Value),I.b7 xs=true→az w D E xs cs→az w D' E' xs cs
 | [],cs,_,hr=>by simpa only[az] using hr
 |x::xs,cs,hc,hr=>by
  simp only[az,I.b7,Z0] at *;obtain ⟨c1,c2,h1,h2,h3⟩:=hr;exact ⟨c1,c2,h1,ae.eT hD x c1 hc.1 h2,az.eT hD xs c2 hc.2 h3⟩
theorem ak.eT{w:World}{D D':aJ}{E E':aM}(hD:∀ b o,D b o→D' b o):∀ (xs:List I) (vs:List Value),I.b7 xs=true→ak w D E xs vs→ak w D' E' xs vs
 | [],vs,_,hr=>by simpa only[ak] using hr
 |x::xs,vs,hc,hr=>by
  simp only[ak,I.b7,Z0] at *;obtain ⟨v,rest,cs,h1,h2,h3,h4⟩:=hr;exact ⟨v,rest,cs,h1,h2,ae.eT hD x cs hc.1 h3,ak.eT hD xs rest hc.2 h4⟩
end
theorem sP{w:World}{D:aJ}{b:Nat}{cs:Array Value}{T:TypeId}{fz:Nat×Nat}(hb:w.heap[b]?=some (.cells cs T fz)){c1 c2 c3:List Value}(hc:cs.toList=c1++c2++c3)
  (hD:∀ o,o<c1.length+c2.length→D b o):reads w D b c1.length c2:=by
 intro j v hj;have hjl:j<c2.length:=(Z6.1 hj).1;refine ⟨?_,hD _ (by omega)⟩;have e:cs[c1.length+j]?=some v:=by
  rw[←zz1,hc,Z8,zy4 (by omega),Nat.add_sub_cancel_left,Y5 (by omega)];exact hj
 simp[World.cell?,hb,e]
theorem sW(P:Program)(g o:Nat)(t:TypeId){s:bM} : ∀ (vs:List Value) (i:Nat) (cur:Array Value) (w:World),dT w g cur t s→o+i+vs.length≤cur.size→(∀ v∈vs,v.oneCell'=true) →
  (storeCells ⟨g,o,none⟩ vs i).run P w=.ok () (w.setRow g (cur.toList.take (o+i)++vs++cur.toList.drop (o+i+vs.length)).toArray)
 | [],i,cur,w,hg,_,_=>by
  obtain ⟨fz,hg,_⟩:=hg;simp only[storeCells,List.append_nil,zz8,Nat.add_zero,List.take_append_drop,Array.toArray_toList];rw[setRow_self w g cur t fz hg];rfl
 |v::rest,i,cur,w,hg,hl,h1=>by
  have hi:o+i<cur.size:=by simp at hl;omega
  have hg2:=hg.setRow (cs':=cur.setIfInBounds (o+i) v) (by simp);have hfro:=hg.Mf hi;obtain ⟨fz,hg,_⟩:=hg;have hadd:(⟨g,o,none⟩:Addr).add i=⟨g,o+i,none⟩:=by unfold Addr.add;split <;>simp_all
  have hcell:w.cell? ⟨g,o+i,none⟩=some cur[o+i]:=by simp[World.cell?,hg,hi]
  have hst:(store ((⟨g,o,none⟩:Addr).add i) v).run P w=.ok () (w.setRow g (cur.setIfInBounds (o+i) v)):=by
   rw[hadd,run_store P w _ v _ (h1 v (by simp)),hcell];simp[hfro,setCell_eq_setRow w g (o+i) cur t fz v hg]
  have ih:=sW P g o t rest (i+1) (cur.setIfInBounds (o+i) v) (w.setRow g (cur.setIfInBounds (o+i) v)) hg2 (by simp at hl ⊢;omega) (fun x hx=>h1 x (by simp[hx]));simp only[storeCells,Sem.run_bind,hst,Result.andThen_ok,ih,setRow_setRow]
  congr 3
  have e:=list_seg_step cur.toList (o+i) v rest (by simp at hl ⊢;omega);simpa[Array.toList_setIfInBounds,Nat.add_assoc] using e
theorem sO{w:World}{D:aJ}{b:Nat}{cs:Array Value}{T:TypeId}{s:bM}(hb:dT w b cs T s){c1 c2 c3:List Value}(hc:cs.toList=c1++c2++c3)
  (hD:∀ o,o<c1.length+c2.length→D b o):reads w D b c1.length c2:=by
 obtain ⟨_,hb,_⟩:=hb;exact sP hb hc hD
section
variable {c:b9} {A:ab} {a:Act} {w:World} {D:aJ} {E:aM}
theorem aL.box(h:aL c A a w D E){n:Nat}{x:I}(hn:A.o n=some (.box x)) :
  ∃ b cs T,E n=some (.aB b x.aK)∧c.eb b∧dT w b cs T x.aK∧ae w D E x cs.toList∧∀ o,¬ D b o:=by
 have:=h.bx n;rw[hn] at this;exact this
theorem aL.bJ(h:aL c A a w D E){n sz:Nat}{T:TypeId}{es:List I}(hn:A.o n=some (.bJ T sz es)) :
  ∃ aA,E n=some (.rw aA es.length)∧(∀ e∈es,e.size=sz)∧match aA with
  |none=>es=[]
  |some (b,cap)=>∃ cs pre rest,c.eb b∧w.heap[b]?=some (.cells cs T (0,0))∧cs.toList=pre++rest∧az w D E es pre ∧
    cs.size=cap*sz∧es.length≤cap∧cap≤maxLen∧∀ o,D b o→o<pre.length:=by
 have:=h.bx n;rw[hn] at this;exact this
theorem aL.wN(h:aL c A a w D E){n:Nat}{T:TypeId}{xs:List Int}(hn:A.o n=some (.dJ T xs)) :
  ∃ aA,E n=some (.rw aA xs.length)∧(∀ x∈xs,IntKind.i64.min≤x∧x≤IntKind.i64.max)∧match aA with
  |none=>xs=[]
  |some (b,cap)=>∃ cs m,c.eb b∧w.heap[b]?=some (.cells cs T (0,0))∧cs.toList=(xs++List.replicate m 0).map (Value.int .i64)∧xs≠[]∧xs.length+m=cap∧cap≤maxLen∧∀ o,¬ D b o:=by
 have:=h.bx n;rw[hn] at this;exact this
theorem aL.map(h:aL c A a w D E){n:Nat}{ks vs:List I}(hn:A.o n=some (.bZ ks vs)) :
  ∃ b es clock,E n=some (.bZ b)∧c.eb b∧w.heap[b]?=some (.map es clock)∧nh es clock∧ak w D E ks (es.toList.map (·.key))∧ak w D E vs (es.toList.map (·.val))∧∀ o,¬ D b o:=by
 have:=h.bx n;rw[hn] at this;exact this
theorem aL.at(h:aL c A a w D E){n:Nat}{p:List Nat}{x:I}(hx:bQ A (.ptr n p)=some x) :
  ∃ y b cs T off c1 c2 c3,A.o n=some (.box y)∧E n=some (.aB b y.aK)∧c.eb b∧dT w b cs T y.aK∧y.at p=some x∧y.aK.off p=some off ∧
   cs.toList=c1++c2++c3∧c1.length=off∧ae w D E x c2∧ae w D E y cs.toList∧∀ o,¬ D b o:=by
 simp only[bQ] at hx;split at hx
 ·rename_i y hn;obtain ⟨b,cs,T,h1,h2,h3,h4,h5⟩:=h.box hn;obtain ⟨off,c1,c2,c3,h6,h7,h8,h9⟩:=vQ p y x _ h4 hx;exact ⟨y,b,cs,T,off,c1,c2,c3,hn,h1,h2,h3,hx,h6,h7,h8,h9,h4,h5⟩
 ·cases hx
theorem aL.xG(h:aL c A a w D E){x y:I}{v:Value}(hv:aP w D E x v)(hx:bQ A x=some y) :
  ∃ b off cs,v=.pointer (some ⟨b,off,none⟩)∧(∀ j u,cs[j]?=some u→w.cell? ⟨b,off+j,none⟩=some u)∧ae w D E y cs:=by
 cases x with
 |ref z =>
  simp only[bQ,v6] at hx;subst hx;obtain ⟨b,off,cs,h1,h2,h3⟩:=ot hv;exact ⟨b,off,cs,h1,fun j u hj=>(h2 j u hj).1,h3⟩
 |ptr n p =>
  obtain ⟨b,aK,off,h1,h2,h3⟩:=ky hv;obtain ⟨z,b',cs,T,off',c1,c2,c3,k1,k2,_,k3,_,k5,k6,k7,k8,_,_⟩:=h.at hx;rw[k2] at h1;simp only[v6,bu.aB.injEq] at h1;obtain ⟨rfl,rfl⟩:=h1;rw[k5,v6] at h2;subst h2;refine ⟨b',off',c2,h3,fun j u hj =>?_,k8⟩;have:=sO (D:=fun _ _=>True) k3 k6 (fun _ _=>trivial);rw[k7] at this;exact (this j u hj).1
 |_=>simp[bQ] at hx
theorem sM{w:World}{D:aJ}{E:aM} : ∀ (xs ys:List I) (cs:List Value),az w D E (xs++ys) cs→∃ c1 c2,cs=c1++c2∧az w D E xs c1∧az w D E ys c2
 | [],ys,cs,hr=>⟨[],cs,rfl,by simp[az],hr⟩
 |x::xs,ys,cs,hr=>by
  simp only[Y3,az] at hr;obtain ⟨d1,d2,rfl,k1,k2⟩:=hr;obtain ⟨e1,e2,rfl,k3,k4⟩:=sM xs ys d2 k2;exact ⟨d1++e1,e2,by simp,by simp only[az];exact ⟨d1,e1,rfl,k1,k3⟩,k4⟩
theorem DX{fs:List I}{sz:Nat}(h:∀ s∈I.cE fs,s.size=sz):∀ f∈fs,f.size=sz:=by
 intro f hf;rw[←I.hJ];exact h _ (by rw[I.cF];exact zz3.2 ⟨f,hf,rfl⟩)
theorem sN{w:World}{D:aJ}{E:aM}{fs:List I}{cs:List Value}{sz:Nat}(hr:az w D E fs cs)(hev:∀ f∈fs,f.size=sz)(lo k:Nat)(h:lo+k≤fs.length) :
  ∃ d1 d2 d3,cs=d1++(d2++d3)∧d1.length=lo*sz∧az w D E ((fs.drop lo).take k) d2∧az w D E ((fs.drop lo).drop k) d3:=by
 have e1:fs=fs.take lo++((fs.drop lo).take k++(fs.drop lo).drop k):=by rw[List.take_append_drop,List.take_append_drop]
 rw[e1] at hr;obtain ⟨d1,d',rfl,q1,q2⟩:=sM _ _ _ hr;obtain ⟨d2,d3,rfl,q3,q4⟩:=sM _ _ _ q2;refine ⟨d1,d2,d3,rfl,?_,q3,q4⟩;rw[az.length _ _ q1,I.fZ _ (fun x hx=>hev x (zy8 hx)),Y0]
 congr 1
 omega
structure gw (aB:Bool) (A:ab) (D:aJ) (E:aM) (D':aJ):Prop where
 cI:∀ b o,D b o→D' b o
 bJ:∀ n T sz es b cap,A.o n=some (.bJ T sz es)→E n=some (.rw (some (b,cap)) es.length)→∀ o,o<es.length*sz→D' b o
 box:aB=true→∀ n x b aK,A.o n=some (.box x)→E n=some (.aB b aK)→∀ o,o<x.size→D' b o
 map:aB=true→∀ n ks vs b,A.o n=some (.bZ ks vs)→E n=some (.bZ b)→D' b 0
def dj(A A':ab):Prop:=∀ n x,A.o n=some x→A'.o n=some x
theorem ig{A A':ab}(hu:dj A A'){x v:I}(h:bQ A x=some v):bQ A' x=some v:=by
 cases x <;>simp only[bQ] at h ⊢ <;>try exact h
 rename_i n p;cases ho:A.o n with
 |none=>rw[ho] at h;cases h
 |some y=>rw[ho] at h;rw[hu n y ho];exact h
theorem zA{A0 A:ab}(hu:dj A0 A){n:Nat}{p:List Nat}{x z:I}(h:bQ A0 (.ptr n p)=some x)(hz:A.o n=some (.box z)):A0.o n=some (.box z):=by
 simp only[bQ] at h;split at h
 ·rename_i y hy;have:=hu n _ hy;rw[hz] at this;rw[hy,←this]
 ·cases h
theorem aL.Dp(h:aL c A a w D E){A0:ab}(hu:dj A0 A){D':aJ}(hw:gw true A0 D E D'){n:Nat}{p:List Nat}{x:I}{cs:List Value}(hx:bQ A0 (.ptr n p)=some x)(hr:ae w D E (.ptr n p) cs) :
  ∃ b off c2,cs=[.pointer (some ⟨b,off,none⟩)]∧reads w D' b off c2∧ae w D E x c2:=by
 obtain ⟨z,b',cs',T,off',c1,c2,c3,k1,k2,_,k3,k4,k5,k6,k7,k8,k9,_⟩:=h.at (ig hu hx);have k1:=zA hu hx k1;simp only[ae] at hr;obtain ⟨b,aK,off,h1,h2,h3⟩:=hr;rw[k2] at h1;simp only[v6,bu.aB.injEq] at h1;obtain ⟨rfl,rfl⟩:=h1;rw[k5,v6] at h2;subst h2;have hsz:=ae.length z _ k9;rw[k6] at hsz;simp only[Z1] at hsz;refine ⟨b',off',c2,h3,?_,k8⟩;rw[←k7];exact sO k3 k6 (fun o ho=>hw.box rfl n z b' _ k1 k2 o (by omega))
theorem aL.hU(h:aL c A a w D E){A0:ab}(hu:dj A0 A){D':aJ}{E':aM}(hw:gw true A0 D E D'){n:Nat}{p:List Nat}{sz lo k:Nat}{fs:List I}{cs:List Value}(hx:bQ A0 (.ptr n p)=some (.agg fs))(hr:ae w D E (.view n p sz lo k) cs)
  (hcl:I.b7 ((fs.drop lo).take k)=true):ae w D' E' (.slice sz ((fs.drop lo).take k)) cs:=by
 obtain ⟨z,b',cs',T,off',c1,c2,c3,k1,k2,_,k3,k4,k5,k6,k7,k8,k9,_⟩:=h.at (ig hu hx);have k1:=zA hu hx k1;simp only[ae] at hr k8 ⊢;obtain ⟨b,aK,off,l,h1,h2,h3,h4,h5,h6,h7⟩:=hr;rw[k2] at h1;simp only[v6,bu.aB.injEq] at h1;obtain ⟨rfl,rfl⟩:=h1;rw[k5,v6] at h2;subst h2;rw[ly p z _ k4] at h3;simp only[I.aK,v6,bM.eC.injEq] at h3;subst h3;have hsz:=ae.length z _ k9;rw[k6] at hsz;rw[I.cF,Z2] at h4 h5 h6;have hev:=DX h7;obtain ⟨d1,d2,d3,rfl,q1,q2,q3⟩:=sN k8 hev lo k h6;simp only[Z1] at hsz;have hlen:((fs.drop lo).take k).length=k:=by rw[Y0,List.length_drop];omega
 refine ⟨some ⟨b',off'+lo*sz,none⟩,fs.length-lo,by rw[hlen];exact h4,by rw[hlen];omega,by omega,.inr ⟨b',off'+lo*sz,d2,rfl,?_,az.eT hw.cI _ d2 hcl q2⟩,?_⟩
 ·have:=sO (D:=D') (c1:=c1++d1) (c2:=d2) (c3:=d3++c3) k3 (by rw[k6];simp) (fun o ho=>hw.box rfl n z b' _ k1 k2 o (by rw[Z1] at ho;omega));rw[Z1,k7,q1] at this;exact this
 ·intro e he;exact hev e (List.mem_of_mem_drop (zy8 he))
theorem aL.Dz(h:aL c A a w D E){aB:Bool}{A0:ab}(hu:dj A0 A){D':aJ}{E':aM}(hw:gw aB A0 D E D'){n k T sz:Nat}{es:List I}{cs:List Value}(hn:A0.o n=some (.bJ T sz es))(hcl:I.b7 es=true)(hk:k=es.length)(hr:ae w D E (.own n k) cs):ae w D' E' (.slice sz es) cs:=by
 subst hk;simp only[ae] at hr;obtain ⟨aA,l,h1,h2,_,h4⟩:=hr;obtain ⟨blk',k1,k2,k3⟩:=h.bJ (hu n _ hn);rw[k1] at h1;simp only[v6,bu.rw.injEq] at h1;obtain ⟨rfl,rfl⟩:=h1;have h4:=h4 rfl;cases blk' with
 |none =>
  simp only at k3 h4;subst k3;simp only[ae];exact ⟨none,0,by simpa using h4,by simp,by simp[maxLen],by simp,by simp⟩
 |some bc =>
  obtain ⟨b,cap⟩:=bc;simp only at h4;obtain ⟨cs',pre,rest,k4,k5,k6,k7,k8,k9,k10,k11⟩:=k3;simp only[ae];refine ⟨some ⟨b,0,none⟩,cap,h4,k9,k10,.inr ⟨b,0,pre,rfl,?_,az.eT hw.cI es pre hcl k7⟩,k2⟩;have hp:pre.length=es.length*sz:=by rw[az.length _ _ k7,I.fZ _ k2]
  have:=sP (D:=D') (c1:=[]) k5 (by simpa using k6) (fun o ho=>hw.bJ n T sz es b cap hn k1 o (by simp at ho;omega));simpa using this
theorem Bo{w:World}{D D':aJ}{E E':aM}{f:I→Option I}(hf:∀ x y cs,ae w D E x cs→f x=some y→ae w D' E' y cs):∀ (xs ys:List I) (cs:List Value),az w D E xs cs→gE f xs=some ys→az w D' E' ys cs
 | [],ys,cs,hr,h=>by simp only[gE,v6] at h;subst h;simpa only[az] using hr
 |x::xs,ys,cs,hr,h=>by
  simp only[gE] at h;split at h
  ·rename_i y ys' h1 h2;simp only[v6] at h;subst h;simp only[az] at *;obtain ⟨c1,c2,e,k1,k2⟩:=hr;exact ⟨c1,c2,e,hf x y c1 k1 h1,Bo hf xs ys' c2 k2 h2⟩
  ·cases h
theorem r5{w:World}{D D':aJ}{E E':aM}{f:I→Option I}(hf:∀ x y cs,ae w D E x cs→f x=some y→ae w D' E' y cs)(hp:∀ x y,f x=some y→y.isAgg=x.isAgg):∀ (xs ys:List I) (vs:List Value),ak w D E xs vs→gE f xs=some ys→ak w D' E' ys vs
 | [],ys,cs,hr,h=>by simp only[gE,v6] at h;subst h;simpa only[ak] using hr
 |x::xs,ys,cs,hr,h=>by
  simp only[gE] at h;split at h
  ·rename_i y ys' h1 h2;simp only[v6] at h;subst h;simp only[ak] at *;obtain ⟨v,rest,c1,e,k1,k2,k3⟩:=hr;refine ⟨v,rest,c1,e,?_,hf x y c1 k2 h1,r5 hf hp xs ys' rest k3 h2⟩;unfold aY at *;rw[hp x y h1];exact k1
  ·cases h
theorem uI{A0:ab} : ∀ {k:Nat} {x y:I},fS A0 k x=some y→y.isAgg=x.isAgg
 |0,_,_,h=>by simp[fS] at h
 |k+1,x,y,h=>by
  simp only[fS] at h;split at h
  ·simp only[v6] at h;rw[h]
  ·cases x <;>simp only[] at h <;>first
    |(cases h;done)
    |(split at h <;>first | (simp only[t7] at h;obtain ⟨z,_,rfl⟩:=h;rfl) | (simp only[v6] at h;subst h;rfl);done)
    |(simp only[t7] at h;obtain ⟨z,_,rfl⟩:=h;rfl)
    |((repeat' split at h) <;>first | (cases h;done) | (simp only[v6] at h;subst h;rfl) | (simp only[t7] at h;obtain ⟨z,_,rfl⟩:=h;rfl))
theorem uJ(h:aL c A a w D E){A0:ab}(hu:dj A0 A){D':aJ}{E':aM}(hw:gw true A0 D E D'):∀ (k:Nat) (x y:I) (cs:List Value),ae w D E x cs→fS A0 k x=some y→ae w D' E' y cs
 |0,_,_,_,_,hf=>by simp[fS] at hf
 |k+1,x,y,cs,hr,hf=>by
  have ih:=uJ h hu (E':=E') hw k;simp only[fS] at hf;split at hf
  ·rename_i hcl;simp only[v6] at hf;subst hf;exact ae.eT hw.cI x cs hcl hr
  ·rename_i hcl;cases x <;>simp only[] at hf <;>try (cases hf;done)
   case agg fs =>
    simp only[t7] at hf;obtain ⟨ys,hy,rfl⟩:=hf;simp only[ae] at *;exact Bo ih fs ys cs hr hy
   case func f caps =>
    split at hf
    case isFalse =>
     simp only[v6] at hf;subst hf;simp only[ae] at *;obtain ⟨vs,h1,h2⟩:=hr;exact ⟨_,h1,Af f vs⟩
    simp only[t7] at hf;obtain ⟨ys,hy,rfl⟩:=hf;simp only[ae] at *;obtain ⟨vs,h1,h2⟩:=hr;exact ⟨vs,h1,r5 ih (fun x y hxy=>uI hxy) caps ys vs h2 hy⟩
   case ptr n p =>
    split at hf
    case h_2=>cases hf
    rename_i z hz;simp only[t7] at hf;obtain ⟨y',hy,rfl⟩:=hf;obtain ⟨b,off,c2,k1,k2,k3⟩:=h.Dp hu hw hz hr;simp only[ae];exact ⟨b,off,c2,k1,k2,ih z y' c2 k3 hy⟩
   case view n p sz lo l =>
    split at hf
    case h_2=>cases hf
    rename_i fs hx;split at hf
    case isFalse=>cases hf
    rename_i hc;simp only[v6] at hf;subst hf;exact h.hU hu hw hx hr hc
   case mref n =>
    split at hf
    case h_2=>cases hf
    rename_i ks vs hn;split at hf
    case isFalse=>cases hf
    rename_i hc;simp only[t7] at hf;obtain ⟨ys,hy,rfl⟩:=hf;simp only[ae] at hr ⊢;obtain ⟨b,h1,h2⟩:=hr;obtain ⟨b',es,ck,k1,k2,k3,k4,k5,k6,k7⟩:=h.map (hu n _ hn);rw[k1] at h1;cases h1;exact ⟨b,es,ck,h2,⟨k3,hw.map rfl n ks vs b hn k1,k4⟩,ak.eT hw.cI ks _ hc k5,r5 ih (fun x y hxy=>uI hxy) vs ys _ k6 hy⟩
   case own n l =>
    split at hf
    case h_2=>cases hf
    rename_i T sz es hn;split at hf
    case isFalse=>cases hf
    rename_i hk;simp only[v6] at hf;subst hf;exact h.Dz hu hw hn hk.2 hk.1 hr
mutual
theorem zX(h:aL c A a w D E){aB:Bool}{A0:ab}(hu:dj A0 A){D':aJ}{E':aM}(hw:gw aB A0 D E D'):∀ (x y:I) (cs:List Value),ae w D E x cs→ba aB A0 x=some y→ae w D' E' y cs
 | .ptr n p,y,cs,hr,hf=>by
  simp only[ba] at hf;split at hf
  case isFalse=>cases hf
  rename_i hbx;subst hbx;split at hf
  case h_2=>cases hf
  rename_i x hx;obtain ⟨b,off,c2,k1,k2,k3⟩:=h.Dp hu hw hx hr;split at hf
  ·rename_i hcl;simp only[v6] at hf;subst hf;simp only[ae];exact ⟨b,off,c2,k1,k2,ae.eT hw.cI x c2 hcl k3⟩
  ·simp only[t7] at hf;obtain ⟨y',hy,rfl⟩:=hf;simp only[ae];exact ⟨b,off,c2,k1,k2,uJ h hu hw 9 x y' c2 k3 hy⟩
 | .mref n,y,cs,hr,hf=>by
  simp only[ba] at hf;split at hf
  case isFalse=>cases hf
  rename_i hbx;subst hbx;split at hf
  case h_2=>cases hf
  rename_i ks vs hn;split at hf
  case isFalse=>cases hf
  rename_i hc;simp only[t7] at hf;obtain ⟨ys,hy,rfl⟩:=hf;simp only[ae] at hr ⊢;obtain ⟨b,h1,h2⟩:=hr;obtain ⟨b',es,ck,k1,k2,k3,k4,k5,k6,k7⟩:=h.map (hu n _ hn);rw[k1] at h1;cases h1;exact ⟨b,es,ck,h2,⟨k3,hw.map rfl n ks vs b hn k1,k4⟩,ak.eT hw.cI ks _ hc k5,r5 (uJ h hu hw 9) (fun x y hxy=>uI hxy) vs ys _ k6 hy⟩
 | .cR _,_,_,_,hf=>by simp[ba] at hf
 | .cW ks vs,y,cs,hr,hf=>by
  simp only[ba] at hf;split at hf
  ·rename_i hc;simp only[v6] at hf;subst hf;exact ae.eT hw.cI _ cs (by simpa[I.bw] using hc) hr
  ·cases hf
 | .own n k,y,cs,hr,hf=>by
  simp only[ba] at hf;split at hf
  case h_2=>cases hf
  rename_i T sz es hn;split at hf
  case isFalse=>cases hf
  rename_i hk;simp only[v6] at hf;subst hf;exact h.Dz hu hw hn hk.2 hk.1 hr
 | .view n p sz lo k,y,cs,hr,hf=>by
  simp only[ba] at hf;split at hf
  case isFalse=>cases hf
  rename_i hbx;subst hbx;split at hf
  case h_2=>cases hf
  rename_i fs hx;split at hf
  case isFalse=>cases hf
  rename_i hcl;simp only[v6] at hf;subst hf;exact h.hU hu hw hx hr hcl
 | .nils sz,y,cs,hr,hf=>by
  simp only[ba,v6] at hf;subst hf;simp only[ae] at *;exact ⟨none,0,by simpa using hr,by simp,by simp[maxLen],by simp,by simp⟩
 | .c0 sz,y,cs,hr,hf=>by
  simp only[ba,v6] at hf;subst hf;simp only[ae] at *;obtain ⟨ad,hr⟩:=hr;exact ⟨ad,0,by simpa using hr,by simp,by simp[maxLen],by simp,by simp⟩
 | .func f caps,y,cs,hr,hf=>by
  simp only[ba] at hf;split at hf
  case isFalse =>
   simp only[v6] at hf;subst hf;simp only[ae] at *;obtain ⟨vs,h1,h2⟩:=hr;exact ⟨_,h1,Af f vs⟩
  simp only[t7] at hf;obtain ⟨ys,hy,rfl⟩:=hf;simp only[ae] at *;obtain ⟨vs,h1,h2⟩:=hr;exact ⟨vs,h1,kW h hu hw caps ys vs h2 hy⟩
 | .agg fs,y,cs,hr,hf=>by
  simp only[ba,t7] at hf;obtain ⟨ys,hy,rfl⟩:=hf;simp only[ae] at *;exact zY h hu hw fs ys cs hr hy
 | .tuple _,_,_,_,hf=>by simp[ba] at hf
 | .undef,_,_,_,hf=>by simp[ba] at hf
 | .cU,_,_,_,hf=>by simp[ba] at hf
 | .bool b,y,cs,hr,hf=>by simp only[ba,v6] at hf;subst hf;simpa only[ae] using hr
 | .int k n,y,cs,hr,hf=>by simp only[ba,v6] at hf;subst hf;simpa only[ae] using hr
 | .aj s,y,cs,hr,hf=>by simp only[ba,v6] at hf;subst hf;simpa only[ae] using hr
 | .nilp,y,cs,hr,hf=>by simp only[ba,v6] at hf;subst hf;simpa only[ae] using hr
 | .cZ,y,cs,hr,hf=>by simp only[ba,v6] at hf;subst hf;simpa only[ae] using hr
 | .cL,y,cs,hr,hf | .any,y,cs,hr,hf=>by simp only[ba,v6] at hf;subst hf;simpa only[ae] using hr
 | .raw _,y,cs,hr,hf=>by simp only[ba,v6] at hf;subst hf;simpa only[ae] using hr
 | .slice sz es,y,cs,hr,hf=>by
  simp only[ba] at hf;split at hf
  ·rename_i hc;simp only[v6] at hf;subst hf;exact ae.eT hw.cI _ cs (by simpa[I.bw] using hc) hr
  ·cases hf
 | .ref x,y,cs,hr,hf=>by
  simp only[ba] at hf;split at hf
  ·rename_i hc;simp only[v6] at hf;subst hf;exact ae.eT hw.cI _ cs (by simpa[I.bw] using hc) hr
  ·cases hf
 | .iface t v,y,cs,hr,hf=>by
  simp only[ba] at hf;split at hf
  ·rename_i hc;simp only[v6] at hf;subst hf;exact ae.eT hw.cI _ cs (by simpa[I.bw] using hc) hr
  ·cases hf
theorem zY(h:aL c A a w D E){aB:Bool}{A0:ab}(hu:dj A0 A){D':aJ}{E':aM}(hw:gw aB A0 D E D'):∀ (xs ys:List I) (cs:List Value),az w D E xs cs→bE aB A0 xs=some ys→az w D' E' ys cs
 | [],ys,cs,hr,hf=>by simp only[bE,v6] at hf;subst hf;simpa only[az] using hr
 |x::xs,ys,cs,hr,hf=>by
  simp only[bE] at hf;split at hf
  ·rename_i y ys' h1 h2;simp only[v6] at hf;subst hf;simp only[az] at *;obtain ⟨c1,c2,e,k1,k2⟩:=hr;exact ⟨c1,c2,e,zX h hu hw x y c1 k1 h1,zY h hu hw xs ys' c2 k2 h2⟩
  ·cases hf
theorem kW(h:aL c A a w D E){aB:Bool}{A0:ab}(hu:dj A0 A){D':aJ}{E':aM}(hw:gw aB A0 D E D'):∀ (xs ys:List I) (vs:List Value),ak w D E xs vs→bE aB A0 xs=some ys→ak w D' E' ys vs
 | [],ys,cs,hr,hf=>by simp only[bE,v6] at hf;subst hf;simpa only[ak] using hr
 |x::xs,ys,cs,hr,hf=>by
  simp only[bE] at hf;split at hf
  ·rename_i y ys' h1 h2;simp only[v6] at hf;subst hf;simp only[ak] at *;obtain ⟨v,rest,c1,e,k1,k2,k3⟩:=hr;refine ⟨v,rest,c1,e,?_,zX h hu hw x y c1 k2 h1,kW h hu hw xs ys' rest k3 h2⟩;have:y.isAgg=x.isAgg:=by
    cases x <;>simp only[ba] at h1 <;>first
     |(simp at h1;done)
     |(simp only[v6] at h1;subst h1;rfl)
     |(simp only[t7] at h1;obtain ⟨z,_,rfl⟩:=h1;rfl)
     |((repeat' split at h1) <;>first | (simp at h1;done) | (simp only[v6] at h1;subst h1;rfl) | (simp only[t7] at h1;obtain ⟨z,_,rfl⟩:=h1;rfl))
   unfold aY at *;rw[this];exact k1
  ·cases hf
end
end
def eU(P:Program)(t:TypeId):Option (Option Nat):=match P.underlying t with
 |some (.struct _) | some (.array _ _)=>some (some (P.cellsOf t))
 |some _=>some none
 |none=>none
def wP(P:Program):Nat→TypeId→Option I
 |0,_=>none
 |d+1,t=>match P.underlying t with
  |some .bool=>some (.bool false)
  |some (.int k)=>some (.int k 0)
  |some .string=>some (.aj ByteArray.empty)
  |some (.pointer _)=>some .nilp
  |some (.slice e)=>some (.nils (P.cellsOf e))
  |some (.func _ _ _)=>some .cZ
  |some (.interface _)=>some .cL
  |some (.map _ _)=>some (.raw (.map none))
  |some (.struct fs)=>(fs.toList.mapM fun f=>wP P d f.type).map .agg
  |some (.array n e)=>(wP P d e).map fun z=>.agg (List.replicate n z)
  |_=>none
def jZ:I→Value→Bool
 | .bool b,.bool b'=>b==b'
 | .int k n,.int k' n'=>k==k'&&n==n'&&decide (k.min≤n∧n≤k.max)
 | .aj s,.string t=>s.size==0&&t.size==0
 | .nilp,.pointer none=>true
 | .nils _,.slice none 0 0=>true
 | .cZ,.nilFunc=>true
 | .cL,.nilIface=>true
 | .raw (.map none),.map none=>true
 |_,_=>false
mutual
def lF:I→List Value→Option (List Value)
 | .agg fs,cs=>qv fs cs
 | .bool b,v::cs=>if jZ (.bool b) v then some cs else none
 | .int k n,v::cs=>if jZ (.int k n) v then some cs else none
 | .aj s,v::cs=>if jZ (.aj s) v then some cs else none
 | .nilp,v::cs=>if jZ .nilp v then some cs else none
 | .nils z,v::cs=>if jZ (.nils z) v then some cs else none
 | .cZ,v::cs=>if jZ .cZ v then some cs else none
 | .cL,v::cs=>if jZ .cL v then some cs else none
 | .raw u,v::cs=>if jZ (.raw u) v then some cs else none
 |_,_=>none
def qv:List I→List Value→Option (List Value)
 | [],cs=>some cs
 |x::xs,cs=>match lF x cs with
  |some r=>qv xs r
  |none=>none
end
theorem ByteArray.LK{s t:ByteArray}(hs:s.size=0)(ht:t.size=0):s=t:=by
 cases s with | mk a=>cases t with | mk b =>
 have ha:a = #[]:=Array.eq_empty_of_size_eq_zero hs;have hb:b = #[]:=Array.eq_empty_of_size_eq_zero ht;rw[ha,hb]
theorem Jg{x:I}{v:Value}(h:jZ x v=true)(w:World)(D:aJ)(E:aM):ae w D E x [v]:=by
 unfold jZ at h;split at h
 case h_9=>cases h
 case h_1=>simp only[beq_iff_eq] at h;subst h;simp[ae]
 case h_2 =>
  simp only[Z0,beq_iff_eq,decide_eq_true_eq] at h;obtain ⟨⟨rfl,rfl⟩,h⟩:=h;simp only[ae,true_and];exact h
 case h_3 =>
  simp only[Z0,beq_iff_eq] at h;have e:=ByteArray.LK h.1 h.2;subst e;simp only[ae,true_and];rw[h.1];exact zy9 _
 all_goals simp[ae,Value.oneCell']
mutual
theorem EI:∀ (x:I) (cs r:List Value),lF x cs=some r→∃ c1,cs=c1++r∧∀ w D E,ae w D E x c1
 | .agg fs,cs,r,h=>by
  simp only[lF] at h;obtain ⟨c1,h1,h2⟩:=EJ fs cs r h;exact ⟨c1,h1,fun w D E=>by simp only[ae];exact h2 w D E⟩
 | .bool b,v::cs,r,h | .int k n,v::cs,r,h | .aj s,v::cs,r,h | .nilp,v::cs,r,h | .nils z,v::cs,r,h | .cZ,v::cs,r,h | .cL,v::cs,r,h | .raw u,v::cs,r,h=>by
  simp only[lF] at h;split at h
  ·rename_i hh;simp only[v6] at h;subst h;exact ⟨[v],rfl,fun w D E=>Jg hh w D E⟩
  ·cases h
 | .bool b,[],r,h | .int k n,[],r,h | .aj s,[],r,h | .nilp,[],r,h | .nils z,[],r,h | .cZ,[],r,h | .cL,[],r,h | .raw _,[],r,h=>by simp[lF] at h
 | .any,_,_,h | .undef,_,_,h | .cU,_,_,h | .c0 _,_,_,h | .slice _ _,_,_,h | .tuple _,_,_,h | .ref _,_,_,h | .func _ _,_,_,h | .iface _ _,_,_,h | .ptr _ _,_,_,h | .own _ _,_,_,h | .view _ _ _ _ _,_,_,h | .mref _,_,_,h | .cR _,_,_,h | .cW _ _,_,_,h=>by simp[lF] at h
theorem EJ:∀ (xs:List I) (cs r:List Value),qv xs cs=some r→∃ c1,cs=c1++r∧∀ w D E,az w D E xs c1
 | [],cs,r,h=>by
  simp only[qv,v6] at h;exact ⟨[],by simp[h],fun w D E=>by simp[az]⟩
 |x::xs,cs,r,h=>by
  simp only[qv] at h;split at h
  ·rename_i r' hx;obtain ⟨c1,h1,h2⟩:=EI x cs r' hx;obtain ⟨c2,h3,h4⟩:=EJ xs r' r h;exact ⟨c1++c2,by rw[h1,h3,Z8],fun w D E=>by simp only[az];exact ⟨c1,c2,rfl,h2 w D E,h4 w D E⟩⟩
  ·cases h
end
def fe(P:Program)(t:TypeId):Option I :=
 match (P.info? t).bind (·.zero),wP P 12 t with
 |some z,some x=>match lF x z.cells.toList with
  |some []=>some x
  |_=>none
 |_,_=>none
theorem kG{P:Program}{t:TypeId}{x:I}(h:fe P t=some x):∃ i z,P.info? t=some i∧i.zero=some z∧∀ w D E,ae w D E x z.cells.toList:=by
 unfold fe at h;split at h
 ·rename_i z x' hz hx;split at h
  ·rename_i hk;simp only[v6] at h;subst h;obtain ⟨i,hi,hz'⟩:=zy5.1 hz;obtain ⟨c1,h1,h2⟩:=EI _ _ _ hk;rw[List.append_nil] at h1;exact ⟨i,z,hi,hz',fun w D E=>by rw[h1];exact h2 w D E⟩
  ·cases h
 ·cases h
def km:Nat→List I→List (Nat×Nat)
 |_,[]=>[]
 |k,x::xs=>(k,x.size)::km (k+x.size) xs
theorem B4:∀ (xs:List I) (k i:Nat),(km k xs)[i]?=(xs[i]?).map fun x=>(k+I.sizes (xs.take i),x.size)
 | [],k,i=>by simp[km]
 |x::xs,k,0=>by simp[km,I.sizes]
 |x::xs,k,i+1=>by
  simp only[km,List.getElem?_cons_succ,B4 xs,List.take_succ_cons,I.sizes];cases xs[i]? <;>simp;omega
def dM (P : Program) (f : FuncId) : Bool := Nat.blt f 1000000 && (P.funcs[f]?).any fun fn => fn.name != "runtime.NumGoroutine" && fn.body.isSome
def jY(P:Program)(ps:List (Nat×Operand)):Option (List (Nat×ay)):=ps.mapM fun p=>(aT P 0 p.2).map fun x=>(p.1,x)
def gQ(P:Program):Option Operand→Option (Option ay)
 |none=>some none
 |some x=>(aT P 0 x).map some
def jv(P:Program):List Operand→List TypeId→Option (List ay)
 | [],_=>some []
 |x::xs,ts=>match aT P (ts.headD 0) x,jv P xs ts.tail with
  |some y,some ys=>some (y::ys)
  |_,_=>none
def oh(P:Program):Nat→List Field→Bool
 |_,[]=>true
 |k,f::fs=>f.offset==k&&oh P (k+P.cellsOf f.type) fs
def fG(P:Program):Nat→TypeId→Option bY
 |0,_=>none
 |d+1,t=>match P.underlying t with
  |some (.int k)=>some (.i k)
  |some .bool=>some .b
  |some .string=>some .s
  | some (.struct fs) => if P.stoodInHeld t = false ∧ (fs.toList.all fun f => f.name != "_") = true ∧ oh P 0 fs.toList = true then
    (fs.toList.mapM fun (f:Field)=>match fG P d f.type with
     |some ty=>if ty.size=P.cellsOf f.type then some ty else none
     |none=>none).map .aV else none
  |some (.array n e)=>match fG P d e with
   |some ty=>if ty.size=P.cellsOf e∧(P.info? e).isSome=true then some (.oT n ty) else none
   |none=>none
  |_=>none
def pC:Option TypeDesc→Bool
 |some (.int _)=>true
 |_=>false
def u7:bY→Bool
 | .i _=>true
 |_=>false
def jg(P:Program)(t:TypeId):Option bY:=match P.underlying t with
 |some (.int k)=>some (.i k)
 |some (.struct fs)=>match fG P 12 t with
  |some (.aV l)=>if l.all u7=true∧(fs.all fun f=>pC (P.underlying f.type))=true then some (.aV l) else none
  |_=>none
 |_=>none
def tp(P:Program)(t:TypeId)(z:I):Bool:=match (P.info? t).bind (·.zero) with
 |some (.agg _)=>z.isAgg
 |some _ => !z.isAgg
 |none=>false
def wh:Operand→Operand→Bool
 | .tmp a,.tmp b=>a==b
 |_,_=>false
theorem XS{x y:Operand}(h:wh x y=true):y=x:=by
 unfold wh at h;split at h
 ·simp only[beq_iff_eq] at h;rw[h]
 ·cases h
def UM:Option TypeDesc→Bool
 |some .string=>true
 |_=>false
def zm:Option TypeDesc→Bool
 |some (.interface _)=>false
 |some _=>true
 |none=>false
def cA(P:Program)(o:Oper):Option br :=
 match o.op with
 | .move x | .assign x=>(aT P o.type x).map .mv
 | .pick c a b=>match aT P 0 c,aT P o.type a,aT P o.type b with
  |some c,some a,some b=>some (.pick c a b)
  |_,_,_=>none
 | .binOp op t x y _=>match P.underlying t,aT P 0 x,aT P 0 y with
  |some (.int _),some x,some y | some .string,some x,some y=>some (.bin op x y)
  |some (.slice _),some x,some y=>match y with
   | .c (.nils _)=>if op=.eql∨op=.neq then some (.nilS (op==.neq) x) else none
   |_=>none
  |some (.pointer _),some x,some y=>if op=.eql∨op=.neq then some (.ptrE (op==.neq) x y) else none
  |some (.interface _),some x,some y=>match y with
   | .c .cL=>if op=.eql∨op=.neq then some (.prim (.mG (op==.neq)) [x]) else none
   |_=>none
  |some _,some x,some y=>if (op=.eql∨op=.neq)∧P.eqGuardType P.depth t=false then (fG P 12 t).map fun ty=>.eqv ty (op==.neq) x y else none
  |_,_,_=>none
 | .unOp op _ x=>(aT P 0 x).map (.un op)
 | .nilCheck x=>(aT P 0 x).map .nilC
 | .makeMap _ none=>some .ke
 | .lookup t m k ok=>match P.underlying t,aT P 0 m,aT P 0 k with
  |some (.map kt et),some m,some k=>match jg P kt,fe P et with
   |some ty,some z=>if tp P et z=true then some (.lk ty z ok m k) else none
   |_,_=>none
  |_,_,_=>none
 | .mapUpdate t m k v | .insert t m k v=>match P.underlying t,aT P 0 m,aT P 0 k with
  |some (.map kt et),some m,some k=>match jg P kt,aT P et v with
   |some ty,some v=>some (.jH ty m k v)
   |_,_=>none
  |_,_,_=>none
 | .makeSlice t l l'=>match P.underlying t,aT P 0 l with
  |some (.slice e),some n=>match fe P e with
   |some z=>if wh l l'=true∧z.size=1∧P.cellsOf e=1 then some (.jl e (P.bytesOf e) z n) else none
   |none=>none
  |_,_=>none
 | .range t x=>match P.underlying t with
  |some (.map _ _)=>(aT P 0 x).map .jP
  |_=>none
 | .next x false=>(aT P 0 x).map .jI
 | .entry x=>(aT P 0 x).map .ent
 | .convert lB dst x=>match P.underlying lB,P.underlying dst,aT P 0 x with
  |some (.int _),some (.int k),some x=>some (.conv k x)
  |some (.slice e),some .string,some x=>match P.underlying e with
   |some (.int .u8)=>some (.b2s x)
   |_=>none
  |some .string,some (.slice e),some x=>match P.underlying e with
   |some (.int .u8)=>some (.eE x)
   |_=>none
  |_,_,_=>none
 | .load t x=>match eU P t,aT P 0 x with
  |some s,some x=>some (.ld s x)
  |_,_=>none
 | .fieldAddr t x f=>match P.underlying t,aT P 0 x with
  |some (.struct fs),some x=>match fs[f]? with
   |some fd=>if P.cellsOf fd.type=0 then none else some (.fa f fd.offset x)
   |none=>none
  |_,_=>none
 | .field t x f=>match P.underlying t,aT P 0 x with
  |some (.struct fs),some x=>match fs[f]? with
   |some fd=>(eU P fd.type).map fun s=>.fl f fd.offset s x
   |none=>none
  |_,_=>none
 | .indexAddr t x i=>match P.underlying t,aT P 0 x,aT P 0 i with
  |some (.array n e),some x,some i=>if (P.info? e).isSome then some (.ia n (P.cellsOf e) x i) else none
  |some (.slice e),some x,some i=>if (P.info? e).isSome then some (.is (P.cellsOf e) x i) else none
  |_,_,_=>none
 | .index t x i=>match P.underlying t,aT P 0 x,aT P 0 i with
  |some (.array n e),some x,some i=>(eU P e).map fun s=>.ix n (P.cellsOf e) s x i
  |some .string,some x,some i=>some (.prim .dN [x,i])
  |_,_,_=>none
 | .slice t x lo hi mx=>match P.underlying t,aT P 0 x with
  |some (.array n e),some x=>match lo,hi,mx with
   |none,none,none=>if (P.info? e).isSome then some (.va n (P.cellsOf e) x) else none
   |_,_,_=>none
  |some (.slice e),some x=>match gQ P lo,gQ P hi,gQ P mx with
   |some lo,some hi,some mx=>if (mx.isSome=true→hi.isSome=true)∧(P.info? e).isSome=true then some (.sl (P.cellsOf e) x lo hi mx) else none
   |_,_,_=>none
  |some .string,some x=>match lo,hi,mx with
   |none,some hi,none=>(aT P 0 hi).map fun hi=>.prim (.ss false true) [x,hi]
   |some lo,none,none=>(aT P 0 lo).map fun lo=>.prim (.ss true false) [x,lo]
   |some lo,some hi,none=>match aT P 0 lo,aT P 0 hi with
    |some lo,some hi=>some (.prim (.ss true true) [x,lo,hi])
    |_,_=>none
   |_,_,_=>none
  |_,_=>none
 | .build t parts=>match fe P t,jY P parts.toList with
  |some (.agg zs),some ps=>match P.underlying t with
   |some (.struct fs)=>if (fs.toList.map fun f=>(f.offset,P.cellsOf f.type))=km 0 zs∧(fs.all fun f=>(P.info? f.type).isSome)=true then some (.bld zs ps) else none
   |some (.array n e)=>if zs.length=n∧(zs.all fun z=>z.size==P.cellsOf e)=true∧(P.info? e).isSome=true then some (.bld zs ps) else none
   |_=>none
  |_,_=>none
 | .buildSlice t len parts=>match P.underlying t with
  |some (.slice e)=>match jY P parts.toList with
   |some ps=>if len=0∧parts = #[]∧(P.info? e).isSome=true then some (.bs0 (P.cellsOf e)) else if ps.map (·.1)=List.range len∧0<P.cellsOf e∧0<len∧len*P.cellsOf e≤16777216∧((P.info? e).bind (·.zero)).isSome=true then some (.bs e (P.cellsOf e) (ps.map (·.2))) else none
   |none=>none
  |_=>none
 | .extract x i=>(aT P 0 x).map fun x=>.ext x i
 | .makeFunc (.func f) first caps=>if f<1000000 then (if first.isEmpty then (jv P caps.toList []).map (.mk f) else if caps.isEmpty then (jv P first.toList []).map (.mk (f+1000000)) else none) else none
 | .alloc t=>(fe P t).map .alloc
 | .box t x=>(aT P t x).map .box
 | .store t x v=>match eU P t,aT P 0 x,aT P t v with
  |some s,some x,some v=>if s.isSome=true∨P.cellsOf t=1 then some (.aV s x v) else none
  |_,_,_=>none
 | .call { callee:=.value (.func f),args,argTypes } =>if dM P f then (jv P args.toList argTypes.toList).map (.call f) else (jv P args.toList argTypes.toList).map (.gv f)
 | .call { callee:=.value x,args,argTypes } =>match aT P 0 x,jv P args.toList argTypes.toList with
  |some x,some args=>some (.eY x args)
  |_,_=>none
 | .call { callee:=.builtin .len,args,argTypes } =>match args.toList,argTypes.toList with
  | [x],[t]=>match P.underlying t with
   |some (.slice _)=>(aT P t x).map .len
   |some .string=>(aT P t x).map .lenT
   |_=>none
  |_,_=>none
 | .call { callee:=.builtin .append,args,argTypes } =>match args.toList,argTypes.toList with
  | [s,x],[t,t']=>match P.underlying t,aT P t s,aT P t' x with
   |some (.slice e),some s,some x=>if t=t'∧0<P.cellsOf e∧(fe P e).map I.size=some (P.cellsOf e) then (fe P e).map fun z=>.dD e (P.cellsOf e) (P.bytesOf e) z s x else
    if pC (P.underlying t')=true∧0<P.cellsOf e∧(fe P e).map I.size=some (P.cellsOf e) then (fe P e).map fun z=>.jt e (P.cellsOf e) (P.bytesOf e) z s x else none
   |_,_,_=>none
  |_,_=>none
 | .call { callee:=.builtin .cap,args,argTypes } =>match args.toList,argTypes.toList with
  | [x],[t]=>match P.underlying t with
   |some (.slice _)=>(aT P t x).map .cap
   |_=>none
  |_,_=>none
 | .call { callee:=.builtin .clear,args,argTypes } =>match args.toList,argTypes.toList with
  | [x],[t]=>match P.underlying t,aT P t x with
   |some (.slice e),some x=>(fe P e).map fun z=>.jb (P.cellsOf e) z x
   |_,_=>none
  |_,_=>none
 | .call { callee:=.builtin .copy,args,argTypes } =>match args.toList,argTypes.toList with
  | [x,y],[t,t']=>match P.underlying t,aT P t x,aT P t' y with
   |some (.slice e),some x,some y=>if (t=t'∨UM (P.underlying t')=true)∧(P.info? e).isSome=true then some (.fQ (P.cellsOf e) x y) else none
   |_,_,_=>none
  |_,_=>none
 | .call { callee:=.builtin .delete,args,argTypes } =>match args.toList,argTypes.toList with
  | [m,k],[t,_]=>match P.underlying t,aT P 0 m,aT P 0 k with
   |some (.map kt _),some m,some k=>(jg P kt).map fun ty=>.lg ty m k
   |_,_,_=>none
  |_,_=>none
 | .call { callee:=.builtin .max,args,.. } =>match args.toList with
  | [x,y]=>match aT P 0 x,aT P 0 y with
   |some x,some y=>some (.max2 x y)
   |_,_=>none
  |_=>none
 | .call { callee:=.builtin .min,args,.. } =>match args.toList with
  | [x,y]=>match aT P 0 x,aT P 0 y with
   |some x,some y=>some (.prim .min2 [x,y])
   |_,_=>none
  |_=>none
 | .makeInterface t x=>if zm (P.underlying t)=true then (aT P t x).map fun x=>.prim (.lT t) [x] else none
 | .panic x=>(aT P 0 x).map fun x=>.prim .kj [x]
 |_=>none
def cG(c:b9)(A:ab)(o:Oper)(x:I):Prop :=
 ∀ a w D E,aL c A a w D E→∃ v w' D',(execOp a.eval o).run c.P w=.ok (.value v) w'∧aL c A a w' D' E∧aP w' D' E x v
section
variable {c:b9} {A:ab} {o:Oper} {x:I}
theorem cG.same(h:∀ a w D E,aL c A a w D E→∃ v,(execOp a.eval o).run c.P w=.ok (.value v) w∧aP w D E x v):cG c A o x :=
 fun a w D E hs=>let ⟨v,h1,h2⟩:=h a w D E hs;⟨v,w,D,h1,hs,h2⟩
theorem AF{y:Operand}{z:ay}(ho:o.op=.move y∨o.op=.assign y)(hz:aT c.P o.type y=some z):cG c A o (af A z) :=
 .same fun a w D E hs=>⟨a.eval y,by rcases ho with ho | ho <;>simp[execOp,ho],bp hs hz⟩
theorem Ur{q y z:Operand}{q' y' z':ay}{t:Bool}(ho:o.op=.pick q y z)(hq:aT c.P 0 q=some q')(hy:aT c.P o.type y=some y')(hz:aT c.P o.type z=some z')
  (ht:af A q'=.bool t):cG c A o (if t then af A y' else af A z') :=
 .same fun a w D E hs=>by
  have h1:=bp hs hq;rw[ht] at h1;have h2:=kv h1;refine ⟨if t then a.eval y else a.eval z,by cases t <;>simp[execOp,ho,h2,asBool],?_⟩;cases t
  ·exact bp hs hz
  ·exact bp hs hy
theorem vY{P:Program}{w:World}(op:BinOp)(t:TypeId)(x y:Operand){u v:Value}(hu:u.oneCell'=true)(hn:u≠.nilIface):(eqGuard op t x y u v).run P w=.ok () w:=by
 cases op <;>cases u <;>simp[Value.oneCell'] at hu <;>first | (exact absurd rfl hn) | (cases v <;>simp[eqGuard])
theorem FK{op:BinOp}{x y z:I}(h:bF op x y=some z){P:Program}{t:TypeId}{w:World}{D:aJ}{E:aM}{u v:Value}(hx:aP w D E x u)(hy:aP w D E y v)(xo yo:Operand) :
  ∃ r,(do eqGuard op t xo yo u v;binOp op t u v:Sem Value).run P w=.ok r w∧aP w D E z r:=by
 unfold bF at h;split at h
 ·rename_i k a k' b;obtain ⟨rfl,ha⟩:=dc hx;obtain ⟨rfl,hb⟩:=dc hy;have hg:∀ op,(eqGuard op t xo yo (.int k a) (.int k' b)).run P w=.ok () w:=fun op=>vY op t xo yo rfl (by simp);simp only[Sem.run_bind,hg,Result.andThen_ok];split at h
  ·split at h
   ·rename_i hb0;simp only[v6] at h;subst h;have:¬ b<0:=by omega
    exact ⟨_,by simp[binOp,Op.shift,this],gU (oE _ _)⟩
   ·cases h
  ·split at h
   ·rename_i hb0;simp only[v6] at h;subst h;have:¬ b<0:=by omega
    exact ⟨_,by simp[binOp,Op.shift,this],gU (L0 _ _ _ ha)⟩
   ·cases h
  ·rename_i op h1 h2;split at h
   ·rename_i hk;subst hk;split at h <;>first
     |(simp at h;done)
     |(simp only[v6] at h;subst h;exact ⟨_,by simp[binOp,Op.intArith,Op.intBits,Op.intCmp],gU (oE _ _)⟩)
     |(simp only[v6] at h;subst h;exact ⟨_,by simp[binOp,Op.intCmp],kd _⟩)
     |(split at h
       ·cases h
       ·rename_i hb0;simp only[v6] at h;subst h
        first
         |exact ⟨_,by simp[binOp,Op.intDiv,hb0],gU (oE _ _)⟩
         |exact ⟨_,by simp[binOp,Op.intDiv,hb0],gU (Yj _ _ _ ha)⟩)
   ·cases h
 ·rename_i s s';obtain ⟨rfl,hs1⟩:=fM hx;obtain ⟨rfl,hs2⟩:=fM hy;have hg:∀ op,(eqGuard op t xo yo (.string s) (.string s')).run P w=.ok () w:=fun op=>vY op t xo yo rfl (by simp);simp only[Sem.run_bind,hg,Result.andThen_ok];split at h <;>first
   |(simp at h;done)
   |(simp only[v6] at h;subst h;exact ⟨_,by simp[binOp,Op.stringOp],kd _⟩)
   |(split at h
     ·rename_i hl;simp only[v6] at h;subst h;have hl':¬ (((s.size+s'.size:Nat):Int)>IntKind.i64.max):=by
       have e:IntKind.i64.max=9223372036854775807:=by simp[IntKind.max,IntKind.bits,IntKind.signed]
       rw[e];omega
      refine ⟨.string (s++s'),by simp only[binOp,Op.stringOp,if_neg hl',Sem.run_pure],?_⟩;exact ⟨_,by simp[aY,I.isAgg];rfl,by simp only[ae,true_and];rw[ByteArray.size_append];unfold maxLen;omega⟩
     ·cases h)
 ·cases h
theorem AD{op:BinOp}{t yt:TypeId}{y z:Operand}{y' z':ay}(ho:o.op=.binOp op t y z yt)(hy:aT c.P 0 y=some y')(hz:aT c.P 0 z=some z')(h:bF op (af A y') (af A z')=some x):cG c A o x :=
 .same fun a w D E hs=>by
  obtain ⟨r,h1,h2⟩:=FK h (P:=c.P) (t:=t) (bp hs hy) (bp hs hz) y z;exact ⟨r,by simp only[execOp,ho,Sem.run_bind] at *;rw[h1];rfl,h2⟩
theorem Uq{t:TypeId}{y:Operand}{y':ay}{b:Bool}(ho:o.op=.unOp .not t y)(hy:aT c.P 0 y=some y')(h:af A y'=.bool b):cG c A o (.bool !b) :=
 .same fun a w D E hs=>by
  have h1:=bp hs hy;rw[h] at h1;exact ⟨.bool !b,by simp[execOp,ho,kv h1,Op.unary],kd _⟩
theorem Uo{t:TypeId}{y:Operand}{y':ay}{k:IntKind}{n:Int}(ho:o.op=.unOp .neg t y)(hy:aT c.P 0 y=some y')(h:af A y'=.int k n):cG c A o (.int k (k.wrap (0-n))) :=
 .same fun a w D E hs=>by
  have h1:=bp hs hy;rw[h] at h1;exact ⟨.int k (k.wrap (0-n)),by simp[execOp,ho,(dc h1).1,Op.unary,Op.intArith],gU (oE _ _)⟩
theorem TZ{t:TypeId}{y:Operand}{y':ay}{k:IntKind}{n:Int}(ho:o.op=.unOp .xor t y)(hy:aT c.P 0 y=some y')(h:af A y'=.int k n):cG c A o (.int k (nI k n)) :=
 .same fun a w D E hs=>by
  have h1:=bp hs hy;rw[h] at h1;exact ⟨.int k (nI k n),by simp[execOp,ho,(dc h1).1,Op.unary,Op.intBits,nI],gU (oE _ _)⟩
theorem TY{lB dst:TypeId}{y:Operand}{y':ay}{k k0 k1:IntKind}{n:Int}(ho:o.op=.convert lB dst y)(h1:c.P.underlying lB=some (.int k0))(h2:c.P.underlying dst=some (.int k))
  (hy:aT c.P 0 y=some y') (h:af A y'=.int k1 n):cG c A o (.int k (k.wrap n)) :=
 .same fun a w D E hs=>by
  have h3:=bp hs hy;rw[h] at h3;exact ⟨.int k (k.wrap n),by simp[execOp,ho,(dc h3).1,convert,run_underlying h1,run_underlying h2,Conv.intToInt],gU (oE _ _)⟩
theorem T7{y:Operand}{y':ay}{i:Nat}{fs:List I}(ho:o.op=.extract y i)(hy:aT c.P 0 y=some y')(h:af A y'=.tuple fs)(hi:fs[i]?=some x):cG c A o x :=
 .same fun a w D E hs=>by
  have h3:=bp hs hy;rw[h] at h3;obtain ⟨vs,h4,h5⟩:=h3;have:∀ (fs:List I) (vs:List Value) (i:Nat),ak w D E fs vs→fs[i]?=some x→∃ v,vs[i]?=some v∧aP w D E x v:=by
   intro fs
   induction fs with
   |nil=>intro vs i _ hi;simp at hi
   |cons f fs ih =>
    intro vs i hr hi;simp only[ak] at hr;obtain ⟨v,rest,cs,rfl,k1,k2,k3⟩:=hr;cases i with
    |zero =>
     simp only[List.getElem?_cons_zero,v6] at hi ⊢;subst hi;refine ⟨v,rfl,?_⟩;cases f <;>simp only[aP] <;>first | (simp only[ae] at k2;done) | exact ⟨cs,k1,k2⟩
    |succ i=>simpa using ih rest i k3 (by simpa using hi)
  obtain ⟨v,h6,h7⟩:=this fs vs i h5 hi;exact ⟨v,by simp[execOp,ho,h4,Instr.extract,h6],h7⟩
theorem fm{w:World}{D:aJ}{E:aM}{x:I}{v:Value}{cs:List Value}(h1:aY x v cs)(h2:ae w D E x cs):aP w D E x v:=by
 cases x <;>simp only[aP] <;>first | (simp only[ae] at h2;done) | exact ⟨cs,h1,h2⟩
theorem DC{P:Program}{w:World}{t:TypeId}{s:Option Nat}(h:eU P t=some s):(isAgg t).run P w=.ok s.isSome w:=by
 unfold eU at h;unfold isAgg;cases hu:P.underlying t with
 |none=>simp[hu] at h
 |some d =>
  rw[Sem.run_bind,run_underlying hu w];cases d <;>simp_all <;>(subst h;rfl)
theorem vf{P:Program}{t:TypeId}{n:Nat}(h:eU P t=some (some n)):n=P.cellsOf t:=by
 unfold eU at h;split at h <;>simp_all
theorem u5{P:Program}{t:TypeId}{d:TypeDesc}(h:P.underlying t=some d):∃ i,P.info? t=some i:=by
 unfold Program.underlying at h;cases hi:P.info? t with
 |none=>simp[hi] at h
 |some i=>exact ⟨i,rfl⟩
theorem gq{P:Program}{w:World}{t:TypeId}{i:TypeInfo}(h:P.info? t=some i):(sizeOf t).run P w=.ok (P.cellsOf t) w:=by
 simp[sizeOf,typeInfo,h,Program.cellsOf]
theorem rU{P:Program}{t:TypeId}{s:Option Nat}(h:eU P t=some s):∃ i,P.info? t=some i:=by
 unfold eU at h;split at h
 ·rename_i fs hu;exact u5 hu
 ·rename_i n e hu;exact u5 hu
 ·rename_i d _ _ hu;exact u5 hu
 ·cases h
theorem lI(b off j:Nat):(⟨b,off,none⟩:Addr).add j=⟨b,off+j,none⟩:=by unfold Addr.add;split <;>simp_all
theorem DE{P:Program}{w:World}{D:aJ}{E:aM}{t:TypeId}{s:Option Nat}{b off:Nat}{cs:List Value}{y:I}(hk:eU P t=some s)(hok:bU s y=true)
  (hcs:∀ j u,cs[j]?=some u→w.cell? ⟨b,off+j,none⟩=some u) (hy:ae w D E y cs):∃ v,(loadVar t ⟨b,off,none⟩).run P w=.ok v w∧aP w D E y v:=by
 have hag:=DC (w:=w) hk;cases s with
 |none =>
  simp only[bU,Bool.not_eq_true'] at hok;have hl:=ae.length _ _ hy;have hsz:y.size=1:=by cases y <;>simp_all[I.isAgg,I.size]
  rw[hsz] at hl
  match cs,hl with
  | [v],_ =>
   have:=hcs 0 v rfl;rw[Nat.add_zero] at this;refine ⟨v,?_,Bv hok hy⟩;simp only[loadVar,Sem.run_bind,hag,Result.andThen_ok,Option.isSome_none,Z5,if_false,run_load,this]
 |some n =>
  simp only[bU,Z0,beq_iff_eq] at hok;obtain ⟨hag',hsz⟩:=hok;have hn:=vf hk;obtain ⟨i,hi⟩:=rU hk;have hl:=ae.length _ _ hy;refine ⟨.agg cs.toArray,?_,fm (by simp[aY,hag']) hy⟩;have hlc:=run_loadCells_list (P:=P) w ⟨b,off,none⟩ cs (fun j u hj=>by rw[lI];exact hcs j u hj);rw[hl,hsz,hn] at hlc;simp only[loadVar,Sem.run_bind,hag,Result.andThen_ok,Option.isSome_some,if_true,gq hi,hlc,Sem.run_pure]
theorem Uh{t:TypeId}{y:Operand}{y':ay}{s:Option Nat}(ho:o.op=.load t y)(hk:eU c.P t=some s)(hy:aT c.P 0 y=some y')(h:bQ A (af A y')=some x)(hok:bU s x=true):cG c A o x :=
 .same fun a w D E hs=>by
  obtain ⟨b,off,cs,h1,h2,h3⟩:=hs.xG (bp hs hy) h;obtain ⟨v,h4,h5⟩:=DE hk hok h2 h3;exact ⟨v,by simp[execOp,ho,Instr.loadAt,h1,Instr.sureAddr,h4],h5⟩
theorem sQ{w:World}{D:aJ}{b off:Nat}{c1 c2 c3:List Value}(h:reads w D b off (c1++c2++c3)):reads w D b (off+c1.length) c2:=by
 intro j v hj;have hjl:j<c2.length:=(Z6.1 hj).1;have:=h (c1.length+j) v (by rw[Z8,zy4 (by omega),Nat.add_sub_cancel_left,Y5 (by omega)];exact hj)
 rwa [←Nat.add_assoc] at this
theorem bM.su:∀ (p:List Nat) (s:bM) (o i:Nat) (l:List bM),s.off p=some o→s.part p=some (.eC l)→i<l.length→s.off (p++[i])=some (o+bM.sizes (l.take i))
 | [],s,o,i,l,h1,h2,h3=>by
  simp only[bM.part,v6] at h2;subst h2;simp only[bM.off,v6] at h1;subst h1;simp[bM.off,Y1 h3]
 |k::p,.one,o,i,l,h1,h2,h3=>by simp[bM.part] at h2
 |k::p,.eC m,o,i,l,h1,h2,h3=>by
  simp only[bM.off,bM.part,Y3] at *;cases hk:m[k]? with
  |none=>simp[hk] at h2
  |some s =>
   simp only[hk] at h1 h2 ⊢;simp only[t7] at h1;obtain ⟨o',h4,rfl⟩:=h1;rw[bM.su p s o' i l h4 h2 h3];simp[Nat.add_assoc]
theorem nc{esz:Nat} : ∀ (fs:List I) (k:Nat),(∀ f∈fs,f.size=esz)→k≤fs.length→I.sizes (fs.take k)=k*esz:=by
 intro fs k h hk;rw[I.fZ _ (fun x hx=>h x (zy8 hx))];simp[Nat.min_eq_left hk]
theorem pf{n esz:Nat}{fs:List I}(h:gA n esz fs=true):fs.length=n∧∀ f∈fs,f.size=esz:=by
 simp only[gA,Z0,beq_iff_eq,zz6] at h;exact h
theorem DA{P:Program}{w:World}{t:TypeId}{f b off:Nat}{fs:Array Field}{fd:Field}(hu:P.underlying t=some (.struct fs))(hf:fs[f]?=some fd)(hz:¬ P.cellsOf fd.type=0) :
  (Instr.fieldAt t (.pointer (some ⟨b,off,none⟩)) f).run P w=.ok (.pointer (some ⟨b,off+fd.offset,none⟩)) w:=by
 have hi:∃ i,P.info? fd.type=some i:=by
  cases h:P.info? fd.type with
  |none=>simp[Program.cellsOf,h] at hz
  |some i=>exact ⟨i,rfl⟩
 obtain ⟨i,hi⟩:=hi;simp only[Instr.fieldAt,Sem.run_bind,run_underlying hu,Result.andThen_ok,hf,Instr.sureAddr,Sem.run_pure,fieldPlace,gq hi,Sem.run_ite,if_neg hz,lI]
theorem T9{t:TypeId}{y:Operand}{y':ay}{f:Nat}{fs:Array Field}{fd:Field}{gs:List I}(ho:o.op=.fieldAddr t y f)(hu:c.P.underlying t=some (.struct fs))(hf:fs[f]?=some fd)(hz:¬ c.P.cellsOf fd.type=0)
  (hy:aT c.P 0 y=some y') (h:af A y'=.ref (.agg gs)) (hx:gs[f]?=some x) (hoff:I.sizes (gs.take f)=fd.offset):cG c A o (.ref x) :=
 .same fun a w D E hs=>by
  have h1:=bp hs hy;rw[h] at h1;obtain ⟨b,off,cs,h2,h3,h4⟩:=ot h1;simp only[ae] at h4;obtain ⟨c1,c2,c3,rfl,k1,_,k2,_⟩:=ln gs cs f x h4 hx;refine ⟨_,by simp only[execOp,ho,h2,Sem.run_bind,DA hu hf hz];rfl,r8 (cs:=c2) ?_ k2⟩;rw[←hoff,←k1];exact sQ h3
theorem T8{t:TypeId}{y:Operand}{y':ay}{f n:Nat}{p:List Nat}{fs:Array Field}{fd:Field}{gs:List I}(ho:o.op=.fieldAddr t y f)(hu:c.P.underlying t=some (.struct fs))(hf:fs[f]?=some fd)(hz:¬ c.P.cellsOf fd.type=0)
  (hy:aT c.P 0 y=some y') (h:af A y'=.ptr n p) (hd:bQ A (.ptr n p)=some (.agg gs)) (hl:f<gs.length) (hoff:I.sizes (gs.take f)=fd.offset):cG c A o (.ptr n (p++[f])) :=
 .same fun a w D E hs=>by
  have h1:=bp hs hy;rw[h] at h1;obtain ⟨b,aK,off,h2,h3,h4⟩:=ky h1;obtain ⟨z,b',cs,T,off',c1,c2,c3,k1,k2,_,k3,k4,k5,k6,k7,k8,k9,_⟩:=hs.at hd;rw[k2] at h2;simp only[v6,bu.aB.injEq] at h2;obtain ⟨rfl,rfl⟩:=h2;refine ⟨_,by simp only[execOp,ho,h4,Sem.run_bind,DA hu hf hz];rfl,?_⟩;refine ⟨_,by simp[aY,I.isAgg];rfl,?_⟩;simp only[ae];refine ⟨b',z.aK,off+fd.offset,k2,?_,rfl⟩;rw[bM.su p z.aK off f _ h3 (ly p z _ k4) (by rw[I.cF];simpa using hl),I.cF,←List.map_take,←I.cF,I.lz,hoff]
theorem DB{P:Program}{w:World}{t e:TypeId}{n b off:Nat}{kk:IntKind}{k:Int}{i:TypeInfo}(hu:P.underlying t=some (.array n e))(hi:P.info? e=some i)(hk:0≤k∧k<n) :
  (Instr.indexAt t (.pointer (some ⟨b,off,none⟩)) (.int kk k)).run P w=.ok (.pointer (some ⟨b,off+k.toNat*P.cellsOf e,none⟩)) w:=by
 simp[Instr.indexAt,asIntOf,run_underlying hu,Instr.sureAddr,hk,gq hi,lI]
theorem vZ{P:Program}{w:World}{t e:TypeId}{n b off cap:Nat}{kk:IntKind}{k:Int}{i:TypeInfo}(hu:P.underlying t=some (.slice e))(hi:P.info? e=some i)(hk:0≤k∧k<n) :
  (Instr.indexAt t (.slice (some ⟨b,off,none⟩) n cap) (.int kk k)).run P w=.ok (.pointer (some ⟨b,off+k.toNat*P.cellsOf e,none⟩)) w:=by
 simp[Instr.indexAt,asIntOf,run_underlying hu,hk,gq hi,lI]
theorem Uc{t e:TypeId}{y z:Operand}{y' z':ay}{n:Nat}{i:TypeInfo}{gs:List I}{kk:IntKind}{k:Int}(ho:o.op=.indexAddr t y z)(hu:c.P.underlying t=some (.array n e))(hi:c.P.info? e=some i)
  (hy:aT c.P 0 y=some y') (hz:aT c.P 0 z=some z') (h:af A y'=.ref (.agg gs)) (h':af A z'=.int kk k) (hk:0≤k∧k<n) (hev:gA n (c.P.cellsOf e) gs=true) (hx:gs[k.toNat]?=some x):cG c A o (.ref x) :=
 .same fun a w D E hs=>by
  have h1:=bp hs hy;rw[h] at h1;have h1':=bp hs hz;rw[h'] at h1';obtain ⟨b,off,cs,h2,h3,h4⟩:=ot h1;simp only[ae] at h4;obtain ⟨c1,c2,c3,rfl,k1,_,k2,_⟩:=ln gs cs k.toNat x h4 hx;obtain ⟨e1,e2⟩:=pf hev;have hl:k.toNat<gs.length:=(Z6.1 hx).1;refine ⟨_,by simp only[execOp,ho,h2,(dc h1').1,Sem.run_bind,DB hu hi hk];rfl,r8 (cs:=c2) ?_ k2⟩;rw[←nc gs k.toNat e2 (by omega),←k1];exact sQ h3
theorem Ub{t e:TypeId}{y z:Operand}{y' z':ay}{n m:Nat}{p:List Nat}{i:TypeInfo}{gs:List I}{kk:IntKind}{k:Int}(ho:o.op=.indexAddr t y z)(hu:c.P.underlying t=some (.array n e))(hi:c.P.info? e=some i)
  (hy:aT c.P 0 y=some y') (hz:aT c.P 0 z=some z') (h:af A y'=.ptr m p) (h':af A z'=.int kk k) (hk:0≤k∧k<n) (hd:bQ A (.ptr m p)=some (.agg gs)) (hev:gA n (c.P.cellsOf e) gs=true):cG c A o (.ptr m (p++[k.toNat])) :=
 .same fun a w D E hs=>by
  have h1:=bp hs hy;rw[h] at h1;have h1':=bp hs hz;rw[h'] at h1';obtain ⟨b,aK,off,h2,h3,h4⟩:=ky h1;obtain ⟨zz,b',cs,T,off',c1,c2,c3,k1,k2,_,k3,k4,k5,k6,k7,k8,k9,_⟩:=hs.at hd;rw[k2] at h2;simp only[v6,bu.aB.injEq] at h2;obtain ⟨rfl,rfl⟩:=h2;obtain ⟨e1,e2⟩:=pf hev;have hl:k.toNat<gs.length:=by omega
  refine ⟨_,by simp only[execOp,ho,h4,(dc h1').1,Sem.run_bind,DB hu hi hk];rfl,?_⟩;refine ⟨_,by simp[aY,I.isAgg];rfl,?_⟩;simp only[ae];refine ⟨b',zz.aK,off+k.toNat*c.P.cellsOf e,k2,?_,rfl⟩;rw[bM.su p zz.aK off k.toNat _ h3 (ly p zz _ k4) (by rw[I.cF];simpa using hl),I.cF,←List.map_take,←I.cF,I.lz,nc gs _ e2 (by omega)]
theorem uw{w:World}{D:aJ}{E:aM}{b off sz k:Nat}{cs:List Value}{es:List I}{x:I}(h1:reads w D b off cs)(h2:az w D E es cs)(h3:∀ e∈es,e.size=sz)(hx:es[k]?=some x) :
  ∃ c2,reads w D b (off+k*sz) c2∧ae w D E x c2:=by
 obtain ⟨c1,c2,c3,rfl,k1,_,k2,_⟩:=ln es cs k x h2 hx;have hl:k<es.length:=(Z6.1 hx).1;refine ⟨c2,?_,k2⟩;rw[←nc es k h3 (by omega),←k1];exact sQ h1
theorem Ud{t e:TypeId}{y z:Operand}{y' z':ay}{i:TypeInfo}{es:List I}{kk:IntKind}{k:Int}(ho:o.op=.indexAddr t y z)(hu:c.P.underlying t=some (.slice e))(hi:c.P.info? e=some i)
  (hy:aT c.P 0 y=some y') (hz:aT c.P 0 z=some z') (h:af A y'=.slice (c.P.cellsOf e) es) (h':af A z'=.int kk k) (hk:0≤k∧k<es.length) (hx:es[k.toNat]?=some x):cG c A o (.ref x) :=
 .same fun a w D E hs=>by
  have h1:=bp hs hy;rw[h] at h1;have h1':=bp hs hz;rw[h'] at h1';obtain ⟨ad,cap,rfl',h2,h3,h4,h5⟩:=kz h1;rcases h4 with h4 | ⟨b,off,cs,rfl,h6,h7⟩
  ·subst h4;simp at hx
  obtain ⟨c2,k1,k2⟩:=uw h6 h7 h5 hx;exact ⟨_,by simp only[execOp,ho,rfl',(dc h1').1,Sem.run_bind,vZ hu hi hk];rfl,r8 k1 k2⟩
theorem aL.XZ{a:Act}{w:World}{D:aJ}{E:aM}(h:aL c A a w D E){n sz b cap:Nat}{T:TypeId}{es:List I}(hn:A.o n=some (.bJ T sz es))(aq:E n=some (.rw (some (b,cap)) es.length)) :
  aL c A a w (fun b' o=>D b' o∨(b'=b∧o<es.length*sz)) E:=by
 have hrow:=h.bJ hn;obtain ⟨aA,k1,k2,k3⟩:=hrow;rw[aq] at k1;simp only[v6,bu.rw.injEq,and_true] at k1;subst k1;obtain ⟨cs,pre,rest,k4,k5,k6,k7,k8,k9,k10,k11⟩:=k3;refine h.EF (fun _ _ hd=>.inl hd) ?_ ?_ ?_ ?_ ?_ ?_
 ·rintro b' o (hd | ⟨rfl,_⟩) hlt
  ·exact h.cI _ _ hd hlt
  ·exact absurd k4 hlt
 ·rintro b' o (hd | ⟨rfl,_⟩)
  ·exact h.cK _ _ hd
  ·exact eI k5
 ·rintro m x b' hm hEm o (hd | ⟨rfl,_⟩)
  ·obtain ⟨b2,cs2,T2,q1,q2,q3,q4,q5⟩:=h.box hm;rw[q1] at hEm;simp only[v6,bu.aB.injEq,and_true] at hEm;subst hEm;exact q5 o hd
  ·have:=h.cu m n _ _ b' hEm aq rfl rfl;subst this;rw[hm] at hn;cases hn
 ·rintro m T' sz' es' b' cap' hm hEm o (hd | ⟨rfl,ho⟩)
  ·obtain ⟨aA,q1,q2,q3⟩:=h.bJ hm;rw[hEm] at q1;simp only[v6,bu.rw.injEq,and_true] at q1;subst q1;obtain ⟨cs',pre',rest',q4,q5,q6,q7,q8,q9,q10,q11⟩:=q3;have:=q11 o hd
   rwa [az.length _ _ q7,I.fZ _ q2] at this
  ·have:=h.cu m n _ _ b' hEm aq rfl rfl;subst this;rw[hm] at hn;simp only[v6,ai.bJ.injEq] at hn;obtain ⟨rfl,rfl,rfl⟩:=hn;exact ho
 ·rintro m T' xs b' cap' hm hEm o (hd | ⟨rfl,ho⟩)
  ·obtain ⟨aA,q1,_,q3⟩:=h.wN hm;rw[hEm] at q1;simp only[v6,bu.rw.injEq,and_true] at q1;subst q1;obtain ⟨_,_,_,_,_,_,_,_,q4⟩:=q3;exact q4 o hd
  ·have:=h.cu m n _ _ b' hEm aq rfl rfl;subst this;rw[hm] at hn;cases hn
 ·rintro m e' b' hE' hoth hblk o (hd | ⟨rfl,_⟩)
  ·exact h.vH hE' hoth hblk o hd
  ·have:=h.cu m n _ _ b' hE' aq hblk rfl;subst this;rw[hE'] at aq;cases aq;cases hoth
theorem aL.own{a:Act}{w:World}{D:aJ}{E:aM}(h:aL c A a w D E){n sz:Nat}{T:TypeId}{es:List I}{v:Value}(hn:A.o n=some (.bJ T sz es))(hv:aP w D E (.own n es.length) v) :
  (es=[]∧E n=some (.rw none 0)∧v=.slice none 0 0) ∨
  ∃ b cap cs pre rest,E n=some (.rw (some (b,cap)) es.length)∧v=.slice (some ⟨b,0,none⟩) es.length cap∧c.eb b∧w.heap[b]?=some (.cells cs T (0,0))∧cs.toList=pre++rest ∧
   az w D E es pre∧cs.size=cap*sz∧es.length≤cap∧cap≤maxLen∧(∀ o,D b o→o<pre.length):=by
 obtain ⟨cs0,h1,h2⟩:=hv;simp only[ae] at h2;obtain ⟨aA,l,h3,h4,_,h5⟩:=h2;obtain ⟨blk',k1,k2,k3⟩:=h.bJ hn;rw[k1] at h3;simp only[v6,bu.rw.injEq] at h3;obtain ⟨rfl,rfl⟩:=h3;have h5:=h5 rfl;cases blk' with
 |none =>
  simp only at k3 h5;subst k3;exact .inl ⟨rfl,k1,by simpa[aY,I.isAgg,h5] using h1.symm⟩
 |some bc =>
  obtain ⟨b,cap⟩:=bc;simp only at h5;obtain ⟨cs,pre,rest,k4,k5,k6,k7,k8,k9,k10,k11⟩:=k3;exact .inr ⟨b,cap,cs,pre,rest,k1,by simpa[aY,I.isAgg,h5] using h1.symm,k4,k5,k6,k7,k8,k9,k10,k11⟩
theorem Ue{t e:TypeId}{y z:Operand}{y' z':ay}{i:TypeInfo}{es:List I}{n:Nat}{kk:IntKind}{k:Int}(ho:o.op=.indexAddr t y z)(hu:c.P.underlying t=some (.slice e))(hi:c.P.info? e=some i)
  (hy:aT c.P 0 y=some y') (hz:aT c.P 0 z=some z') (h:af A y'=.own n es.length) {T:TypeId} (hn:A.o n=some (.bJ T (c.P.cellsOf e) es)) (h':af A z'=.int kk k) (hk:0≤k∧k<es.length) (hx:es[k.toNat]?=some x):cG c A o (.ref x):=by
 intro a w D E hs;have h1:=bp hs hy;rw[h] at h1;have h1':=bp hs hz;rw[h'] at h1';rcases hs.own hn h1 with ⟨rfl,_⟩ | ⟨b,cap,cs,pre,rest,k1,k2,k3,k4,k5,k6,k7,k8,k9,k10⟩
 ·simp at hx
 ·have hs':=hs.XZ hn k1;obtain ⟨aA,q1,q2,_⟩:=hs.bJ hn;have hpl:pre.length=es.length*c.P.cellsOf e:=by rw[az.length _ _ k6,I.fZ _ q2]
  have hr:reads w (fun b' o=>D b' o∨(b'=b∧o<es.length*c.P.cellsOf e)) b 0 pre:=by
   have:=sP (D:=fun b' o=>D b' o∨(b'=b∧o<es.length*c.P.cellsOf e)) (c1:=[]) k4 (by simpa using k5) (fun o ho=>.inr ⟨rfl,by simp at ho;omega⟩);simpa using this
  have hrc:az w (fun b' o=>D b' o∨(b'=b∧o<es.length*c.P.cellsOf e)) E es pre :=
   az.later ⟨fun _ _ hd=>.inl hd,fun _ _ _ _ h=>h,fun _ _ _ h=>h,fun _ aA l h=>⟨aA,l,h,Z7 _,fun _=>rfl⟩,fun _ _ h=>h,fun _ _ h=>h,fun _ _ _ _ h=>h⟩ es pre k6
  obtain ⟨c2,q3,q4⟩:=uw hr hrc q2 hx;exact ⟨_,w,_,by simp only[execOp,ho,k2,(dc h1').1,Sem.run_bind,vZ hu hi hk];rfl,hs',r8 q3 q4⟩
end
section
variable {c:b9} {A:ab} {o:Oper} {x:I}
theorem mX{P:Program}{w:World}{D:aJ}{E:aM}{t:TypeId}{s:Option Nat}{c1 c2 c3:List Value}{y:I}(hk:eU P t=some s)(hok:bU s y=true)(hy:ae w D E y c2) :
  ∃ v,(part t (c1++c2++c3).toArray c1.length).run P w=.ok v w∧aP w D E y v:=by
 have hag:=DC (w:=w) hk;have hl:=ae.length _ _ hy;cases s with
 |none =>
  simp only[bU,Bool.not_eq_true'] at hok;have hsz:y.size=1:=by cases y <;>simp_all[I.isAgg,I.size]
  rw[hsz] at hl
  match c2,hl with
  | [v],_ =>
   refine ⟨v,?_,Bv hok hy⟩;simp[part,hag]
 |some n =>
  simp only[bU,Z0,beq_iff_eq] at hok;obtain ⟨hag',hsz⟩:=hok;have hn:=vf hk;obtain ⟨i,hi⟩:=rU hk;refine ⟨.agg c2.toArray,?_,fm (by simp[aY,hag']) hy⟩;have e:((c1++c2++c3).toArray.extract c1.length (c1.length+P.cellsOf t))=c2.toArray:=by
   have:P.cellsOf t=c2.length:=by rw[hl,hsz,hn]
   rw[this];simp
  simp only[part,Sem.run_bind,hag,Result.andThen_ok,Option.isSome_some,if_true,gq hi,e,Sem.run_pure]
theorem Ua{t:TypeId}{y:Operand}{y':ay}{f:Nat}{s:Option Nat}{fs:Array Field}{fd:Field}{gs:List I}(ho:o.op=.field t y f)(hu:c.P.underlying t=some (.struct fs))(hf:fs[f]?=some fd)(hk:eU c.P fd.type=some s)
  (hy:aT c.P 0 y=some y') (h:af A y'=.agg gs) (hx:gs[f]?=some x) (hoff:I.sizes (gs.take f)=fd.offset) (hok:bU s x=true):cG c A o x :=
 .same fun a w D E hs=>by
  have h1:=bp hs hy;rw[h] at h1;obtain ⟨cs,h2,h4⟩:=iy h1;obtain ⟨c1,c2,c3,rfl,k1,_,k2,_⟩:=ln gs cs f x h4 hx;obtain ⟨v,k3,k4⟩:=mX (c1:=c1) (c3:=c3) hk hok k2;rw[k1,hoff] at k3;exact ⟨v,by simp only[execOp,ho,h2,Instr.field,Sem.run_bind,run_underlying hu,Result.andThen_ok,hf,asAgg,Sem.run_pure,k3],k4⟩
theorem Ug{t e:TypeId}{y z:Operand}{y' z':ay}{n:Nat}{s:Option Nat}{gs:List I}{kk:IntKind}{k:Int}(ho:o.op=.index t y z)(hu:c.P.underlying t=some (.array n e))(hk:eU c.P e=some s)
  (hy:aT c.P 0 y=some y') (hz:aT c.P 0 z=some z') (h:af A y'=.agg gs) (h':af A z'=.int kk k) (hb:0≤k∧k<n) (hev:gA n (c.P.cellsOf e) gs=true) (hx:gs[k.toNat]?=some x) (hok:bU s x=true):cG c A o x :=
 .same fun a w D E hs=>by
  have h1:=bp hs hy;rw[h] at h1;have h1':=bp hs hz;rw[h'] at h1';obtain ⟨cs,h2,h4⟩:=iy h1;obtain ⟨c1,c2,c3,rfl,k1,_,k2,_⟩:=ln gs cs k.toNat x h4 hx;obtain ⟨v,k3,k4⟩:=mX (c1:=c1) (c3:=c3) hk hok k2;obtain ⟨e1,e2⟩:=pf hev;obtain ⟨i,hi⟩:=rU hk;have hl:k.toNat<gs.length:=(Z6.1 hx).1;rw[k1,nc gs k.toNat e2 (by omega)] at k3;exact ⟨v,by simp only[execOp,ho,h2,(dc h1').1,Instr.index,Sem.run_bind,asIntOf,run_underlying hu,Result.andThen_ok,Sem.run_ite,if_pos hb,gq hi,Sem.run_pure,k3],k4⟩
theorem vk{n:Nat}(h:n≤maxLen):IntKind.i64.min≤(n:Int)∧(n:Int)≤IntKind.i64.max:=by
 simp only[IntKind.min,IntKind.max,IntKind.bits,IntKind.signed];unfold maxLen at h;simp;omega
theorem nS{ty:TypeId}{y:Operand}{y':ay}{n:Nat}{d:TypeDesc}(ho:o.op=.call { callee:=.builtin .len,args := #[y],argTypes := #[ty] })(hu:c.P.underlying ty=some d)(hd:(∃ e,d=.slice e)∨d=.string)
  (hy:aT c.P ty y=some y') (h:∀ a w D E,aL c A a w D E→∀ v,aP w D E (af A y') v→n≤maxLen∧((∃ e,d=.slice e)→∃ ad cap,v=.slice ad n cap)∧(d=.string→∃ s,v=.string s∧s.size=n)):cG c A o (.int .i64 n) :=
 .same fun a w D E hs=>by
  obtain ⟨h0,h1,h2⟩:=h a w D E hs _ (bp hs hy);refine ⟨.int .i64 n,?_,gU (vk h0)⟩;rcases hd with ⟨e,rfl⟩ | rfl
  ·obtain ⟨ad,cap,hv⟩:=h1 ⟨e,rfl⟩;simp[execOp,ho,resolve,invoke,builtin,Builtin.len_,run_underlying hu,hv,goInt]
  ·obtain ⟨s,hv,hs⟩:=h2 rfl;simp[execOp,ho,resolve,invoke,builtin,Builtin.len_,run_underlying hu,hv,goInt,hs]
theorem Uz{t e:TypeId}{y:Operand}{y':ay}{n:Nat}{i:TypeInfo}{gs:List I}(ho:o.op=.slice t y none none none)(hu:c.P.underlying t=some (.array n e))(hi:c.P.info? e=some i)
  (hy:aT c.P 0 y=some y') (h:af A y'=.ref (.agg gs)) (hev:gA n (c.P.cellsOf e) gs=true) (hn:n≤maxLen):cG c A o (.slice (c.P.cellsOf e) gs) :=
 .same fun a w D E hs=>by
  have h1:=bp hs hy;rw[h] at h1;obtain ⟨b,off,cs,h2,h3,h4⟩:=ot h1;simp only[ae] at h4;obtain ⟨e1,e2⟩:=pf hev;by_cases h0:n=0
  ·exact ⟨.slice (some ⟨b,off,none⟩) 0 0,by simp[execOp,ho,h2,Instr.sliceAt,run_underlying hu,Instr.sureAddr,Instr.sliceBounds,gq hi,h0],r9 (by omega) (by omega) (by simp[maxLen]) (.inl (zy3 (by omega))) e2⟩
  ·exact ⟨.slice (some ⟨b,off,none⟩) n n,by simp[execOp,ho,h2,Instr.sliceAt,run_underlying hu,Instr.sureAddr,Instr.sliceBounds,gq hi,lI],r9 e1.symm (Z7 _) hn (.inr ⟨b,off,cs,rfl,h3,h4⟩) e2⟩
theorem Uy{t e:TypeId}{y:Operand}{y':ay}{n m:Nat}{p:List Nat}{i:TypeInfo}{gs:List I}(ho:o.op=.slice t y none none none)(hu:c.P.underlying t=some (.array n e))(hi:c.P.info? e=some i)
  (hy:aT c.P 0 y=some y') (h:af A y'=.ptr m p) (hd:bQ A (.ptr m p)=some (.agg gs)) (hev:gA n (c.P.cellsOf e) gs=true) (hn:n≤maxLen) (hn0:n≠0):cG c A o (.view m p (c.P.cellsOf e) 0 n) :=
 .same fun a w D E hs=>by
  have h1:=bp hs hy;rw[h] at h1;obtain ⟨b,aK,off,h2,h3,h4⟩:=ky h1;obtain ⟨zz,b',cs,T,off',c1,c2,c3,k1,k2,_,k3,k4,k5,k6,k7,k8,k9,_⟩:=hs.at hd;rw[k2] at h2;simp only[v6,bu.aB.injEq] at h2;obtain ⟨rfl,rfl⟩:=h2;obtain ⟨e1,e2⟩:=pf hev;refine ⟨.slice (some ⟨b',off,none⟩) n n,by simp[execOp,ho,h4,Instr.sliceAt,run_underlying hu,Instr.sureAddr,Instr.sliceBounds,gq hi,lI],?_⟩;refine ⟨_,by simp[aY,I.isAgg];rfl,?_⟩;simp only[ae];refine ⟨b',zz.aK,off,I.cE gs,k2,h3,ly p zz _ k4,?_,?_,?_,?_⟩
  ·rw[I.cF,Z2,e1];simp
  ·rw[I.cF,Z2,e1];exact hn
  ·rw[I.cF,Z2,e1];omega
  ·rw[I.cF];intro s hs';obtain ⟨f,hf,rfl⟩:=zz3.1 hs';rw[I.hJ];exact e2 f hf
theorem Xi{w:World}{D:aJ}{E:aM}{b off sz:Nat}{cs:List Value}{es:List I}(h1:reads w D b off cs)(h2:az w D E es cs)(h3:∀ e∈es,e.size=sz)(l h:Nat)(hl:l≤h)(hh:h≤es.length) :
  ∃ c2,reads w D b (off+l*sz) c2∧az w D E ((es.take h).drop l) c2:=by
 have hspl:∀ (xs ys:List I) (cs:List Value),az w D E (xs++ys) cs→∃ c1 c2,cs=c1++c2∧az w D E xs c1∧az w D E ys c2:=by
  intro xs
  induction xs with
  |nil=>intro ys cs hr;exact ⟨[],cs,rfl,by simp[az],hr⟩
  |cons x xs ih =>
   intro ys cs hr;simp only[Y3,az] at hr;obtain ⟨d1,d2,rfl,k1,k2⟩:=hr;obtain ⟨e1,e2,rfl,k3,k4⟩:=ih ys d2 k2;exact ⟨d1++e1,e2,by simp,by simp only[az];exact ⟨d1,e1,rfl,k1,k3⟩,k4⟩
 have e1:es=es.take l++((es.take h).drop l++es.drop h):=by
  rw[←Z8]
  conv=>lhs;rw[←List.take_append_drop h es]
  congr 1
  rw[←List.Yg l h es hl]
 rw[e1] at h2;obtain ⟨c1,c',rfl,k1,k2⟩:=hspl _ _ _ h2;obtain ⟨c2,c3,rfl,k3,k4⟩:=hspl _ _ _ k2;refine ⟨c2,?_,k3⟩;rw[←nc es l h3 (by omega),←az.length _ _ k1];rw[←Z8] at h1;exact sQ h1
 where
 List.Yg {α:Type} (l h:Nat) (es:List α) (hl:l≤h):es.take h=es.take l++(es.take h).drop l:=by
  conv=>lhs;rw[←List.take_append_drop l (es.take h)]
  rw[List.take_take,Nat.min_eq_left hl]
def gH(w:World)(D:aJ)(E:aM)(x:Option I)(v:Option Value):Prop:=match x,v with
 |none,none=>True
 |some x,some v=>aP w D E x v
 |_,_=>False
theorem GO{x:I}{d n:Int}(h:gy (some x) d=some n):∃ k,x=.int k n:=by
 cases x <;>simp[gy] at h
 subst h;exact ⟨_,rfl⟩
theorem pT{w:World}{D:aJ}{E:aM}{x:Option I}{v:Option Value}{d n:Int}(h:gH w D E x v)(hb:gy x d=some n) :
  (x=none∧v=none∧d=n)∨(x.isSome=true∧∃ k,v=some (.int k n)):=by
 cases x with
 |none =>
  cases v with
  |some _=>simp[gH] at h
  |none=>simp only[gy,v6] at hb;exact .inl ⟨rfl,rfl,hb⟩
 |some x =>
  cases v with
  |none=>simp[gH] at h
  |some v =>
   obtain ⟨k,rfl⟩:=GO hb;simp only[gH] at h;exact .inr ⟨rfl,k,by rw[(dc h).1]⟩
theorem v7{P:Program}{w:World}{D:aJ}{E:aM}{t e:TypeId}{i:TypeInfo}{sz:Nat}{es:List I}{lo hi mx:Option I}{vlo vhi vmx:Option Value}{x:I}{ad:Option Addr}{cap:Nat}
  (hu:P.underlying t=some (.slice e)) (hi':P.info? e=some i) (hsz:sz=P.cellsOf e) (hmh:mx.isSome=true→hi.isSome=true)
  (h1:gH w D E lo vlo) (h2:gH w D E hi vhi) (h3:gH w D E mx vmx) (hx:hU sz es lo hi mx=some x)
  (hcap:es.length≤cap) (hcm:cap≤maxLen) (hes:es=[]∨∃ b off cs,ad=some ⟨b,off,none⟩∧reads w D b off cs∧az w D E es cs) (hall:∀ e∈es,e.size=sz) :
  ∃ v,(Instr.sliceAt t (.slice ad es.length cap) vlo vhi vmx).run P w=.ok v w∧aP w D E x v:=by
 unfold hU at hx;split at hx
 ·cases hx
 rename_i h hh;split at hx
 ·cases hx
 rename_i m hm;split at hx
 ·cases hx
 rename_i l hl;split at hx
 case isFalse=>cases hx
 rename_i hb;obtain ⟨b1,b2,b3,b4⟩:=hb;have sb:∀ (k:IntKind) (n:Int) (y:Nat) (code:BoundsCode),0≤n→n≤y→(Instr.sliceBound (.int k n) y code).run P w=.ok n.toNat w:=fun k n y code g1 g2=>by
  simp[Instr.sliceBound,asIntOf,g1,g2]
 -- the bounds that the program finds
 have key:∃ m':Nat,es.length≤cap∧m'≤cap∧h.toNat≤m'∧(mx.isSome=true→m'=m.toNat)∧(mx=none→m'=cap) ∧
   (Instr.sliceBounds true es.length cap vlo vhi vmx).run P w=.ok (l.toNat,h.toNat,m') w:=by
  have c1:=pT h1 hl;have c2:=pT h2 hh;have c3:=pT h3 hm;clear h1 h2 h3;rcases c3 with ⟨rfl,rfl,hm3⟩ | ⟨s3,k3,rfl⟩
  ·refine ⟨cap,hcap,Z7 _,by omega,fun e=>(by cases e),fun _=>rfl,?_⟩;rcases c2 with ⟨rfl,rfl,hm2⟩ | ⟨s2,k2,rfl⟩ <;>rcases c1 with ⟨rfl,rfl,hm1⟩ | ⟨s1,k1,rfl⟩
   ·subst hm1 hm2;simp[Instr.sliceBounds]
   ·subst hm2;simp[Instr.sliceBounds,sb k1 l es.length _ b1 (by omega)]
   ·subst hm1;simp[Instr.sliceBounds,sb k2 h cap _ (by omega) (by omega)]
   ·simp[Instr.sliceBounds,sb k2 h cap _ (by omega) (by omega),sb k1 l h.toNat _ b1 (by omega)]
  ·refine ⟨m.toNat,hcap,by omega,by omega,fun _=>rfl,fun e=>(by rw[e] at s3;cases s3),?_⟩;rcases c2 with ⟨rfl,rfl,hm2⟩ | ⟨s2,k2,rfl⟩
   ·simp[s3] at hmh
   ·rcases c1 with ⟨rfl,rfl,hm1⟩ | ⟨s1,k1,rfl⟩
    ·subst hm1;simp[Instr.sliceBounds,sb k3 m cap _ (by omega) (by omega),sb k2 h m.toNat _ (by omega) (by omega)]
    ·simp[Instr.sliceBounds,sb k3 m cap _ (by omega) (by omega),sb k2 h m.toNat _ (by omega) (by omega),sb k1 l h.toNat _ b1 (by omega)]
 obtain ⟨m',g1,g2,g3,g4,g5,hsb⟩:=key;have hrun:(Instr.sliceAt t (.slice ad es.length cap) vlo vhi vmx).run P w =
   .ok (.slice (if m'=l.toNat then ad else ad.map (·.add (l.toNat*P.cellsOf e))) (h.toNat-l.toNat) (m'-l.toNat)) w:=by
  simp only[Instr.sliceAt,Instr.slice,Sem.run_bind,run_underlying hu,Result.andThen_ok,hsb,gq hi',Sem.run_pure]
 refine ⟨_,hrun,?_⟩;split at hx
 ·rename_i hc;simp only[v6] at hx;subst hx;have e1:m'=l.toNat:=by rw[g4 hc.1,hc.2]
  have e2:h.toNat-l.toNat=0:=by omega
  rw[if_pos e1,e2,e1,Nat.sub_self];exact ⟨_,by simp[aY,I.isAgg];rfl,by simp only[ae];exact ⟨ad,rfl⟩⟩
 ·simp only[v6] at hx;subst hx;have hlen:((es.take h.toNat).drop l.toNat).length=h.toNat-l.toNat:=by simp;omega
  refine r9 hlen.symm (by omega) (by omega) ?_ (fun y hy=>hall y (zy8 (List.mem_of_mem_drop hy)));by_cases hz:h.toNat=l.toNat
  ·left;exact zy3 (by omega)
  ·right
   rw[if_neg (by omega)];rcases hes with rfl | ⟨b,off,cs,rfl,q1,q2⟩
   ·simp at b4 g3;omega
   ·obtain ⟨c2,q3,q4⟩:=Xi q1 q2 hall l.toNat h.toNat (by omega) (by omega);exact ⟨b,off+l.toNat*sz,c2,by simp[lI,hsz],q3,q4⟩
theorem u1{t e:TypeId}{y:Operand}{y':ay}{lo hi mx:Option Operand}{lo' hi' mx':Option ay}{i:TypeInfo}{es:List I}(ho:o.op=.slice t y lo hi mx)(hu:c.P.underlying t=some (.slice e))(hi0:c.P.info? e=some i)
  (hy:aT c.P 0 y=some y') (h1:gQ c.P lo=some lo') (h2:gQ c.P hi=some hi') (h3:gQ c.P mx=some mx') (hmh:mx'.isSome=true→hi'.isSome=true)
  (h:af A y'=.slice (c.P.cellsOf e) es∨(af A y'=.nils (c.P.cellsOf e)∧es=[])∨(af A y'=.c0 (c.P.cellsOf e)∧es=[])) (hx:hU (c.P.cellsOf e) es (lo'.map (af A)) (hi'.map (af A)) (mx'.map (af A))=some x):cG c A o x :=
 .same fun a w D E hs=>by
  have opt:∀ {q:Option Operand} {q':Option ay},gQ c.P q=some q'→gH w D E (q'.map (af A)) (q.map a.eval):=by
   intro q q' hq;cases q with
   |none=>simp only[gQ,v6] at hq;subst hq;simp[gH]
   |some z =>
    simp only[gQ,t7] at hq;obtain ⟨z',hz,rfl⟩:=hq;simpa[gH] using bp hs hz
  have h0:=bp hs hy;have hmh':(mx'.map (af A)).isSome=true→(hi'.map (af A)).isSome=true:=by simpa using hmh
  rcases h with h | ⟨h,rfl⟩ | ⟨h,rfl⟩
  ·rw[h] at h0;obtain ⟨ad,cap,e1,e2,e3,e4,e5⟩:=kz h0;obtain ⟨v,k1,k2⟩:=v7 hu hi0 rfl hmh' (opt h1) (opt h2) (opt h3) hx e2 e3 e4 e5;exact ⟨v,by simp only[execOp,ho,e1,Sem.run_bind,k1];rfl,k2⟩
  ·rw[h] at h0;obtain ⟨cs,q1,q2⟩:=h0;simp only[ae] at q2;have e1:a.eval y=.slice none ([]:List I).length 0:=by simpa[aY,I.isAgg,q2] using q1.symm
   obtain ⟨v,k1,k2⟩:=v7 (ad:=none) (cap:=0) hu hi0 rfl hmh' (opt h1) (opt h2) (opt h3) hx (by simp) (by simp[maxLen]) (.inl rfl) (by simp);exact ⟨v,by simp only[execOp,ho,e1,Sem.run_bind,k1];rfl,k2⟩
  ·rw[h] at h0;obtain ⟨cs,q1,q2⟩:=h0;simp only[ae] at q2;obtain ⟨ad,q2⟩:=q2;have e1:a.eval y=.slice ad ([]:List I).length 0:=by simpa[aY,I.isAgg,q2] using q1.symm
   obtain ⟨v,k1,k2⟩:=v7 (ad:=ad) (cap:=0) hu hi0 rfl hmh' (opt h1) (opt h2) (opt h3) hx (by simp) (by simp[maxLen]) (.inl rfl) (by simp);exact ⟨v,by simp only[execOp,ho,e1,Sem.run_bind,k1];rfl,k2⟩
end
inductive dS {α β:Type} (R:α→β→Prop):List α→List β→Prop where
 |nil:dS R [] []
 |cons {x:α} {y:β} {xs:List α} {ys:List β} : R x y→dS R xs ys→dS R (x::xs) (y::ys)
section
variable {c:b9} {A:ab} {o:Oper} {x:I}
theorem Xh{w:World}{D:aJ}{E:aM}{xs:List I}{cs ds:List Value}{i:Nat}{x y:I}(h:az w D E xs cs)(hx:xs[i]?=some x)(hy:ae w D E y ds)(hs:y.size=x.size) :
  I.sizes (xs.take i)+ds.length≤cs.length∧az w D E (xs.set i y) (cs.take (I.sizes (xs.take i))++ds++cs.drop (I.sizes (xs.take i)+ds.length)):=by
 obtain ⟨c1,c2,c3,rfl,h1,h2,h3,h4⟩:=ln xs cs i x h hx;have hi:i<xs.length:=(Z6.1 hx).1;have hl:ds.length=c2.length:=by rw[ae.length _ _ hy,ae.length _ _ h3,hs]
 refine ⟨by simp only[Z1,h1];omega,?_⟩;have e1:xs.set i y=xs.take i++y::xs.drop (i+1):=by rw[List.set_eq_take_append_cons_drop];simp[hi]
 have e2:(c1++c2++c3).take (I.sizes (xs.take i))++ds++(c1++c2++c3).drop (I.sizes (xs.take i)+ds.length)=c1++(ds++c3):=by
  rw[←h1,hl,Z8 c1 c2 c3,List.take_left,List.drop_length_add_append,List.drop_left,Z8]
 rw[e1,e2];refine iP _ _ _ _ h2 ?_;simp only[az];exact ⟨ds,c3,rfl,hy,h4⟩
theorem Me(off:Nat)(l:List Value)(cs:Array Value)(h:off+l.length≤cs.size) :
  ((l.zipIdx 0).foldl (fun cs (x:Value×Nat)=>cs.setIfInBounds (off+x.2) x.1) cs).toList=cs.toList.take off++l++cs.toList.drop (off+l.length):=by
 obtain ⟨h1,h2⟩:=Great.foldl_set off l 0 cs;apply List.ext_getElem?;intro k;rw[zz1,h2 k];simp only[Nat.add_zero,Z8];by_cases hk:k<off
 ·rw[if_neg (by omega),Y5 (by simp;omega)];simp[hk]
 ·rw[zy4 (by simp;omega)];simp only[Y0,zz5,Nat.min_eq_left (show off≤cs.size by omega)];by_cases hk2:k<off+l.length
  ·rw[if_pos ⟨by omega,by omega,by omega⟩,Y5 (by omega)]
  ·rw[if_neg (by omega),zy4 (by omega)];simp only[List.getElem?_drop,zz1]
   congr 1
   omega
theorem uH{w:World}{D:aJ}{E:aM}(pl:Nat→Option (Nat×Nat)):∀ (ps:List (Nat×I)) (vs:List (Nat×Value)) (zs zs':List I) (cells:Array Value),
  (∀ i z,zs[i]?=some z→pl i=some (I.sizes (zs.take i),z.size))→az w D E zs cells.toList→fB zs ps=some zs' →
  dS (fun (p:Nat×I) (v:Nat×Value)=>p.1=v.1∧aP w D E p.2 v.2) ps vs →
  ∃ cells',Instr.fill pl cells vs=some cells'∧az w D E zs' cells'.toList
 | [],vs,zs,zs',cells,hp,hr,hs,hf=>by
  cases hf;simp only[fB,v6] at hs;subst hs;exact ⟨cells,rfl,hr⟩
 |(i,y)::ps,vs,zs,zs',cells,hp,hr,hs,hf=>by
  cases hf with
  |cons h1 h2 =>
   rename_i v vs;obtain ⟨j,u⟩:=v;simp only at h1;obtain ⟨rfl,hv⟩:=h1;simp only[fB] at hs;split at hs
   ·rename_i z hz;split at hs
    ·rename_i hsz;obtain ⟨hval,hsz⟩:=hsz;obtain ⟨ds,k1,k2⟩:∃ ds,aY y u ds∧ae w D E y ds:=by
      cases y <;>simp[I.cC] at hval <;>exact hv
     have hcells:=k1.cells k2;have hds:u.cells.size=z.size:=by rw[←zz5,hcells,ae.length _ _ k2,hsz]
     obtain ⟨k3,k4⟩:=Xh hr hz k2 hsz;have hcl:cells.toList.length=cells.size:=zz5;have hl:ds.length=u.cells.size:=by rw[←hcells,zz5]
     have hp':∀ k z',(zs.set i y)[k]?=some z'→pl k=some (I.sizes ((zs.set i y).take k),z'.size):=by
      intro k z' hk;have hil:i<zs.length:=(Z6.1 hz).1;have hsizes:∀ k,I.sizes ((zs.set i y).take k)=I.sizes (zs.take k):=by
       intro k;have gen:∀ (zs:List I) (i k:Nat) (z:I),zs[i]?=some z→z.size=y.size→I.sizes ((zs.set i y).take k)=I.sizes (zs.take k):=by
        intro zs
        induction zs with
        |nil=>intro i k z hz _;simp at hz
        |cons q qs ih =>
         intro i k z hz he;cases k with
         |zero=>simp
         |succ k =>
          cases i with
          |zero =>
           simp only[List.getElem?_cons_zero,v6] at hz;subst hz;simp[I.sizes,he]
          |succ i =>
           simp only[List.set_cons_succ,List.take_succ_cons,I.sizes,ih i k z (by simpa using hz) he]
       exact gen zs i k z hz hsz.symm
      rw[hsizes];rw[List.getElem?_set] at hk;split at hk
      ·rename_i hik;subst hik;simp only[v6] at hk;subst hk;rw[hp i z hz,hsz]
      ·exact hp k z' hk
     have hfold:=Me (I.sizes (zs.take i)) u.cells.toList cells (by rw[hcells];omega);rw[hcells] at hfold;obtain ⟨cells',k5,k6⟩:=uH pl ps vs (zs.set i y) zs' ((u.cells.toList.zipIdx 0).foldl (fun cs (x:Value×Nat)=>cs.setIfInBounds (I.sizes (zs.take i)+x.2) x.1) cells) hp'
      (by rw[hcells,hfold];exact k4) hs h2
     refine ⟨cells',?_,k6⟩;unfold Instr.fill;simp only[hp i z hz];rw[if_neg (by simp[hds];omega)];rw[←k5]
     congr 1
     rw[←Array.foldl_toList,Array.toList_zipIdx]
    ·cases hs
   ·cases hs
theorem BZ{a:Act}{w:World}{D:aJ}{E:aM}(hs:aL c A a w D E){P:Program} : ∀ (ps:List (Nat×Operand)) (qs:List (Nat×ay)),jY P ps=some qs →
  dS (fun (p:Nat×I) (v:Nat×Value)=>p.1=v.1∧aP w D E p.2 v.2) (qs.map fun p=>(p.1,af A p.2)) (ps.map fun p=>(p.1,a.eval p.2))
 | [],qs,h=>by simp[jY] at h;subst h;exact .nil
 |(i,x)::ps,qs,h=>by
  simp only[jY,List.mapM_cons,Option.bind_eq_bind,Option.pure_def,zy5,t7,v6] at h;obtain ⟨_,⟨y,hy,rfl⟩,qs',hq,rfl⟩:=h;exact .cons ⟨rfl,bp hs hy⟩ (BZ hs ps qs' hq)
theorem AE{t:TypeId}{parts:Array (Nat×Operand)}{ps:List (Nat×ay)}{zs zs':List I}(ho:o.op=.build t parts)(hz:fe c.P t=some (.agg zs))(hp:jY c.P parts.toList=some ps)
  (hpl:(∃ fs,c.P.underlying t=some (.struct fs)∧(fs.toList.map fun f=>(f.offset,c.P.cellsOf f.type))=km 0 zs∧(fs.all fun f=>(c.P.info? f.type).isSome)=true) ∨
   (∃ n e,c.P.underlying t=some (.array n e)∧zs.length=n∧(zs.all fun z=>z.size==c.P.cellsOf e)=true∧(c.P.info? e).isSome=true))
  (h:fB zs (ps.map fun p=>(p.1,af A p.2))=some zs'):cG c A o (.agg zs') :=
 .same fun a w D E hs=>by
  obtain ⟨i,z,hi,hzv,hzr⟩:=kG hz;have hzr:=hzr w D E;simp only[ae] at hzr;have hparts:=BZ hs parts.toList ps hp;have hmap:(parts.map fun (q:Nat×Operand)=>(q.1,a.eval q.2)).toList=parts.toList.map fun p=>(p.1,a.eval p.2):=by simp
  rcases hpl with ⟨fs,hu,hoffs,hinfo⟩ | ⟨n,e,hu,hn,hev,hinfo⟩
  ·have hpl:∀ i z,zs[i]?=some z→(km 0 zs)[i]?=some (I.sizes (zs.take i),z.size):=by
    intro i z hiz;rw[B4,hiz];simp
   obtain ⟨cells',k1,k2⟩:=uH ((km 0 zs)[·]?) _ _ zs zs' z.cells hpl hzr h hparts;have hm:fs.toList.mapM (fun f=>(c.P.info? f.type).map fun i=>(f.offset,i.size))=some (km 0 zs):=by
    rw[←hoffs];have hall:∀ f∈fs.toList,(c.P.info? f.type).isSome=true:=fun f hf=>by
     have:=(Array.all_eq_true_iff_forall_mem.1 hinfo) f (by simpa using hf);exact this
    revert hall;generalize fs.toList=l;intro hall
    induction l with
    |nil=>rfl
    |cons f l ih =>
     obtain ⟨j,hj⟩:=Y4.1 (hall f (by simp));simp only[List.mapM_cons,Option.bind_eq_bind,hj,Z9,Option.bind_some,ih (fun g hg=>hall g (by simp[hg])),Option.pure_def,Z3,Program.cellsOf,Option.getD_some]
   have hb:c.P.built t (parts.map fun (q:Nat×Operand)=>(q.1,a.eval q.2)).toList=some cells':=by
    unfold Program.built;simp only[hi,hu,hzv,hm];rw[hmap,←k1]
    congr 1
    funext k
    simp
   exact ⟨.agg cells',by simp only[execOp,ho,Sem.run_bind,run_build w t _ _ hb];rfl,by have:=Bu k2;simpa using this⟩
  ·obtain ⟨ie,hie⟩:=Y4.1 hinfo;have hev':∀ z∈zs,z.size=ie.size:=fun z hz=>by
    have:=zz6.1 hev z hz;simpa[Program.cellsOf,hie] using this
   have hpl:∀ i z,zs[i]?=some z→(fun i=>some (i*ie.size,ie.size)) i=some (I.sizes (zs.take i),z.size):=by
    intro i z hiz;have hl:i<zs.length:=(Z6.1 hiz).1;rw[nc zs i hev' (by omega),hev' z (List.mem_of_getElem? hiz)]
   obtain ⟨cells',k1,k2⟩:=uH (fun i=>some (i*ie.size,ie.size)) _ _ zs zs' z.cells hpl hzr h hparts;have hb:c.P.built t (parts.map fun (q:Nat×Operand)=>(q.1,a.eval q.2)).toList=some cells':=by
    unfold Program.built;simp only[hi,hu,hzv,hie];rw[hmap,←k1]
   exact ⟨.agg cells',by simp only[execOp,ho,Sem.run_bind,run_build w t _ _ hb];rfl,by have:=Bu k2;simpa using this⟩
theorem jW{a:Act}{w:World}{D:aJ}{E:aM}(hs:aL c A a w D E){P:Program} : ∀ (xs:List Operand) (ts:List TypeId) (ys:List ay),jv P xs ts=some ys →
  dS (aP w D E) (ys.map (af A)) (xs.map a.eval)
 | [],_,ys,h=>by simp[jv] at h;subst h;exact .nil
 |x::xs,ts,ys,h=>by
  simp only[jv] at h;split at h
  ·rename_i y ys' h1 h2;simp only[v6] at h;subst h;exact .cons (bp hs h1) (jW hs xs _ ys' h2)
  ·cases h
theorem kC{w:World}{D:aJ}{E:aM} : ∀ (xs:List I) (vs:List Value),dS (aP w D E) xs vs→(∀ x∈xs,x.cC=true)→ak w D E xs vs
 | [],vs,h,_=>by cases h;simp[ak]
 |x::xs,vs,h,hv=>by
  cases h with
  |cons h1 h2 =>
   rename_i v vs;have hx:=hv x (by simp);obtain ⟨cs,k1,k2⟩:∃ cs,aY x v cs∧ae w D E x cs:=by
    cases x <;>simp[I.cC] at hx <;>exact h1
   simp only[ak];exact ⟨v,vs,cs,rfl,k1,k2,kC xs vs h2 (fun y hy=>hv y (by simp[hy]))⟩
theorem pk{aB:Bool}{B:ab} : ∀ {xs ys:List I},bE aB B xs=some ys→∀ x∈xs,x.cC=true
 | [],ys,_,x,hx=>by simp at hx
 |y::xs,ys,h,x,hx=>by
  simp only[bE] at h;split at h
  ·rename_i z zs h1 h2;rcases zy0.1 hx with rfl | hx
   ·cases x <;>simp_all[ba,I.cC]
   ·exact pk h2 x hx
  ·cases h
theorem Uj{f:FuncId}(hf:f<1000000){caps:Array Operand}{ys:List ay}(ho:o.op=.makeFunc (.func f) #[] caps)(hc:jv c.P caps.toList []=some ys)(hv:∀ y∈ys,(af A y).cC=true):cG c A o (.func f (ys.map (af A))) :=
 .same fun a w D E hs=>by
  have h:=kC _ _ (jW hs caps.toList [] ys hc) (by simpa using hv);have e:caps.map a.eval=(caps.toList.map a.eval).toArray:=by apply Array.ext';simp
  refine ⟨.func (.func f) #[] (caps.toList.map a.eval).toArray,by simp[execOp,ho,Instr.makeFunc,e],⟨_,by simp[aY,I.isAgg];rfl,?_⟩⟩;simp only[ae];exact ⟨_,by rw[lO hf],h⟩
theorem Ul{f:FuncId}{first:Array Operand}{ys:List ay}(ho:o.op=.makeFunc (.func f) first #[])(hc:jv c.P first.toList []=some ys)(hv:∀ y∈ys,(af A y).cC=true):cG c A o (.func (f+1000000) (ys.map (af A))) :=
 .same fun a w D E hs=>by
  have h:=kC _ _ (jW hs first.toList [] ys hc) (by simpa using hv);have e:first.map a.eval=(first.toList.map a.eval).toArray:=by apply Array.ext';simp
  refine ⟨.func (.func f) (first.toList.map a.eval).toArray #[],by simp[execOp,ho,Instr.makeFunc,e],⟨_,by simp[aY,I.isAgg];rfl,?_⟩⟩;simp only[ae];exact ⟨_,by rw[pn],h⟩
theorem DH{w:World}{D:aJ}{E:aM} : ∀ (xs:List I) (vs:List Value),ak w D E xs vs→az w D E xs (vs.flatMap fun v=>v.cells.toList)∧vs.length=xs.length∧∀ (sz:Nat),(∀ x∈xs,x.size=sz)→∀ v∈vs,v.cells.size=sz
 | [],vs,h=>by simp only[ak] at h;subst h;simp[az]
 |x::xs,vs,h=>by
  simp only[ak] at h;obtain ⟨v,rest,cs,rfl,h1,h2,h3⟩:=h;obtain ⟨k1,k2,k3⟩:=DH xs rest h3;have hc:=h1.cells h2;refine ⟨?_,by simp[k2],fun sz hsz u hu =>?_⟩
  ·simp only[List.flatMap_cons,az];exact ⟨_,_,rfl,by rw[hc];exact h2,k1⟩
  ·rcases zy0.1 hu with rfl | hu
   ·rw[←zz5,hc,ae.length _ _ h2,hsz x (by simp)]
   ·exact k3 sz (fun y hy=>hsz y (by simp[hy])) u hu
def mW(A:ab)(D:aJ)(E:aM):aJ:=fun b o=>D b o∨∃ n T sz es cap,A.o n=some (.bJ T sz es)∧E n=some (.rw (some (b,cap)) es.length)∧o<es.length*sz
theorem aL.na{a:Act}{w:World}{D:aJ}{E:aM}(h:aL c A a w D E):aL c A a w (mW A D E) E∧gw false A D E (mW A D E):=by
 have hblk:∀ {n T sz es b cap},A.o n=some (.bJ T sz es)→E n=some (.rw (some (b,cap)) es.length)→c.eb b∧b<w.heap.size:=by
  intro n T sz es b cap hn aq;obtain ⟨aA,k1,k2,k3⟩:=h.bJ hn;rw[aq] at k1;simp only[v6,bu.rw.injEq,and_true] at k1;subst k1;obtain ⟨cs,pre,rest,k4,k5,_⟩:=k3;exact ⟨k4,eI k5⟩
 refine ⟨h.EF (fun _ _ hd=>.inl hd) ?_ ?_ ?_ ?_ ?_ ?_,⟨fun _ _ hd=>.inl hd,fun n T sz es b cap hn aq o ho=>.inr ⟨n,T,sz,es,cap,hn,aq,ho⟩,(fun hb=>by cases hb),fun hb=>by cases hb⟩⟩
 ·rintro b o (hd | ⟨n,T,sz,es,cap,hn,aq,ho⟩) hlt
  ·exact h.cI _ _ hd hlt
  ·exact absurd (hblk hn aq).1 hlt
 ·rintro b o (hd | ⟨n,T,sz,es,cap,hn,aq,ho⟩)
  ·exact h.cK _ _ hd
  ·exact (hblk hn aq).2
 ·rintro m x b hm hEm o (hd | ⟨n,T,sz,es,cap,hn,aq,ho⟩)
  ·obtain ⟨b2,cs2,T2,q1,q2,q3,q4,q5⟩:=h.box hm;rw[q1] at hEm;simp only[v6,bu.aB.injEq,and_true] at hEm;subst hEm;exact q5 o hd
  ·have:=h.cu m n _ _ b hEm aq rfl rfl;subst this;rw[hm] at hn;cases hn
 ·rintro m T' sz' es' b cap' hm hEm o (hd | ⟨n,T,sz,es,cap,hn,aq,ho⟩)
  ·obtain ⟨aA,q1,q2,q3⟩:=h.bJ hm;rw[hEm] at q1;simp only[v6,bu.rw.injEq,and_true] at q1;subst q1;obtain ⟨cs',pre',rest',q4,q5,q6,q7,q8,q9,q10,q11⟩:=q3;have:=q11 o hd
   rwa [az.length _ _ q7,I.fZ _ q2] at this
  ·have:=h.cu m n _ _ b hEm aq rfl rfl;subst this;rw[hm] at hn;simp only[v6,ai.bJ.injEq] at hn;obtain ⟨rfl,rfl,rfl⟩:=hn;exact ho
 ·rintro m T' xs b cap' hm hEm o (hd | ⟨n,T,sz,es,cap,hn,aq,ho⟩)
  ·obtain ⟨aA,q1,_,q3⟩:=h.wN hm;rw[hEm] at q1;simp only[v6,bu.rw.injEq,and_true] at q1;subst q1;obtain ⟨_,_,_,_,_,_,_,_,q4⟩:=q3;exact q4 o hd
  ·have:=h.cu m n _ _ b hEm aq rfl rfl;subst this;rw[hm] at hn;cases hn
 ·rintro m e' b hE' hoth hblk o (hd | ⟨n,T,sz,es,cap,hn,aq,ho⟩)
  ·exact h.vH hE' hoth hblk o hd
  ·have:=h.cu m n _ _ b hE' aq hblk rfl;subst this;rw[hE'] at aq;cases aq;cases hoth
theorem B1{a:Act}{w:World}{D:aJ}{E:aM}(hs:aL c A a w D E){P:Program} : ∀ (ps:List (Nat×Operand)) (qs:List (Nat×ay)),jY P ps=some qs →
  dS (aP w D E) ((qs.map (·.2)).map (af A)) (ps.map fun p=>a.eval p.2)∧qs.map (·.1)=ps.map (·.1)
 | [],qs,h=>by simp[jY] at h;subst h;exact ⟨.nil,rfl⟩
 |(i,x)::ps,qs,h=>by
  simp only[jY,List.mapM_cons,Option.bind_eq_bind,Option.pure_def,zy5,t7,v6] at h;obtain ⟨_,⟨y,hy,rfl⟩,qs',hq,rfl⟩:=h;obtain ⟨h1,h2⟩:=B1 hs ps qs' hq;exact ⟨.cons (bp hs hy) h1,by simp[h2]⟩
theorem aL.newRow{a:Act}{w:World}{D:aJ}{E:aM}(h:aL c A a w D E)(o:Obj):aL c A a (w.alloc o) (fun b k=>D b k∨b=w.heap.size) E:=by
 refine h.grow (ja w o) (fun _ _ hd=>.inl hd) ?_ ?_
 ·rintro b k (hd | rfl) hlt
  ·exact hd
  ·omega
 ·rintro b k (hd | rfl)
  ·have:=h.cK _ _ hd;simp;omega
  ·simp
theorem YA{α:Type}(ps:List (Nat×α))(h:ps.map (·.1)=List.range ps.length):ps=((ps.map (·.2)).zipIdx 0).map fun x=>(x.2,x.1):=by
 apply List.ext_getElem?;intro k;rw[zz2,List.getElem?_zipIdx,zz2];cases hk:ps[k]? with
 |none=>simp
 |some p =>
  have hl:k<ps.length:=(Z6.1 hk).1;have:=congrArg (·[k]?) h;simp only[zz2,hk,Z9,List.getElem?_range hl,v6] at this;simp[←this]
theorem TW{t e:TypeId}{len:Nat}{parts:Array (Nat×Operand)}{ps:List (Nat×ay)}{es:List I}(ho:o.op=.buildSlice t len parts)(hu:c.P.underlying t=some (.slice e))(hp:jY c.P parts.toList=some ps)
  (hr:ps.map (·.1)=List.range len) (h0:0<c.P.cellsOf e) (hlen:0<len) (hsm:len*c.P.cellsOf e≤16777216) (hz:((c.P.info? e).bind (·.zero)).isSome=true)
  (hes:bE false A ((ps.map (·.2)).map (af A))=some es) (hev:∀ x∈es,x.size=c.P.cellsOf e) (hcl:I.b7 es=true):cG c A o (.slice (c.P.cellsOf e) es):=by
 intro a w D E hs;obtain ⟨hfor,hidx⟩:=B1 hs parts.toList ps hp;obtain ⟨hs1,hw⟩:=hs.na;have hrv:=kW (E':=E) hs (fun _ _ h=>h) hw _ es _ (kC _ _ hfor (pk hes)) hes;obtain ⟨k1,k2,k3⟩:=DH es _ hrv;have k3:=k3 _ hev;have hl:parts.toList.length=len:=by
  have:=congrArg List.length hidx;rw[hr] at this;simpa using this.symm
 have hesl:es.length=len:=by rw[←k2];simp[hl]
 obtain ⟨z,hz⟩:=Y4.1 hz;obtain ⟨ie,hie,hzz⟩:=zy5.1 hz;have hsz:ie.size=c.P.cellsOf e:=by simp[Program.cellsOf,hie]
 -- the literal's cells
 have hfill:Instr.fill (fun i=>some (i*ie.size,ie.size)) ((Array.range (len*ie.size)).map (z.cells[· % z.cells.size]!)) (parts.map fun (q:Nat×Operand)=>(q.1,a.eval q.2)).toList =
   some ((parts.toList.map fun p=>a.eval p.2).flatMap fun v=>v.cells.toList).toArray:=by
  have hpz:(parts.map fun (q:Nat×Operand)=>(q.1,a.eval q.2)).toList=((parts.toList.map fun p=>a.eval p.2).zipIdx 0).map fun x=>(x.2,x.1):=by
   have:=YA (parts.toList.map fun (q:Nat×Operand)=>(q.1,a.eval q.2)) (by simp only[List.map_map,Z2];rw[hl,←hr,hidx];rfl);rw[Array.toList_map,this,List.map_map];rfl
  rw[hpz,hsz];exact Great.fill_whole h0 _ _ (fun v hv=>k3 v hv) (by simp[hl])
 have hrun:=run_buildSlice (P:=c.P) w t e len (parts.map fun (q:Nat×Operand)=>(q.1,a.eval q.2)) _ ie z hu hie hzz (by rw[hsz];omega) (by rw[hsz];exact Nat.ne_of_gt (Nat.mul_pos hlen h0)) hfill;generalize hcells:((parts.toList.map fun p=>a.eval p.2).flatMap fun v=>v.cells.toList)=cells at *;have hs2:=hs1.newRow (.cells cells.toArray e);refine ⟨_,_,_,by simp only[execOp,ho,Sem.run_bind];rw[hrun];rfl,hs2,r9 hesl.symm (Z7 _) ?_ (.inr ⟨w.heap.size,0,cells,rfl,?_,?_⟩) hev⟩
 ·unfold maxLen;have:len≤len*c.P.cellsOf e:=Nat.le_mul_of_pos_right _ h0;omega
 ·intro j v hj;refine ⟨?_,.inr rfl⟩;rw[Z4];have:=World.cell?_alloc_new w cells.toArray e j;rw[this];simpa using hj
 ·refine az.later ?_ es cells k1;exact df.grow (ja w _) (fun _ _ hd=>.inl hd)
end
mutual
theorem nM:∀ (ty:bY) (x y:I) (r:Bool),bT ty x y=some r→x.size=ty.size∧y.size=ty.size
 | .i k,x,y,r,h=>by
  simp only[bT] at h;split at h
  ·simp[I.size,bY.size]
  ·cases h
 | .b,x,y,r,h=>by
  simp only[bT] at h;split at h
  ·simp[I.size,bY.size]
  ·cases h
 | .s,x,y,r,h=>by
  simp only[bT] at h;split at h
  ·simp[I.size,bY.size]
  ·cases h
 | .aV l,x,y,r,h=>by
  simp only[bT] at h;split at h
  ·simp only[I.size,bY.size];exact zJ l _ _ r h
  ·cases h
 | .oT n e,x,y,r,h=>by
  simp only[bT] at h;split at h
  ·rename_i fs gs;split at h
   ·rename_i hl;simp only[I.size,bY.size];have:∀ (fs gs:List I) (r:Bool),fs.length=gs.length→(fs.zip gs).foldr (fun p acc=>ic (bT e p.1 p.2) acc) (some true)=some r→I.sizes fs=fs.length*e.size∧I.sizes gs=fs.length*e.size:=by
     intro fs
     induction fs with
     |nil=>intro gs r hl _;cases gs with | nil=>simp[I.sizes] | cons _ _=>simp at hl
     |cons f fs ih =>
      intro gs r hl h;cases gs with
      |nil=>simp at hl
      |cons g gs =>
       simp only[List.zip_cons_cons,List.foldr_cons] at h;unfold ic at h;split at h
       ·rename_i a b h1 h2;obtain ⟨k1,k2⟩:=ih gs b (by simpa using hl) h2;obtain ⟨k3,k4⟩:=nM e f g a h1;simp only[I.sizes,zy1,k1,k2,k3,k4,Nat.add_mul,Nat.one_mul];omega
       ·cases h
    obtain ⟨k1,k2⟩:=this fs gs r (by omega) h;rw[k1,k2,hl.1];exact ⟨rfl,rfl⟩
   ·cases h
  ·cases h
theorem zJ:∀ (l:List bY) (xs ys:List I) (r:Bool),gh l xs ys=some r→I.sizes xs=bY.sizes l∧I.sizes ys=bY.sizes l
 | [],xs,ys,r,h=>by
  simp only[gh] at h;split at h
  ·simp[I.sizes,bY.sizes]
  ·cases h
 |t::ts,xs,ys,r,h=>by
  simp only[gh] at h;split at h
  ·rename_i f fs g gs;unfold ic at h;split at h
   ·rename_i a b h1 h2;obtain ⟨k1,k2⟩:=nM t f g a h1;obtain ⟨k3,k4⟩:=zJ ts fs gs b h2;simp only[I.sizes,bY.sizes,k1,k2,k3,k4];exact ⟨trivial,trivial⟩
   ·cases h
  ·cases h
end
section
variable {P:Program} {w:World} {D:aJ} {E:aM}
theorem ur{d:Nat}{t:TypeId}{ty:bY}(h:fG P d t=some ty)(hs:ty.size=P.cellsOf t){x y:I}{r:Bool}(hr:bT ty x y=some r):∃ s,eU P t=some s∧bU s x=true∧bU s y=true:=by
 have hsz:=nM ty x y r hr;cases d with
 |zero=>simp[fG] at h
 |succ d =>
  simp only[fG] at h;split at h
  ·rename_i k hu;simp only[v6] at h;subst h;simp only[bT] at hr;split at hr
   ·exact ⟨none,by simp[eU,hu],by simp[bU,I.isAgg],by simp[bU,I.isAgg]⟩
   ·cases hr
  ·rename_i hu;simp only[v6] at h;subst h;simp only[bT] at hr;split at hr
   ·exact ⟨none,by simp[eU,hu],by simp[bU,I.isAgg],by simp[bU,I.isAgg]⟩
   ·cases hr
  ·rename_i hu;simp only[v6] at h;subst h;simp only[bT] at hr;split at hr
   ·exact ⟨none,by simp[eU,hu],by simp[bU,I.isAgg],by simp[bU,I.isAgg]⟩
   ·cases hr
  ·rename_i fs hu;split at h
   ·simp only[t7] at h;obtain ⟨l,_,rfl⟩:=h;simp only[bT] at hr;split at hr
    ·exact ⟨some (P.cellsOf t),by simp[eU,hu],by simp[bU,I.isAgg,hsz.1,hs],by simp[bU,I.isAgg,hsz.2,hs]⟩
    ·cases hr
   ·cases h
  ·rename_i n e hu;split at h
   ·split at h
    ·simp only[v6] at h;subst h;simp only[bT] at hr;split at hr
     ·exact ⟨some (P.cellsOf t),by simp[eU,hu],by simp[bU,I.isAgg,hsz.1,hs],by simp[bU,I.isAgg,hsz.2,hs]⟩
     ·cases hr
    ·cases h
   ·cases h
  ·cases h
theorem zL{k:Nat}{g:Field→Option bY}(hg:∀ (f:Field) (ty:bY),g f=some ty→ty.size=P.cellsOf f.type∧∃ d,fG P d f.type=some ty ∧
   ∀ (x y:I) (u v:Value) (r:Bool),aP w D E x u→aP w D E y v→bT ty x y=some r→(Op.equalIn k f.type u v).run P w=.ok r w) :
  ∀ (fs : List Field) (l : List bY) (xs ys : List I) (r : Bool) (c1 c2 d1 d2 : List Value), fs.mapM g = some l → (∀ f ∈ fs, f.name ≠ "_") → oh P c1.length fs = true → c1.length = d1.length →
   az w D E xs c2→az w D E ys d2→gh l xs ys=some r→(Op.eqFields k (c1++c2).toArray (d1++d2).toArray fs).run P w=.ok r w
 | [],l,xs,ys,r,c1,c2,d1,d2,hm,_,_,_,_,_,h=>by
  simp at hm;subst hm;simp only[gh] at h;split at h
  ·simp only[v6] at h;subst h;simp[Op.eqFields]
  ·cases h
 |f::fs,l,xs,ys,r,c1,c2,d1,d2,hm,hn,ho,hl,hx,hy,h=>by
  simp only[List.mapM_cons,Option.bind_eq_bind,Option.pure_def,zy5,v6] at hm;obtain ⟨ty,hty,tys,htys,rfl⟩:=hm;simp only[gh] at h;split at h
  case h_2=>cases h
  rename_i x xs y ys;unfold ic at h;split at h
  case h_2=>cases h
  rename_i ra rb h1 h2;simp only[v6] at h;subst h;simp only[az] at hx hy;obtain ⟨e1,e2,rfl,k1,k2⟩:=hx;obtain ⟨f1,f2,rfl,k3,k4⟩:=hy;obtain ⟨hsz,dd,hd,heq⟩:=hg f ty hty;obtain ⟨s,q1,q2,q3⟩:=ur hd hsz h1;obtain ⟨u,p1,p2⟩:=mX (c1:=c1) (c3:=e2) q1 q2 k1;obtain ⟨v,p3,p4⟩:=mX (c1:=d1) (c3:=f2) q1 q3 k3;simp only[oh,Z0,beq_iff_eq] at ho;have hsx:=nM ty x y ra h1;have hle:e1.length=P.cellsOf f.type:=by rw[ae.length _ _ k1,hsx.1,hsz]
  have hlf:f1.length=P.cellsOf f.type:=by rw[ae.length _ _ k3,hsx.2,hsz]
  have ih:=zL hg fs tys xs ys rb (c1++e1) e2 (d1++f1) f2 htys (fun g hg=>hn g (by simp[hg])) (by simp only[Z1,hle];exact ho.2) (by simp[hl,hle,hlf]) k2 k4 h2;rw[Z8] at p1 p3;rw[Z8,Z8] at ih;rw[←ho.1] at p1;rw[←hl,←ho.1] at p3;simp only[Op.eqFields,hn f (by simp),ne_eq,not_false_eq_true,if_true,Sem.run_bind,p1,Result.andThen_ok,p3,heq x y u v ra p2 p4 h1];cases ra
  ·simp
  ·simpa using ih
theorem zM{d:Nat}{e:TypeId}{ty:bY}{dd:Nat}(hty:fG P dd e=some ty)(hsz:ty.size=P.cellsOf e)
  (heq:∀ (x y:I) (u v:Value) (r:Bool),aP w D E x u→aP w D E y v→bT ty x y=some r→(Op.equalIn d e u v).run P w=.ok r w) :
  ∀ (m k:Nat) (xs ys:List I) (c1 c2 d1 d2:List Value) (r:Bool),xs.length=m→ys.length=m→c1.length=k*P.cellsOf e→d1.length=k*P.cellsOf e→az w D E xs c2→az w D E ys d2 →
   (xs.zip ys).foldr (fun p acc=>ic (bT ty p.1 p.2) acc) (some true)=some r→(Op.eqItems d e (P.cellsOf e) (c1++c2).toArray (d1++d2).toArray (List.range' k m)).run P w=.ok r w
 |0,k,xs,ys,c1,c2,d1,d2,r,hx,hy,_,_,_,_,h=>by
  have e1:=zy3 hx;subst e1;simp only[List.zip_nil_left,List.foldr_nil,v6] at h;subst h;simp[Op.eqItems]
 |m+1,k,xs,ys,c1,c2,d1,d2,r,hx,hy,hc,hd,hrx,hry,h=>by
  cases xs with
  |nil=>simp at hx
  |cons x xs =>
  cases ys with
  |nil=>simp at hy
  |cons y ys =>
  simp only[List.zip_cons_cons,List.foldr_cons] at h;unfold ic at h;split at h
  case h_2=>cases h
  rename_i ra rb h1 h2;simp only[v6] at h;subst h;simp only[az] at hrx hry;obtain ⟨e1,e2,rfl,k1,k2⟩:=hrx;obtain ⟨f1,f2,rfl,k3,k4⟩:=hry;obtain ⟨s,q1,q2,q3⟩:=ur hty hsz h1;obtain ⟨u,p1,p2⟩:=mX (c1:=c1) (c3:=e2) q1 q2 k1;obtain ⟨v,p3,p4⟩:=mX (c1:=d1) (c3:=f2) q1 q3 k3;have hsx:=nM ty x y ra h1;have hle:e1.length=P.cellsOf e:=by rw[ae.length _ _ k1,hsx.1,hsz]
  have hlf:f1.length=P.cellsOf e:=by rw[ae.length _ _ k3,hsx.2,hsz]
  have ih:=zM hty hsz heq m (k+1) xs ys (c1++e1) e2 (d1++f1) f2 rb (by simpa using hx) (by simpa using hy) (by simp only[Z1,hle,hc,Nat.add_mul,Nat.one_mul]) (by simp only[Z1,hlf,hd,Nat.add_mul,Nat.one_mul]) k2 k4 h2;rw[Z8] at p1 p3;rw[Z8,Z8] at ih;rw[hc] at p1;rw[hd] at p3;simp only[List.range'_succ,Op.eqItems,Sem.run_bind,p1,Result.andThen_ok,p3,heq x y u v ra p2 p4 h1];cases ra
  ·simp
  ·simpa using ih
theorem ri:∀ (d:Nat) (t:TypeId) (ty:bY),fG P d t=some ty→∀ (x y:I) (u v:Value) (r:Bool),aP w D E x u→aP w D E y v→bT ty x y=some r→∀ dep,d≤dep→(Op.equalIn dep t u v).run P w=.ok r w
 |0,t,ty,h,_,_,_,_,_,_,_,_,_,_=>by simp[fG] at h
 |d+1,t,ty,h,x,y,u,v,r,hx,hy,hr,dep,hdep=>by
  obtain ⟨k,rfl⟩:∃ k,dep=k+1:=⟨dep-1,by omega⟩
  simp only[fG] at h;split at h
  ·rename_i kk hu;simp only[v6] at h;subst h;simp only[bT] at hr;split at hr
   ·split at hr
    ·simp only[v6] at hr;subst hr;rw[(dc hx).1,(dc hy).1];rename_i hk;rw[hk.1,hk.2];exact run_equalIn_int w k t kk kk _ _ hu
    ·cases hr
   ·cases hr
  ·rename_i hu;simp only[v6] at h;subst h;simp only[bT] at hr;split at hr
   ·simp only[v6] at hr;subst hr;rw[kv hx,kv hy];exact run_equalIn_bool' w k t _ _ hu
   ·cases hr
  ·rename_i hu;simp only[v6] at h;subst h;simp only[bT] at hr;split at hr
   ·simp only[v6] at hr;subst hr;rw[(fM hx).1,(fM hy).1];exact run_equalIn_string w k t _ _ hu
   ·cases hr
  ·rename_i fs hu;split at h
   ·rename_i hc;simp only[t7] at h;obtain ⟨l,hl,rfl⟩:=h;simp only[bT] at hr;split at hr
    ·obtain ⟨cs,rfl,h1⟩:=iy hx;obtain ⟨ds,rfl,h2⟩:=iy hy;have hf:P.fieldsOf t=fs:=by simp[Program.fieldsOf,hu]
     rw[run_equalIn_struct w k t _ _ (by rw[hf];exact hu) hc.1,hf];refine zL (g:=fun f=>match fG P d f.type with | some ty=>if ty.size=P.cellsOf f.type then some ty else none | none=>none) (fun f ty hg =>?_) fs.toList l _ _ r [] cs [] ds hl (fun f hf =>?_) hc.2.2 rfl h1 h2 hr
     ·split at hg
      ·rename_i ty' hty;split at hg
       ·rename_i hs;simp only[v6] at hg;subst hg;exact ⟨hs,d,hty,fun x y u v r hx hy hr=>ri d f.type _ hty x y u v r hx hy hr k (by omega)⟩
       ·cases hg
      ·cases hg
     ·have:=zz6.1 hc.2.1 f hf;simpa using this
    ·cases hr
   ·cases h
  ·rename_i n e hu;split at h
   ·rename_i ty' hty;split at h
    ·rename_i hc;simp only[v6] at h;subst h;simp only[bT] at hr;split at hr
     ·split at hr
      ·rename_i hl;obtain ⟨cs,rfl,h1⟩:=iy hx;obtain ⟨ds,rfl,h2⟩:=iy hy;obtain ⟨i,hi⟩:=Y4.1 hc.2;rw[run_equalIn_array w k _ _ hu hi,List.range_eq_range'];exact zM hty hc.1 (fun x y u v r hx hy hr=>ri d e _ hty x y u v r hx hy hr k (by omega)) n 0 _ _ [] cs [] ds r hl.1 hl.2 (by simp) (by simp) h1 h2 hr
      ·cases hr
     ·cases hr
    ·cases h
   ·cases h
  ·cases h
end
section
variable {c:b9} {A:ab} {o:Oper} {x:I}
theorem XN{P:Program}{w:World}{D:aJ}{E:aM}(op:BinOp)(t:TypeId)(x y:Operand){a b:I}{ty:bY}{r:Bool}{u v:Value}(hr:bT ty a b=some r)(hx:aP w D E a u)(hm:P.eqGuardType P.depth t=false) :
  (eqGuard op t x y u v).run P w=.ok () w:=by
 have:u.oneCell'=true∧u≠.nilIface∨∃ cs,u=.agg cs:=by
  cases ty <;>simp only[bT] at hr <;>split at hr <;>first
   |(cases hr;done)
   |(left;rw[(dc hx).1];exact ⟨rfl,by simp⟩)
   |(left;rw[kv hx];exact ⟨rfl,by simp⟩)
   |(left;rw[(fM hx).1];exact ⟨rfl,by simp⟩)
   |(right;obtain ⟨cs,h,_⟩:=iy hx;exact ⟨_,h⟩)
 rcases this with ⟨h1,h2⟩ | ⟨cs,rfl⟩
 ·exact vY op t x y h1 h2
 ·cases op <;>cases v <;>simp[eqGuard,run_program,hm]
theorem Gq{P:Program}{w:World}{D:aJ}{E:aM}{neg:Bool}{t:TypeId}{a b:I}{ty:bY}{r:Bool}{u v:Value}(hr:bT ty a b=some r)(hx:aP w D E a u)(hy:aP w D E b v){dt:Nat}(hdt:dt≤10000)(hty:fG P dt t=some ty) :
  (binOp (if neg then .neq else .eql) t u v).run P w=.ok (.bool (if neg then !r else r)) w:=by
 have he:=ri (w:=w) (D:=D) (E:=E) dt t ty hty a b u v r hx hy hr 10000 hdt;cases ty <;>simp only[bT] at hr <;>split at hr <;>first | (cases hr;done) | skip
 ·rw[(dc hx).1,(dc hy).1] at *;split at hr
  ·rename_i hk;simp only[v6] at hr;subst hr;rw[hk.1,hk.2];cases neg <;>simp[binOp,Op.intCmp,bne]
  ·cases hr
 ·have e1:=kv hx;have e2:=kv hy;subst e1 e2;cases neg <;>simp only[binOp,if_true,Z5,if_false] <;>simp[Op.equal,Op.maxDepth,he]
 ·rw[(fM hx).1,(fM hy).1] at *;simp only[v6] at hr;subst hr;cases neg <;>simp[binOp,Op.stringOp]
 ·obtain ⟨cs,rfl,_⟩:=iy hx;obtain ⟨ds,rfl,_⟩:=iy hy;cases neg <;>simp only[if_true,Z5,if_false]
  ·rw[run_eql_struct,he];rfl
  ·rw[run_neq_struct,he];rfl
 ·obtain ⟨cs,rfl,_⟩:=iy hx;obtain ⟨ds,rfl,_⟩:=iy hy;cases neg <;>simp only[if_true,Z5,if_false]
  ·rw[run_eql_struct,he];rfl
  ·rw[run_neq_struct,he];rfl
theorem T6{neg:Bool}{t yt:TypeId}{y z:Operand}{y' z':ay}{ty:bY}{r:Bool}(ho:o.op=.binOp (if neg then .neq else .eql) t y z yt)(hy:aT c.P 0 y=some y')(hz:aT c.P 0 z=some z')(hg:c.P.eqGuardType c.P.depth t=false)
  (hty:fG c.P 12 t=some ty) (h:bT ty (af A y') (af A z')=some r):cG c A o (.bool (if neg then !r else r)) :=
 .same fun a w D E hs=>by
  have h1:=bp hs hy;have h2:=bp hs hz;refine ⟨_,?_,kd _⟩;simp only[execOp,ho,Sem.run_bind,XN _ t y z h h1 hg,Result.andThen_ok,Gq h h1 h2 (dt:=12) (by omega) hty];rfl
theorem uZ{neg:Bool}{t yt e:TypeId}{y z:Operand}{y':ay}{sz:Nat}{r:Bool}(ho:o.op=.binOp (if neg then .neq else .eql) t y z yt)(hu:c.P.underlying t=some (.slice e))(hy:aT c.P 0 y=some y')(hz:aT c.P 0 z=some (.c (.nils sz)))
  (h:(∃ s,af A y'=.nils s∧r=true)∨(∃ s es,af A y'=.slice s es∧es≠[]∧r=false)∨(∃ n p s lo k,af A y'=.view n p s lo k∧r=false)):cG c A o (.bool (if neg then !r else r)) :=
 .same fun a w D E hs=>by
  have h1:=bp hs hy;have h2:aP w D E (.nils sz) (a.eval z):=bp hs hz;have hv:a.eval z=.slice none 0 0:=by
   obtain ⟨cs,q1,q2⟩:=h2;simp only[ae] at q2;simpa[aY,I.isAgg,q2] using q1.symm
  have hu':(∃ ad n cp,a.eval y=.slice ad n cp∧r=ad.isNone):=by
   rcases h with ⟨s,h,rfl⟩ | ⟨s,es,h,hne,rfl⟩ | ⟨n,p,s,lo,k,h,rfl⟩
   ·rw[h] at h1;obtain ⟨cs,q1,q2⟩:=h1;simp only[ae] at q2;exact ⟨none,0,0,by simpa[aY,I.isAgg,q2] using q1.symm,rfl⟩
   ·rw[h] at h1;obtain ⟨ad,cap,e1,_,_,e4,_⟩:=kz h1;rcases e4 with e4 | ⟨b,off,cs,rfl,_,_⟩
    ·exact absurd e4 hne
    ·exact ⟨_,_,_,e1,rfl⟩
   ·rw[h] at h1;obtain ⟨cs,q1,q2⟩:=h1;simp only[ae] at q2;obtain ⟨b,aK,off,l,_,_,_,q2,_⟩:=q2;exact ⟨_,_,_,by simpa[aY,I.isAgg,q2] using q1.symm,rfl⟩
  obtain ⟨ad,n,cp,hyv,rfl⟩:=hu';have he:∀ d,(Op.equalIn (d+1) t (.slice ad n cp) (.slice none 0 0)).run c.P w=.ok ad.isNone w:=fun d=>by
   cases ad <;>simp[Op.equalIn,run_underlying hu]
  refine ⟨.bool (if neg then !ad.isNone else ad.isNone),?_,kd _⟩;cases neg <;>simp only[execOp,ho,hyv,hv,if_true,Z5,if_false,Sem.run_bind,eqGuard] <;>simp[binOp,Op.equal,Op.maxDepth,he]
end
def ga(c:b9)(A:ab)(o:Oper)(B:ab):Prop :=
 ∀ a w D E,aL c A a w D E→∃ w',((∃ v,(execOp a.eval o).run c.P w=.ok (.value v) w'∧bz c B (a.put o.dst v) w')∨((execOp a.eval o).run c.P w=.ok .skip w'∧bz c B (a.put o.dst undef) w'))
section
variable {c:b9} {A:ab} {o:Oper} {x:I}
theorem cG.does(h:cG c A o x)(hd:∀ k,o.dst=some k→k<c.n):ga c A o (A.aN o.dst x):=by
 intro a w D E hs;obtain ⟨v,w',D',h1,h2,h3⟩:=h a w D E hs;exact ⟨w',.inl ⟨v,h1,D',E,h2.aN hd h3⟩⟩
theorem Lg{t:TypeId}{z:I}{d:Nat}(ho:o.op=.alloc t)(hz:fe c.P t=some z)(hd:o.dst=some d)(hn:d<c.n)(hf:A.o d=none):ga c A o ((A.aQ d (.box z)).put d (.ptr d [])):=by
 intro a w D E hs;obtain ⟨i,zv,hi,hzv,hzr⟩:=kG hz;have h1:=hs.pO (T:=t) (.inl hn) hf (hzr w D E);have h2:=h1.put (x:=.ptr d []) (v:=.pointer (some ⟨w.heap.size,0,none⟩)) hn ⟨_,by simp[aY,I.isAgg];rfl,by
  simp only[ae,if_true];exact ⟨w.heap.size,z.aK,0,rfl,by cases z.aK <;>simp[bM.off],rfl⟩⟩
 exact ⟨w.alloc (.cells zv.cells t),.inl ⟨.pointer (some ⟨w.heap.size,0,none⟩),by simp[execOp,ho,Instr.alloc,zeroValue,typeInfo,hi,hzv,newVar,newRow],D,_,by rw[hd];exact h2⟩⟩
theorem Ll{t:TypeId}{y:Operand}{y':ay}{d:Nat}(ho:o.op=.box t y)(hy:aT c.P t y=some y')(hv:(af A y').cC=true)(hd:o.dst=some d)(hn:d<c.n)(hf:A.o d=none) :
  ga c A o ((A.aQ d (.box (af A y'))).put d (.ptr d [])):=by
 intro a w D E hs;obtain ⟨cs,k1,k2⟩:∃ cs,aY (af A y') (a.eval y) cs∧ae w D E (af A y') cs:=by
  have h:=bp hs hy;generalize af A y'=z at *;cases z <;>simp[I.cC] at hv <;>exact h
 have hc:=k1.cells k2;rw[←hc] at k2;have h1:=hs.pO (T:=t) (.inl hn) hf k2;have h2:=h1.put (x:=.ptr d []) (v:=.pointer (some ⟨w.heap.size,0,none⟩)) hn ⟨_,by simp[aY,I.isAgg];rfl,by
  simp only[ae,if_true];exact ⟨w.heap.size,(af A y').aK,0,rfl,by cases (af A y').aK <;>simp[bM.off],rfl⟩⟩
 exact ⟨w.alloc (.cells (a.eval y).cells t),.inl ⟨.pointer (some ⟨w.heap.size,0,none⟩),by simp[execOp,ho,Instr.box,newVar,newRow],D,_,by rw[hd];exact h2⟩⟩
theorem Lt{t:TypeId}{y z:Operand}{y' z':ay}{s:Option Nat}{n:Nat}{p:List Nat}{b old:I}(ho:o.op=.store t y z)(hk:eU c.P t=some s)(hk1:s.isSome=true∨c.P.cellsOf t=1)(hy:aT c.P 0 y=some y')(hz:aT c.P t z=some z')
  (hp:af A y'=.ptr n p) (hb:A.o n=some (.box b)) (hat:b.at p=some old) (hv:(af A z').cC=true) (hok:bU s (af A z')=true) (hsh:(af A z').aK=old.aK) (hd:o.dst=none) :
  ga c A o (A.aQ n (.box (b.dp p (af A z')))):=by
 intro a w D E hs;have h1:=bp hs hy;rw[hp] at h1;obtain ⟨bb,aK,off,h2,h3,h4⟩:=ky h1;obtain ⟨b',cs,T,k1,k2,k3,k4,k5⟩:=hs.box hb;rw[k1] at h2;simp only[v6,bu.aB.injEq] at h2;obtain ⟨rfl,rfl⟩:=h2;obtain ⟨ds,q1,q2⟩:∃ ds,aY (af A z') (a.eval z) ds∧ae w D E (af A z') ds:=by
  have h:=bp hs hz;generalize af A z'=zz at *;cases zz <;>simp[I.cC] at hv <;>exact h
 have hc:=q1.cells q2;obtain ⟨off',p1,p2,p3,p4⟩:=sK p b old _ _ ds k4 hat q2 hsh;rw[h3,v6] at p1;subst p1;have hl:=ae.length _ _ q2;obtain ⟨i,hi⟩:=rU hk;have hsz:ds.length=c.P.cellsOf t:=by
  cases s with
  |none =>
   simp only[bU,Bool.not_eq_true'] at hok;have:(af A z').size=1:=by generalize af A z'=zz at *;cases zz <;>simp_all[I.isAgg,I.size]
   rw[hl,this];rcases hk1 with h | h
   ·cases h
   ·exact h.symm
  |some m =>
   simp only[bU,Z0,beq_iff_eq] at hok;rw[hl,hok.2,vf hk]
 have hcs:(a.eval z).cells.size=ds.length:=by rw[←hc,zz5]
 have hrun:=sW c.P b' off T ds 0 cs w k3 (by rw[zz5] at p2;omega) (ae.kh _ _ q2);simp only[Nat.add_zero] at hrun;have hs2:=hs.wj (y:=b.dp p (af A z')) (cs':=(cs.toList.take off++ds++cs.toList.drop (off+ds.length)).toArray) hb k1 p4 (by simpa using p3);refine ⟨w.setRow b' (cs.toList.take off++ds++cs.toList.drop (off+ds.length)).toArray,.inr ⟨?_,D,E,?_⟩⟩
 ·have e:(a.eval z).cells.toList=ds:=hc;have hg:¬ (a.eval z).cells.size≠c.P.cellsOf t:=by rw[hcs,hsz];simp
  simp only[execOp,ho,h4,Instr.storeAt,Instr.sureAddr,storeVar,Sem.run_bind,Sem.run_pure,Result.andThen_ok,gq hi,Sem.run_ite,if_neg hg,e,hrun]
 ·rw[hd];exact hs2
end
section
variable {c:b9} {A:ab} {a:Act} {w:World} {D:aJ} {E:aM}
theorem aL.Ag(h:aL c A a w D E){n:Nat}{T:TypeId}{sz cap:Nat}{es ys:List I}{pre news rest:List Value}{cs:Array Value}{aA:Option (Nat×Nat)}(hn:A.o n=some (.bJ T sz es))(aq:E n=some (.rw aA es.length))(hes:az w D E es pre)
  (hys:az w D E ys news) (hysz:∀ e∈ys,e.size=sz) (hne:ys≠[]) (hcs:cs.toList=(pre++news)++rest) (hsize:cs.size=cap*sz) (hlen:es.length+ys.length≤cap) (hcap:cap≤maxLen) :
  aL c (A.aQ n (.bJ T sz (es++ys))) a (w.drew.alloc (.cells cs T)) D (fun m=>if m=n then some (.rw (some (w.heap.size,cap)) (es.length+ys.length)) else E m):=by
 have hlast:0<ys.length:=List.length_pos_iff.2 hne;have hheap:∀ b,b<w.heap.size→(w.drew.alloc (.cells cs T)).heap[b]?=w.heap[b]?:=fun b hb=>Below.heap_alloc w.drew _ b hb;have hl:df w D E (w.drew.alloc (.cells cs T)) D (fun m=>if m=n then some (.rw (some (w.heap.size,cap)) (es.length+ys.length)) else E m):=by
  have eV:∀ {m:Nat} {e:bu},E m=some e→e.ed=true→(if m=n then some (.rw (some (w.heap.size,cap)) (es.length+ys.length)) else E m)=some e:=fun {m e} he hfx=>by
   have:m≠n:=fun e=>by rw[e,aq] at he;cases he;cases hfx
   rw[if_neg this];exact he
  refine ⟨fun _ _ h=>h,fun b o v _ hv =>?_,fun m b aK he=>eV he rfl,fun m blk' l he =>?_,fun m b he=>eV he rfl,fun m b he=>eV he rfl,fun b es ck _ hm=>(hheap b (eI hm)).trans hm⟩
  ·rw[World.cell?_of_block (hheap b (World.block_lt_of_cell? w _ hv))];exact hv
  ·by_cases hm:m=n
   ·subst hm;rw[aq] at he;simp only[v6,bu.rw.injEq] at he;exact ⟨_,_,if_pos rfl,by omega,fun e=>by omega⟩
   ·exact ⟨blk',l,by simp only[if_neg hm];exact he,Z7 _,fun _=>rfl⟩
 have hown:=h.bx n;rw[hn] at hown;obtain ⟨blk1,hb1,hb2,_⟩:=hown;refine ⟨h.sz,h.ec.mono fun B _ hB=>(hheap B (Y2.1 hB).1).trans hB,fun t=>aP.later hl (h.dB t),h.de.trans ⟨rfl,rfl,rfl,by simp,fun k hk=>hheap k (h.old hk)⟩,h.cI,fun b o hd'=>by have:=h.cK b o hd';simp;omega,fun m =>?_,?_,fun m e hm =>?_,h.eJ,h.cw,h.eQ,h.jT hl⟩
 ·simp only[ab.aQ];by_cases hm:m=n
  ·subst hm;simp only[if_true,cS];refine ⟨some (w.heap.size,cap),by simp,fun e he =>?_,?_⟩
   ·rcases zz7.1 he with he | he
    ·exact hb2 e he
    ·exact hysz e he
   ·refine ⟨cs,pre++news,rest,.inl h.de.size,heap_alloc_new w.drew _,hcs,?_,hsize,by simpa using hlen,hcap,fun o ho=>absurd (h.cK _ o ho) (Nat.lt_irrefl _)⟩;exact az.later hl _ _ (iP _ _ _ _ hes hys)
  ·simp only[if_neg hm];exact (h.bx m).later hl (by simp only[if_neg hm]) fun e b he hb=>⟨hheap b (h.eX he hb),fun _ ho=>ho⟩
 ·intro m m' e e' b h1 h2 h3 h4;by_cases hm:m=n <;>by_cases hm':m'=n
  ·rw[hm,hm']
  ·simp only[if_pos hm,v6] at h1;simp only[if_neg hm'] at h2;subst h1;simp only[bu.aA,v6] at h3;have:=h.eX h2 h4;omega
  ·simp only[if_neg hm] at h1;simp only[if_pos hm',v6] at h2;subst h2;simp only[bu.aA,v6] at h4;have:=h.eX h1 h3;omega
  ·simp only[if_neg hm] at h1;simp only[if_neg hm'] at h2;exact h.cu m m' e e' b h1 h2 h3 h4
 ·by_cases hmn:m=n
  ·subst hmn;rcases h.dx _ _ hm with k | ⟨e',k,hle⟩
   ·rw[aq] at k;cases k
   ·rw[aq] at k;cases k;exact .inr ⟨_,if_pos rfl,hle.trans (.inr ⟨_,_,_,_,rfl,rfl,by omega,fun e=>by omega⟩)⟩
  ·simp only[if_neg hmn];exact h.dx _ _ hm
theorem aL.WA(h:aL c A a w D E){n:Nat}{T:TypeId}{sz b cap:Nat}{es ys:List I}{pre news rest:List Value}{cs:Array Value}(hn:A.o n=some (.bJ T sz es))(aq:E n=some (.rw (some (b,cap)) es.length))(hb:w.heap[b]?=some (.cells cs T (0,0)))
  (hcs:cs.toList=pre++rest) (hes:az w D E es pre) (hys:az w D E ys news) (hysz:∀ e∈ys,e.size=sz) (hne:ys≠[]) (hsize:cs.size=cap*sz) (hlen:es.length+ys.length≤cap) (hcap:cap≤maxLen) (hD:∀ o,D b o→o<pre.length) (hbase:c.eb b) :
  aL c (A.aQ n (.bJ T sz (es++ys))) a (w.setRow b (pre++news++rest.drop news.length).toArray) D (fun m=>if m=n then some (.rw (some (b,cap)) (es.length+ys.length)) else E m):=by
 have hlast:0<ys.length:=List.length_pos_iff.2 hne;have hown:=h.bx n;rw[hn] at hown;obtain ⟨blk1,hb1,hb2,_⟩:=hown;have hnl:news.length=ys.length*sz:=by rw[az.length _ _ hys,I.fZ _ hysz]
 have hpl:pre.length=es.length*sz:=by rw[az.length _ _ hes,I.fZ _ hb2]
 have hl:df w D E (w.setRow b (pre++news++rest.drop news.length).toArray) D (fun m=>if m=n then some (.rw (some (b,cap)) (es.length+ys.length)) else E m):=by
  have eV:∀ {m:Nat} {e:bu},E m=some e→e.ed=true→(if m=n then some (.rw (some (b,cap)) (es.length+ys.length)) else E m)=some e:=fun {m e} he hfx=>by
   have:m≠n:=fun e=>by rw[e,aq] at he;cases he;cases hfx
   rw[if_neg this];exact he
  refine ⟨fun _ _ h=>h,fun b1 o v hd hv =>?_,fun m b aK he=>eV he rfl,fun m blk' l he =>?_,fun m b he=>eV he rfl,fun m b he=>eV he rfl,fun b1 es ck _ hm=>(setRow_other w b b1 _ (fun e=>by rw[e,hb] at hm;cases hm)).trans hm⟩
  ·by_cases hbb:b1=b
   ·subst hbb;have ho:=hD o hd;have h1:=setRow_heap w b1 cs (pre++news++rest.drop news.length).toArray T _ hb;rw[cell_of_row _ b1 o _ T (0,0) h1];rw[cell_of_row _ b1 o _ T (0,0) hb] at hv;have e1:cs[o]?=pre[o]?:=by rw[←zz1,hcs,Y5 ho]
    rw[←hv,e1];simp only[List.getElem?_toArray,Z8];rw[Y5 ho]
   ·rw[ud _ _ _ _ hbb];exact hv
  ·by_cases hm:m=n
   ·subst hm;rw[aq] at he;simp only[v6,bu.rw.injEq] at he;exact ⟨_,_,if_pos rfl,by omega,fun e=>by omega⟩
   ·exact ⟨blk',l,by simp only[if_neg hm];exact he,Z7 _,fun _=>rfl⟩
 refine ⟨h.sz,h.ec.mono fun B _ hB=>(setRow_other w b B _ (fun e=>by rw[e,hb] at hB;cases hB)).trans hB,fun t=>aP.later hl (h.dB t),vc h.de hbase _,h.cI,fun b1 o hd=>by have:=h.cK b1 o hd;simpa[World.setRow] using this,fun m =>?_,?_,fun m e hm =>?_,h.eJ,h.cw,h.eQ,h.jT hl⟩
 ·simp only[ab.aQ];by_cases hm:m=n
  ·subst hm;simp only[if_true,cS];refine ⟨some (b,cap),by simp,fun e he =>?_,?_⟩
   ·rcases zz7.1 he with he | he
    ·exact hb2 e he
    ·exact hysz e he
   ·refine ⟨_,pre++news,rest.drop news.length,hbase,setRow_heap w b cs _ T _ hb,by simp,az.later hl _ _ (iP _ _ _ _ hes hys),?_,by simpa using hlen,hcap,fun o ho =>?_⟩
    ·have e1:cs.size=pre.length+rest.length:=by rw[←zz5,hcs,Z1]
     have e2:news.length+pre.length≤cs.size:=by
      rw[hsize,hnl,hpl,←Nat.add_mul];exact Nat.mul_le_mul_right _ (by omega)
     simp only[List.size_toArray,Z1,List.length_drop];omega
    ·have:=hD o ho;rw[Z1];omega
  ·simp only[if_neg hm];refine (h.bx m).later hl (by simp only[if_neg hm]) fun e b1 he hb'=>⟨setRow_other w b b1 _ (fun e1=>hm (h.cu m n e _ b he aq (by rw[hb',e1]) rfl)),fun _ ho=>ho⟩
 ·intro m m' e e' b' h1 h2 h3 h4;by_cases hm:m=n <;>by_cases hm':m'=n
  ·rw[hm,hm']
  ·simp only[if_pos hm,v6] at h1;simp only[if_neg hm'] at h2;subst h1;exact absurd (h.cu m' n e' _ b' h2 aq h4 h3) hm'
  ·simp only[if_neg hm] at h1;simp only[if_pos hm',v6] at h2;subst h2;exact absurd (h.cu m n e _ b' h1 aq h3 h4) hm
  ·simp only[if_neg hm] at h1;simp only[if_neg hm'] at h2;exact h.cu m m' e e' b' h1 h2 h3 h4
 ·by_cases hmn:m=n
  ·subst hmn;rcases h.dx _ _ hm with k | ⟨e',k,hle⟩
   ·rw[aq] at k;cases k
   ·rw[aq] at k;cases k;exact .inr ⟨_,if_pos rfl,hle.trans (.inr ⟨_,_,_,_,rfl,rfl,by omega,fun e=>by omega⟩)⟩
  ·simp only[if_neg hmn];exact h.dx _ _ hm
theorem EK(n:Nat):(Builtin.zeroCells #[Value.int .i64 0] n).toList=(List.replicate n (0:Int)).map (Value.int .i64):=by
 simp only[Builtin.zeroCells,List.size_toArray,List.length_singleton,Nat.mul_one,Nat.mod_one,List.map_replicate];apply List.ext_getElem?;intro k;simp[List.getElem?_replicate];by_cases h:k<n
 ·rw[if_pos h,List.getElem?_range h];rfl
 ·rw[if_neg h,List.getElem?_eq_none (by simpa using h)];rfl
theorem Di{w:World}{D:aJ}{E:aM} : ∀ {xs:List Int} {cs:List Value},az w D E (xs.map (I.int .i64)) cs→cs=xs.map (Value.int .i64)∧∀ x∈xs,IntKind.i64.min≤x∧x≤IntKind.i64.max
 | [],cs,h=>by
  simp only[zz0,az] at h;subst h;exact ⟨rfl,by simp⟩
 |x::xs,cs,h=>by
  simp only[Z3,az] at h;obtain ⟨c1,c2,rfl,h1,h2⟩:=h;obtain ⟨rfl,h3⟩:=Di h2;have h1':c1=[.int .i64 x]∧IntKind.i64.min≤x∧x≤IntKind.i64.max:=h1;obtain ⟨rfl,h4⟩:=h1';refine ⟨rfl,fun y hy =>?_⟩;rcases zy0.1 hy with rfl | hy
  ·exact h4
  ·exact h3 y hy
theorem aL.Ah(h:aL c A a w D E){n:Nat}{T:TypeId}{cap m':Nat}{es ys:List Int}{cs:Array Value}{aA:Option (Nat×Nat)}(hn:A.o n=some (.dJ T es))(aq:E n=some (.rw aA es.length))(hr:∀ x∈es++ys,IntKind.i64.min≤x∧x≤IntKind.i64.max)
  (hne:ys≠[]) (hcs:cs.toList=(es++ys++List.replicate m' 0).map (Value.int .i64)) (hlen:es.length+ys.length+m'=cap) (hcap:cap≤maxLen) :
  aL c (A.aQ n (.dJ T (es++ys))) a (w.drew.alloc (.cells cs T)) D (fun m=>if m=n then some (.rw (some (w.heap.size,cap)) (es.length+ys.length)) else E m):=by
 have hlast:0<ys.length:=List.length_pos_iff.2 hne;have hheap:∀ b,b<w.heap.size→(w.drew.alloc (.cells cs T)).heap[b]?=w.heap[b]?:=fun b hb=>Below.heap_alloc w.drew _ b hb;have hl:df w D E (w.drew.alloc (.cells cs T)) D (fun m=>if m=n then some (.rw (some (w.heap.size,cap)) (es.length+ys.length)) else E m):=by
  have eV:∀ {m:Nat} {e:bu},E m=some e→e.ed=true→(if m=n then some (.rw (some (w.heap.size,cap)) (es.length+ys.length)) else E m)=some e:=fun {m e} he hfx=>by
   have:m≠n:=fun e=>by rw[e,aq] at he;cases he;cases hfx
   rw[if_neg this];exact he
  refine ⟨fun _ _ h=>h,fun b o v _ hv =>?_,fun m b aK he=>eV he rfl,fun m blk' l he =>?_,fun m b he=>eV he rfl,fun m b he=>eV he rfl,fun b es ck _ hm=>(hheap b (eI hm)).trans hm⟩
  ·rw[World.cell?_of_block (hheap b (World.block_lt_of_cell? w _ hv))];exact hv
  ·by_cases hm:m=n
   ·subst hm;rw[aq] at he;simp only[v6,bu.rw.injEq] at he;exact ⟨_,_,if_pos rfl,by omega,fun e=>by omega⟩
   ·exact ⟨blk',l,by simp only[if_neg hm];exact he,Z7 _,fun _=>rfl⟩
 refine ⟨h.sz,h.ec.mono fun B _ hB=>(hheap B (Y2.1 hB).1).trans hB,fun t=>aP.later hl (h.dB t),h.de.trans ⟨rfl,rfl,rfl,by simp,fun k hk=>hheap k (h.old hk)⟩,h.cI,fun b o hd'=>by have:=h.cK b o hd';simp;omega,fun m =>?_,?_,fun m e hm =>?_,h.eJ,h.cw,h.eQ,h.jT hl⟩
 ·simp only[ab.aQ];by_cases hm:m=n
  ·subst hm;simp only[if_true,cS];exact ⟨some (w.heap.size,cap),by simp,hr,cs,m',.inl h.de.size,heap_alloc_new w.drew _,hcs,by simp[hne],by simp only[Z1];exact hlen,hcap,fun o ho=>absurd (h.cK _ o ho) (Nat.lt_irrefl _)⟩
  ·simp only[if_neg hm];exact (h.bx m).later hl (by simp only[if_neg hm]) fun e b he hb=>⟨hheap b (h.eX he hb),fun _ ho=>ho⟩
 ·intro m m' e e' b h1 h2 h3 h4;by_cases hm:m=n <;>by_cases hm':m'=n
  ·rw[hm,hm']
  ·simp only[if_pos hm,v6] at h1;simp only[if_neg hm'] at h2;subst h1;simp only[bu.aA,v6] at h3;have:=h.eX h2 h4;omega
  ·simp only[if_neg hm] at h1;simp only[if_pos hm',v6] at h2;subst h2;simp only[bu.aA,v6] at h4;have:=h.eX h1 h3;omega
  ·simp only[if_neg hm] at h1;simp only[if_neg hm'] at h2;exact h.cu m m' e e' b h1 h2 h3 h4
 ·by_cases hmn:m=n
  ·subst hmn;rcases h.dx _ _ hm with k | ⟨e',k,hle⟩
   ·rw[aq] at k;cases k
   ·rw[aq] at k;cases k;exact .inr ⟨_,if_pos rfl,hle.trans (.inr ⟨_,_,_,_,rfl,rfl,by omega,fun e=>by omega⟩)⟩
  ·simp only[if_neg hmn];exact h.dx _ _ hm
theorem aL.WB(h:aL c A a w D E){n:Nat}{T:TypeId}{b cap m':Nat}{es ys:List Int}{cs:Array Value}(hn:A.o n=some (.dJ T es))(aq:E n=some (.rw (some (b,cap)) es.length))(hb:w.heap[b]?=some (.cells cs T (0,0)))
  (hr:∀ x∈es++ys,IntKind.i64.min≤x∧x≤IntKind.i64.max) (hne:ys≠[]) (hlen:es.length+ys.length+m'=cap) (hcap:cap≤maxLen) (hD:∀ o,¬ D b o) (hbase:c.eb b) :
  aL c (A.aQ n (.dJ T (es++ys))) a (w.setRow b ((es++ys++List.replicate m' 0).map (Value.int .i64)).toArray) D (fun m=>if m=n then some (.rw (some (b,cap)) (es.length+ys.length)) else E m):=by
 have hlast:0<ys.length:=List.length_pos_iff.2 hne;have hl:df w D E (w.setRow b ((es++ys++List.replicate m' 0).map (Value.int .i64)).toArray) D (fun m=>if m=n then some (.rw (some (b,cap)) (es.length+ys.length)) else E m):=by
  have eV:∀ {m:Nat} {e:bu},E m=some e→e.ed=true→(if m=n then some (.rw (some (b,cap)) (es.length+ys.length)) else E m)=some e:=fun {m e} he hfx=>by
   have:m≠n:=fun e=>by rw[e,aq] at he;cases he;cases hfx
   rw[if_neg this];exact he
  refine ⟨fun _ _ h=>h,fun b1 o v hd hv =>?_,fun m b aK he=>eV he rfl,fun m blk' l he =>?_,fun m b he=>eV he rfl,fun m b he=>eV he rfl,fun b1 es ck _ hm=>(setRow_other w b b1 _ (fun e=>by rw[e,hb] at hm;cases hm)).trans hm⟩
  ·by_cases hbb:b1=b
   ·subst hbb;exact absurd hd (hD o)
   ·rw[ud _ _ _ _ hbb];exact hv
  ·by_cases hm:m=n
   ·subst hm;rw[aq] at he;simp only[v6,bu.rw.injEq] at he;exact ⟨_,_,if_pos rfl,by omega,fun e=>by omega⟩
   ·exact ⟨blk',l,by simp only[if_neg hm];exact he,Z7 _,fun _=>rfl⟩
 refine ⟨h.sz,h.ec.mono fun B _ hB=>(setRow_other w b B _ (fun e=>by rw[e,hb] at hB;cases hB)).trans hB,fun t=>aP.later hl (h.dB t),vc h.de hbase _,h.cI,fun b1 o hd=>by have:=h.cK b1 o hd;simpa[World.setRow] using this,fun m =>?_,?_,fun m e hm =>?_,h.eJ,h.cw,h.eQ,h.jT hl⟩
 ·simp only[ab.aQ];by_cases hm:m=n
  ·subst hm;simp only[if_true,cS];exact ⟨some (b,cap),by simp,hr,_,m',hbase,setRow_heap w b cs _ T _ hb,by simp,by simp[hne],by simp only[Z1];exact hlen,hcap,hD⟩
  ·simp only[if_neg hm];refine (h.bx m).later hl (by simp only[if_neg hm]) fun e b1 he hb'=>⟨setRow_other w b b1 _ (fun e1=>hm (h.cu m n e _ b he aq (by rw[hb',e1]) rfl)),fun _ ho=>ho⟩
 ·intro m m' e e' b' h1 h2 h3 h4;by_cases hm:m=n <;>by_cases hm':m'=n
  ·rw[hm,hm']
  ·simp only[if_pos hm,v6] at h1;simp only[if_neg hm'] at h2;subst h1;exact absurd (h.cu m' n e' _ b' h2 aq h4 h3) hm'
  ·simp only[if_neg hm] at h1;simp only[if_pos hm',v6] at h2;subst h2;exact absurd (h.cu m n e _ b' h1 aq h3 h4) hm
  ·simp only[if_neg hm] at h1;simp only[if_neg hm'] at h2;exact h.cu m m' e e' b' h1 h2 h3 h4
 ·by_cases hmn:m=n
  ·subst hmn;rcases h.dx _ _ hm with k | ⟨e',k,hle⟩
   ·rw[aq] at k;cases k
   ·rw[aq] at k;cases k;exact .inr ⟨_,if_pos rfl,hle.trans (.inr ⟨_,_,_,_,rfl,rfl,by omega,fun e=>by omega⟩)⟩
  ·simp only[if_neg hmn];exact h.dx _ _ hm
end
section
variable {c:b9} {A:ab} {o:Oper}
theorem Lh{t e:TypeId}{s x:Operand}{s' x':ay}{n k sz:Nat}{es ys:List I}{z:I}(ho:o.op=.call { callee:=.builtin .append,args := #[s,x],argTypes := #[t,t] })(ht:c.P.underlying t=some (.slice e))(hs':aT c.P t s=some s')(hx':aT c.P t x=some x')
  (hz:fe c.P e=some z) (hzs:z.size=c.P.cellsOf e) (hpos:0<c.P.cellsOf e) (hs:af A s'=.own n k) (hn:A.o n=some (.bJ e (c.P.cellsOf e) es)) (hk:k=es.length) (hx:af A x'=.slice sz ys) (hsz:sz=c.P.cellsOf e) (hne:ys≠[])
  (h63:es.length+ys.length≤maxLen) (hby:(es.length+ys.length)*c.P.bytesOf e≤140737488355328) (hd:∀ k,o.dst=some k→k<c.n) :
  ga c A o ((A.aQ n (.bJ e (c.P.cellsOf e) (es++ys))).aN o.dst (.own n (es.length+ys.length))):=by
 intro a w D E hsim;obtain ⟨i,zv,hi,hzv,hzr⟩:=kG hz;have hci:c.P.cellsOf e=i.size:=by simp[Program.cellsOf,hi]
 have hbi:c.P.bytesOf e=i.bytes:=by simp[Program.bytesOf,hi]
 have hzc:zv.cells.size=i.size:=by
  have:=ae.length _ _ (hzr w D E);rw[zz5] at this;rw[this,hzs,hci]
 subst hk;have v1:=bp hsim hs';rw[hs] at v1;have v2:=bp hsim hx';rw[hx] at v2;obtain ⟨ad,cp,hxv,hc1,hc2,hc3,hc4⟩:=kz v2;obtain ⟨b2,off2,news,rfl,hr2,hys⟩:=hc3.resolve_left hne;have hobj:=hsim.bx n;rw[hn] at hobj;obtain ⟨aA,aq,hesz,hblk⟩:=hobj;have hnl:news.length=ys.length*i.size:=by rw[az.length _ _ hys,I.fZ _ hc4,hsz,hci]
 have hysz:∀ y∈ys,y.size=c.P.cellsOf e:=fun y hy=>by rw[hc4 y hy,hsz]
 have hnews:∀ j v,news[j]?=some v→w.cell? ((⟨b2,off2,none⟩:Addr).add j)=some v:=fun j v hj=>by
  rw[Addr.add_lit];exact (hr2 j v hj).1
 have h1:=az.kh _ _ hys;have hsv:match aA with | none=>a.eval s=.slice none 0 0 | some (b,cap)=>a.eval s=.slice (some ⟨b,0,none⟩) es.length cap:=by
  obtain ⟨cs,q1,q2⟩:=v1;simp only[ae] at q2;obtain ⟨blk',l,q3,q4,q5,q6⟩:=q2;rw[aq] at q3;simp only[v6,bu.rw.injEq] at q3;obtain ⟨rfl,rfl⟩:=q3;have q7:=q6 rfl;simp only[aY,I.isAgg] at q1;cases aA with
  |none=>simp only at q7 ⊢;rw[q7] at q1;simpa using q1.symm
  |some bc=>simp only at q7 ⊢;rw[q7] at q1;simpa using q1.symm
 have hl0:0<ys.length:=List.length_pos_iff.2 hne;have h63':=h63;simp only[maxLen] at h63';have run:∀ v' w',(Builtin.append_ #[t,t] o.type #[a.eval s,.slice (some ⟨b2,off2,none⟩) ys.length cp]).run c.P w=.ok v' w'→(execOp a.eval o).run c.P w=.ok (.value v') w':=by
  intro v' w' hr;unfold execOp;simp only[ho,resolve,invoke,builtin,Sem.run_bind,Sem.run_pure,Result.andThen_ok,List.map_toArray,Z3,zz0,hxv,hr]
 have put:∀ (w':World) (b cap:Nat) (v':Value),v'=.slice (some ⟨b,0,none⟩) (es.length+ys.length) cap→aL c (A.aQ n (.bJ e (c.P.cellsOf e) (es++ys))) a w' D (fun m=>if m=n then some (.rw (some (b,cap)) (es.length+ys.length)) else E m) →
   bz c ((A.aQ n (.bJ e (c.P.cellsOf e) (es++ys))).aN o.dst (.own n (es.length+ys.length))) (a.put o.dst v') w':=by
  rintro w' b cap v' rfl hs2;refine ⟨D,_,hs2.aN hd ⟨_,by simp[aY,I.isAgg];rfl,?_⟩⟩;simp only[ae,if_true];exact ⟨some (b,cap),es.length+ys.length,rfl,Z7 _,⟨_,_,_,rfl⟩,fun _=>rfl⟩
 cases aA with
 |none =>
  simp only at hblk hsv;subst hblk;have hr:=run_append_nil (P:=c.P) w t o.type e i zv ht hi hzv ⟨b2,off2,none⟩ ys.length cp news hnl hnews hl0 (by simp at h63';omega) (by rw[hbi] at hby;simp at hby;omega);rw[←hsv] at hr;have hge:=grownCap_ge w ys.length 0 e;refine ⟨_,.inl ⟨_,run _ _ hr,put _ w.heap.size (grownCap w ys.length 0 e) _ (by simp) ?_⟩⟩;refine hsim.Ag (pre:=[]) (news:=news) (rest:=(Builtin.zeroCells zv.cells (grownCap w ys.length 0 e-ys.length)).toList) hn aq (by simp[az]) hys hysz hne (by simp) ?_ (by simpa using hge) (grownCap_le_maxLen w ys.length 0 e (by simpa using h63));simp only[Array.size_append,List.size_toArray,size_zeroCells,hzc,hnl,hci,←Nat.add_mul]
  congr 1
  omega
 |some bc =>
  obtain ⟨b,cap⟩:=bc;simp only at hblk hsv;obtain ⟨cs,pre,rest,k1,k2,k3,k4,k5,k6,k7,k8⟩:=hblk;have hpl:pre.length=es.length*i.size:=by rw[az.length _ _ k4,I.fZ _ hesz,hci]
  by_cases hroom:es.length+ys.length≤cap
  ·have hfit:es.length*i.size+news.length≤cs.size:=by rw[hnl,k5,hci,←Nat.add_mul];exact Nat.mul_le_mul_right _ hroom
   have hr:=run_append_room (P:=c.P) w t o.type e i ht hi b es.length cap cs k2 ⟨b2,off2,none⟩ ys.length cp news hnl hnews h1 hroom hfit;rw[←hsv] at hr;refine ⟨_,.inl ⟨_,run _ _ hr,put _ b cap _ rfl ?_⟩⟩;have e1:cs.toList.take (es.length*i.size)=pre:=by rw[k3,←hpl];exact List.take_left
   have e2:cs.toList.drop (es.length*i.size+news.length)=rest.drop news.length:=by rw[k3,←hpl,←List.drop_drop,List.drop_left]
   rw[e1,e2];exact hsim.WA hn aq k2 k3 k4 hys hysz hne k5 hroom k7 k8 k1
  ·have holds:∀ j v,pre[j]?=some v→w.cell? ((⟨b,0,none⟩:Addr).add j)=some v:=fun j v hj=>by
    rw[Addr.add_lit,Z4,cell_of_row w b j cs e (0,0) k2,←zz1,k3];have:j<pre.length:=(Z6.1 hj).1;rw[Y5 this];exact hj
   have hr:=run_append_grow (P:=c.P) w t o.type e i zv ht hi hzv ⟨b,0,none⟩ es.length cap pre hpl holds ⟨b2,off2,none⟩ ys.length cp news hnl hnews (by omega) (by omega) (growslice_fits (by omega) (by rw[←hbi];exact hby));rw[←hsv] at hr;have hge:=grownCap_ge w (es.length+ys.length) cap e;refine ⟨_,.inl ⟨_,run _ _ hr,put _ w.heap.size (grownCap w (es.length+ys.length) cap e) _ rfl ?_⟩⟩;refine hsim.Ag (pre:=pre) (news:=news) (rest:=(Builtin.zeroCells zv.cells (grownCap w (es.length+ys.length) cap e-(es.length+ys.length))).toList) hn aq k4 hys hysz hne (by simp) ?_ hge (grownCap_le_maxLen w _ cap e h63);simp only[Array.size_append,List.size_toArray,size_zeroCells,hzc,hnl,hpl,hci,←Nat.add_mul]
   congr 1
   omega
theorem Li{t e:TypeId}{s x:Operand}{s' x':ay}{n k sz:Nat}{es ys:List Int}(ho:o.op=.call { callee:=.builtin .append,args := #[s,x],argTypes := #[t,t] })(ht:c.P.underlying t=some (.slice e))(hs':aT c.P t s=some s')(hx':aT c.P t x=some x')
  (hz:fe c.P e=some (.int .i64 0)) (h1c:c.P.cellsOf e=1) (hs:af A s'=.own n k) (hn:A.o n=some (.dJ e es)) (hk:k=es.length) (hx:af A x'=.slice sz (ys.map (.int .i64))) (hne:ys≠[])
  (h63:es.length+ys.length≤maxLen) (hby:(es.length+ys.length)*c.P.bytesOf e≤140737488355328) (hd:∀ k,o.dst=some k→k<c.n) :
  ga c A o ((A.aQ n (.dJ e (es++ys))).aN o.dst (.own n (es.length+ys.length))):=by
 intro a w D E hsim;obtain ⟨i,zv,hi,hzv,hzr⟩:=kG hz;have hci:c.P.cellsOf e=i.size:=by simp[Program.cellsOf,hi]
 have hi1:i.size=1:=hci.symm.trans h1c;have hbi:c.P.bytesOf e=i.bytes:=by simp[Program.bytesOf,hi]
 have hzv2:zv.cells = #[Value.int .i64 0]:=by
  have:zv.cells.toList=[Value.int .i64 0]:=(hzr w D E).1;exact Array.toList_inj.1 this
 subst hk;have v1:=bp hsim hs';rw[hs] at v1;have v2:=bp hsim hx';rw[hx] at v2;obtain ⟨ad,cp,hxv,hc1,hc2,hc3,hc4⟩:=kz v2;obtain ⟨b2,off2,news,rfl,hr2,hys⟩:=hc3.resolve_left (by simpa using hne);rw[Z2] at hxv;obtain ⟨aA,aq,hesr,hblk⟩:=hsim.wN hn;obtain ⟨hnw,hyr⟩:=Di hys;have hnl0:news.length=ys.length:=by rw[hnw,Z2]
 have hnl:news.length=ys.length*i.size:=by rw[hi1,Nat.mul_one,hnl0]
 have hrr:∀ x∈es++ys,IntKind.i64.min≤x∧x≤IntKind.i64.max:=fun x hx=>by
  rcases zz7.1 hx with h | h
  ·exact hesr x h
  ·exact hyr x h
 have hnews:∀ j v,news[j]?=some v→w.cell? ((⟨b2,off2,none⟩:Addr).add j)=some v:=fun j v hj=>by
  rw[Addr.add_lit];exact (hr2 j v hj).1
 have h1:=az.kh _ _ hys;have hsv:match aA with | none=>a.eval s=.slice none 0 0 | some (b,cap)=>a.eval s=.slice (some ⟨b,0,none⟩) es.length cap:=by
  obtain ⟨cs,q1,q2⟩:=v1;simp only[ae] at q2;obtain ⟨blk',l,q3,q4,q5,q6⟩:=q2;rw[aq] at q3;simp only[v6,bu.rw.injEq] at q3;obtain ⟨rfl,rfl⟩:=q3;have q7:=q6 rfl;simp only[aY,I.isAgg] at q1;cases aA with
  |none=>simp only at q7 ⊢;rw[q7] at q1;simpa using q1.symm
  |some bc=>simp only at q7 ⊢;rw[q7] at q1;simpa using q1.symm
 have hl0:0<ys.length:=List.length_pos_iff.2 hne;have h63':=h63;simp only[maxLen] at h63';have run:∀ v' w',(Builtin.append_ #[t,t] o.type #[a.eval s,.slice (some ⟨b2,off2,none⟩) ys.length cp]).run c.P w=.ok v' w'→(execOp a.eval o).run c.P w=.ok (.value v') w':=by
  intro v' w' hr;unfold execOp;simp only[ho,resolve,invoke,builtin,Sem.run_bind,Sem.run_pure,Result.andThen_ok,List.map_toArray,Z3,zz0,hxv,hr]
 have put:∀ (w':World) (b cap:Nat) (v':Value),v'=.slice (some ⟨b,0,none⟩) (es.length+ys.length) cap→aL c (A.aQ n (.dJ e (es++ys))) a w' D (fun m=>if m=n then some (.rw (some (b,cap)) (es.length+ys.length)) else E m) →
   bz c ((A.aQ n (.dJ e (es++ys))).aN o.dst (.own n (es.length+ys.length))) (a.put o.dst v') w':=by
  rintro w' b cap v' rfl hs2;refine ⟨D,_,hs2.aN hd ⟨_,by simp[aY,I.isAgg];rfl,?_⟩⟩;simp only[ae,if_true];exact ⟨some (b,cap),es.length+ys.length,rfl,Z7 _,⟨_,_,_,rfl⟩,fun _=>rfl⟩
 cases aA with
 |none =>
  simp only at hblk hsv;subst hblk;have hr:=run_append_nil (P:=c.P) w t o.type e i zv ht hi hzv ⟨b2,off2,none⟩ ys.length cp news hnl hnews hl0 (by simp at h63';omega) (by rw[hbi] at hby;simp at hby;omega);rw[←hsv] at hr;have hge:=grownCap_ge w ys.length 0 e;refine ⟨_,.inl ⟨_,run _ _ hr,put _ w.heap.size (grownCap w ys.length 0 e) _ (by simp) ?_⟩⟩;refine hsim.Ah (m':=grownCap w ys.length 0 e-ys.length) hn aq hrr hne ?_ (by simp;omega) (grownCap_le_maxLen w ys.length 0 e (by simpa using h63));rw[hzv2];simp only[Array.toList_append,EK,Y6,zz9,hnw]
 |some bc =>
  obtain ⟨b,cap⟩:=bc;simp only at hblk hsv;obtain ⟨cs,m,k1,k2,k3,k4,k5,k6,k7⟩:=hblk;have hcz:cs.size=cap:=by rw[←zz5,k3];simp;omega
  by_cases hroom:es.length+ys.length≤cap
  ·have hfit:es.length*i.size+news.length≤cs.size:=by rw[hnl,hi1];omega
   have hr:=run_append_room (P:=c.P) w t o.type e i ht hi b es.length cap cs k2 ⟨b2,off2,none⟩ ys.length cp news hnl hnews h1 hroom hfit;rw[←hsv] at hr;refine ⟨_,.inl ⟨_,run _ _ hr,put _ b cap _ rfl ?_⟩⟩;have e0:cs.toList.take (es.length*i.size)++news++cs.toList.drop (es.length*i.size+news.length)=(es++ys++List.replicate (m-ys.length) 0).map (Value.int .i64):=by
    rw[hi1,Nat.mul_one,hnl0,k3,hnw,←List.map_take,←List.map_drop,List.take_left,←List.drop_drop,List.drop_left];simp only[zz9,List.drop_replicate]
   rw[e0];exact hsim.WB (m':=m-ys.length) hn aq k2 hrr hne (by omega) k6 k7 k1
  ·have hpl:(es.map (Value.int .i64)).length=es.length*i.size:=by rw[hi1];simp
   have holds:∀ j v,(es.map (Value.int .i64))[j]?=some v→w.cell? ((⟨b,0,none⟩:Addr).add j)=some v:=fun j v hj=>by
    rw[Addr.add_lit,Z4,cell_of_row w b j cs e (0,0) k2,←zz1,k3];have:j<(es.map (Value.int .i64)).length:=(Z6.1 hj).1;rw[zz9,Y5 this];exact hj
   have hr:=run_append_grow (P:=c.P) w t o.type e i zv ht hi hzv ⟨b,0,none⟩ es.length cap (es.map (Value.int .i64)) hpl holds ⟨b2,off2,none⟩ ys.length cp news hnl hnews (by omega) (by omega) (growslice_fits (by omega) (by rw[←hbi];exact hby));rw[←hsv] at hr;have hge:=grownCap_ge w (es.length+ys.length) cap e;refine ⟨_,.inl ⟨_,run _ _ hr,put _ w.heap.size (grownCap w (es.length+ys.length) cap e) _ rfl ?_⟩⟩;refine hsim.Ah (m':=grownCap w (es.length+ys.length) cap e-(es.length+ys.length)) hn aq hrr hne ?_ (by omega) (grownCap_le_maxLen w _ cap e h63);rw[hzv2];simp only[Array.toList_append,EK,zz9,hnw]
end
mutual
def I.only(p:Nat→Bool):I→Bool
 | .agg fs | .tuple fs=>I.cJ p fs
 | .slice _ es=>I.cJ p es
 | .ref x=>x.only p
 | .func _ caps=>I.cJ p caps
 | .iface _ v=>v.only p
 | .ptr n _ | .own n _ | .view n _ _ _ _ | .mref n | .cR n=>p n
 | .cW ks vs=>I.cJ p ks&&I.cJ p vs
 |_=>true
def I.cJ(p:Nat→Bool):List I→Bool
 | []=>true
 |x::xs=>x.only p&&I.cJ p xs
end
mutual
theorem lX(p:Nat→Bool):∀ x:I,x.bw=true→x.only p=true
 | .agg fs,h=>by simp only[I.bw,I.only] at *;exact mJ p fs h
 | .slice _ es,h=>by simp only[I.bw,I.only] at *;exact mJ p es h
 | .ref x,h=>by simp only[I.bw,I.only] at *;exact lX p x h
 | .func _ caps,h=>by simp only[I.bw,I.only] at *;exact mJ p caps h
 | .iface _ v,h=>by simp only[I.bw,I.only] at *;exact lX p v h
 | .bool _,_ | .int _ _,_ | .aj _,_ | .nilp,_ | .cZ,_ | .cL,_ | .any,_ | .raw _,_ | .nils _,_ | .c0 _,_=>by simp[I.only]
 | .cW ks vs,h=>by simp only[I.bw,I.only,Z0] at *;exact ⟨mJ p ks h.1,mJ p vs h.2⟩
 | .ptr _ _,h | .own _ _,h | .view _ _ _ _ _,h | .mref _,h | .cR _,h | .undef,h | .cU,h | .tuple _,h=>by simp[I.bw] at h
theorem mJ(p:Nat→Bool):∀ xs:List I,I.b7 xs=true→I.cJ p xs=true
 | [],_=>rfl
 |x::xs,h=>by
  simp only[I.b7,I.cJ,Z0] at *;exact ⟨lX p x h.1,mJ p xs h.2⟩
end
mutual
theorem ae.dz{w:World}{D:aJ}{E E':aM}{p:Nat→Bool}(aq:∀ n,p n=true→E' n=E n):∀ (x:I) (cs:List Value),x.only p=true→ae w D E x cs→ae w D E' x cs
 | .agg fs,cs,ho,hr=>by simp only[ae,I.only] at *;exact az.dz aq fs cs ho hr
 | .bool b,cs,_,hr=>by simpa only[ae] using hr
 | .int k n,cs,_,hr=>by simpa only[ae] using hr
 | .aj s,cs,_,hr=>by simpa only[ae] using hr
 | .nilp,cs,_,hr=>by simpa only[ae] using hr
 | .cZ,cs,_,hr=>by simpa only[ae] using hr
 | .cL,cs,_,hr | .any,cs,_,hr=>by simpa only[ae] using hr
 | .raw _,cs,_,hr=>by simpa only[ae] using hr
 | .nils _,cs,_,hr=>by simpa only[ae] using hr
 | .c0 _,cs,_,hr=>by simpa only[ae] using hr
 | .slice sz es,cs,ho,hr=>by
  simp only[ae,I.only] at *;obtain ⟨a,cap,h1,h2,h3,h4,h5⟩:=hr;refine ⟨a,cap,h1,h2,h3,?_,h5⟩;rcases h4 with h4 | ⟨b,off,cs',h6,h7,h8⟩
  ·exact .inl h4
  ·exact .inr ⟨b,off,cs',h6,h7,az.dz aq es cs' ho h8⟩
 | .ref x,cs,ho,hr=>by
  simp only[ae,I.only] at *;obtain ⟨b,off,cs',h1,h2,h3⟩:=hr;exact ⟨b,off,cs',h1,h2,ae.dz aq x cs' ho h3⟩
 | .func f caps,cs,ho,hr=>by
  simp only[ae,I.only] at *;obtain ⟨vs,h1,h2⟩:=hr;exact ⟨vs,h1,ak.dz aq caps vs ho h2⟩
 | .iface t v,cs,ho,hr=>by
  simp only[ae,I.only] at *;obtain ⟨u,cs',h1,h2,h3⟩:=hr;exact ⟨u,cs',h1,h2,ae.dz aq v cs' ho h3⟩
 | .ptr n p,cs,ho,hr=>by
  simp only[ae,I.only] at *;obtain ⟨b,aK,off,h1,h2⟩:=hr;exact ⟨b,aK,off,(aq n ho).trans h1,h2⟩
 | .own n k,cs,ho,hr=>by
  simp only[ae,I.only] at *;obtain ⟨aA,l,h1,h2⟩:=hr;exact ⟨aA,l,(aq n ho).trans h1,h2⟩
 | .view n p _ _ _,cs,ho,hr=>by
  simp only[ae,I.only] at *;obtain ⟨b,aK,off,l,h1,h2⟩:=hr;exact ⟨b,aK,off,l,(aq n ho).trans h1,h2⟩
 | .mref n,cs,ho,hr=>by
  simp only[ae,I.only] at *;obtain ⟨b,h1,h2⟩:=hr;exact ⟨b,(aq n ho).trans h1,h2⟩
 | .cR n,cs,ho,hr=>by
  simp only[ae,I.only] at *;obtain ⟨b,h1,h2⟩:=hr;exact ⟨b,(aq n ho).trans h1,h2⟩
 | .cW ks vs,cs,ho,hr=>by
  simp only[ae,I.only,Z0] at *;obtain ⟨b,es,ck,h1,h2,h3,h4⟩:=hr;exact ⟨b,es,ck,h1,h2,ak.dz aq ks _ ho.1 h3,ak.dz aq vs _ ho.2 h4⟩
 | .undef,_,_,hr=>by simp only[ae] at hr
 | .cU,_,_,hr=>by simp only[ae] at hr
 | .tuple _,_,_,hr=>by simp only[ae] at hr
theorem az.dz{w:World}{D:aJ}{E E':aM}{p:Nat→Bool}(aq:∀ n,p n=true→E' n=E n):∀ (xs:List I) (cs:List Value),I.cJ p xs=true→az w D E xs cs→az w D E' xs cs
 | [],cs,_,hr=>by simpa only[az] using hr
 |x::xs,cs,ho,hr=>by
  simp only[az,I.cJ,Z0] at *;obtain ⟨c1,c2,h1,h2,h3⟩:=hr;exact ⟨c1,c2,h1,ae.dz aq x c1 ho.1 h2,az.dz aq xs c2 ho.2 h3⟩
theorem ak.dz{w:World}{D:aJ}{E E':aM}{p:Nat→Bool}(aq:∀ n,p n=true→E' n=E n):∀ (xs:List I) (vs:List Value),I.cJ p xs=true→ak w D E xs vs→ak w D E' xs vs
 | [],vs,_,hr=>by simpa only[ak] using hr
 |x::xs,vs,ho,hr=>by
  simp only[ak,I.cJ,Z0] at *;obtain ⟨v,rest,cs,h1,h2,h3,h4⟩:=hr;exact ⟨v,rest,cs,h1,h2,ae.dz aq x cs ho.1 h3,ak.dz aq xs rest ho.2 h4⟩
end
theorem aP.dz{w:World}{D:aJ}{E E':aM}{p:Nat→Bool}(aq:∀ n,p n=true→E' n=E n){x:I}{v:Value}(ho:x.only p=true)(hr:aP w D E x v):aP w D E' x v:=by
 cases x <;>simp only[aP] at * <;>first
  |exact hr
  |(obtain ⟨vs,h1,h2⟩:=hr;exact ⟨vs,h1,ak.dz aq _ _ (by simpa[I.only] using ho) h2⟩)
  |(obtain ⟨cs,h1,h2⟩:=hr;exact ⟨cs,h1,ae.dz aq _ _ ho h2⟩)
def ai.only(p:Nat→Bool):ai→Bool
 | .box x=>x.only p
 | .bJ _ _ es=>I.cJ p es
 | .c6 _=>true
 | .dJ _ _=>true
 | .bZ ks vs | .it ks vs _ _=>I.cJ p ks&&I.cJ p vs
def bq:List (Nat×Nat)→Nat→Nat
 | [],n=>n
 |(a,b)::r,n=>if n=a then b else bq r n
mutual
def I.aS(ρ:Nat→Nat):I→I
 | .agg fs=>.agg (I.cT ρ fs)
 | .tuple fs=>.tuple (I.cT ρ fs)
 | .slice sz es=>.slice sz (I.cT ρ es)
 | .ref x=>.ref (x.aS ρ)
 | .func f caps=>.func f (I.cT ρ caps)
 | .iface t v=>.iface t (v.aS ρ)
 | .ptr n p=>.ptr (ρ n) p
 | .own n k=>.own (ρ n) k
 | .view n p sz lo k=>.view (ρ n) p sz lo k
 | .mref n=>.mref (ρ n)
 | .cR n=>.cR (ρ n)
 | .cW ks vs=>.cW (I.cT ρ ks) (I.cT ρ vs)
 | .undef=>.undef | .cU=>.cU | .bool b=>.bool b | .int k n=>.int k n | .aj s=>.aj s
 | .nilp=>.nilp | .cZ=>.cZ | .cL=>.cL | .any=>.any | .raw u=>.raw u | .nils z=>.nils z | .c0 z=>.c0 z
def I.cT(ρ:Nat→Nat):List I→List I
 | []=>[]
 |x::xs=>x.aS ρ::I.cT ρ xs
end
def ai.aS(ρ:Nat→Nat):ai→ai
 | .box x=>.box (x.aS ρ)
 | .bJ T sz es=>.bJ T sz (I.cT ρ es)
 | .c6 x=>.c6 x
 | .dJ T xs=>.dJ T xs
 | .bZ ks vs=>.bZ (I.cT ρ ks) (I.cT ρ vs)
 | .it ks vs left cur=>.it (I.cT ρ ks) (I.cT ρ vs) left cur
mutual
theorem p7(ρ:Nat→Nat):∀ x:I,(x.aS ρ).size=x.size
 | .agg fs=>by simp only[I.aS,I.size];exact Dt ρ fs
 | .undef | .cU | .bool _ | .int _ _ | .aj _ | .nilp | .cZ | .cL | .any | .raw _ | .nils _ | .c0 _ | .slice _ _ | .tuple _ | .ref _ | .func _ _ | .iface _ _ | .ptr _ _ | .own _ _ | .view _ _ _ _ _ | .mref _ | .cR _ | .cW _ _=>by simp only[I.aS,I.size]
theorem Dt(ρ:Nat→Nat):∀ xs:List I,I.sizes (I.cT ρ xs)=I.sizes xs
 | []=>rfl
 |x::xs=>by simp only[I.cT,I.sizes,p7 ρ x,Dt ρ xs]
end
mutual
theorem p6(ρ:Nat→Nat):∀ x:I,(x.aS ρ).aK=x.aK
 | .agg fs=>by simp only[I.aS,I.aK,bM.eC.injEq];exact Ds ρ fs
 | .undef | .cU | .bool _ | .int _ _ | .aj _ | .nilp | .cZ | .cL | .any | .raw _ | .nils _ | .c0 _ | .slice _ _ | .tuple _ | .ref _ | .func _ _ | .iface _ _ | .ptr _ _ | .own _ _ | .view _ _ _ _ _ | .mref _ | .cR _ | .cW _ _=>by simp only[I.aS,I.aK]
theorem Ds(ρ:Nat→Nat):∀ xs:List I,I.cE (I.cT ρ xs)=I.cE xs
 | []=>rfl
 |x::xs=>by simp only[I.cT,I.cE,p6 ρ x,Ds ρ xs]
end
theorem Xu(ρ:Nat→Nat)(x:I):(x.aS ρ).isAgg=x.isAgg:=by cases x <;>simp[I.aS,I.isAgg]
theorem p9(ρ:Nat→Nat)(xs:List I):I.cT ρ xs=xs.map (I.aS ρ):=by
 induction xs with
 |nil=>rfl
 |cons x xs ih=>simp[I.cT,ih]
theorem p8(ρ:Nat→Nat)(xs:List I):(I.cT ρ xs).length=xs.length:=by rw[p9];simp
theorem Dr(ρ:Nat→Nat)(x:I)(v:Value)(cs:List Value):aY (x.aS ρ) v cs=aY x v cs:=by simp only[aY,Xu]
mutual
/-- A value,its names put for others that stand for the same. -/
theorem ae.aS{w:World}{D:aJ}{E E':aM}{p:Nat→Bool}{ρ:Nat→Nat}(aq:∀ n,p n=true→E' (ρ n)=E n):∀ (x:I) (cs:List Value),x.only p=true→(ae w D E' (x.aS ρ) cs↔ae w D E x cs)
 | .agg fs,cs,ho=>by simp only[ae,I.aS,I.only] at *;exact az.aS aq fs cs ho
 | .bool b,cs,_ | .int k n,cs,_ | .aj s,cs,_ | .nilp,cs,_ | .cZ,cs,_ | .cL,cs,_ | .any,cs,_ | .raw _,cs,_ | .nils _,cs,_ | .c0 _,cs,_ | .undef,cs,_ | .cU,cs,_ | .tuple _,cs,_=>by simp only[ae,I.aS]
 | .slice sz es,cs,ho=>by
  simp only[ae,I.aS,I.only,p8] at *;have e1:(I.cT ρ es=[])↔es=[]:=by rw[←List.length_eq_zero_iff,p8,List.length_eq_zero_iff]
  have e2:(∀ e∈I.cT ρ es,e.size=sz)↔∀ e∈es,e.size=sz:=by
   rw[p9];constructor
   ·intro h e he;rw[←p7 ρ e];exact h _ (zz3.2 ⟨e,he,rfl⟩)
   ·intro h e he;obtain ⟨e',he',rfl⟩:=zz3.1 he;rw[p7];exact h _ he'
  simp only[e1,e2];constructor
  ·rintro ⟨a,cap,h1,h2,h3,h4,h5⟩;refine ⟨a,cap,h1,h2,h3,?_,h5⟩;rcases h4 with h4 | ⟨b,off,cs',h6,h7,h8⟩
   ·exact .inl h4
   ·exact .inr ⟨b,off,cs',h6,h7,(az.aS aq es cs' ho).1 h8⟩
  ·rintro ⟨a,cap,h1,h2,h3,h4,h5⟩;refine ⟨a,cap,h1,h2,h3,?_,h5⟩;rcases h4 with h4 | ⟨b,off,cs',h6,h7,h8⟩
   ·exact .inl h4
   ·exact .inr ⟨b,off,cs',h6,h7,(az.aS aq es cs' ho).2 h8⟩
 | .ref x,cs,ho=>by
  simp only[ae,I.aS,I.only] at *;constructor
  ·rintro ⟨b,off,cs',h1,h2,h3⟩;exact ⟨b,off,cs',h1,h2,(ae.aS aq x cs' ho).1 h3⟩
  ·rintro ⟨b,off,cs',h1,h2,h3⟩;exact ⟨b,off,cs',h1,h2,(ae.aS aq x cs' ho).2 h3⟩
 | .func f caps,cs,ho=>by
  simp only[ae,I.aS,I.only] at *;constructor
  ·rintro ⟨vs,h1,h2⟩;exact ⟨vs,h1,(ak.aS aq caps vs ho).1 h2⟩
  ·rintro ⟨vs,h1,h2⟩;exact ⟨vs,h1,(ak.aS aq caps vs ho).2 h2⟩
 | .iface t v,cs,ho=>by
  simp only[ae,I.aS,I.only,Dr] at *;constructor
  ·rintro ⟨u,cs',h1,h2,h3⟩;exact ⟨u,cs',h1,h2,(ae.aS aq v cs' ho).1 h3⟩
  ·rintro ⟨u,cs',h1,h2,h3⟩;exact ⟨u,cs',h1,h2,(ae.aS aq v cs' ho).2 h3⟩
 | .ptr n p,cs,ho=>by simp only[ae,I.aS,I.only] at *;rw[aq n ho]
 | .own n k,cs,ho=>by simp only[ae,I.aS,I.only] at *;rw[aq n ho]
 | .view n p _ _ _,cs,ho=>by simp only[ae,I.aS,I.only] at *;rw[aq n ho]
 | .mref n,cs,ho=>by simp only[ae,I.aS,I.only] at *;rw[aq n ho]
 | .cR n,cs,ho=>by simp only[ae,I.aS,I.only] at *;rw[aq n ho]
 | .cW ks vs,cs,ho=>by
  simp only[ae,I.aS,I.only,Z0] at *;constructor
  ·rintro ⟨b,es,ck,h1,h2,h3,h4⟩;exact ⟨b,es,ck,h1,h2,(ak.aS aq ks _ ho.1).1 h3,(ak.aS aq vs _ ho.2).1 h4⟩
  ·rintro ⟨b,es,ck,h1,h2,h3,h4⟩;exact ⟨b,es,ck,h1,h2,(ak.aS aq ks _ ho.1).2 h3,(ak.aS aq vs _ ho.2).2 h4⟩
theorem az.aS{w:World}{D:aJ}{E E':aM}{p:Nat→Bool}{ρ:Nat→Nat}(aq:∀ n,p n=true→E' (ρ n)=E n):∀ (xs:List I) (cs:List Value),I.cJ p xs=true→(az w D E' (I.cT ρ xs) cs↔az w D E xs cs)
 | [],cs,_=>by simp only[az,I.cT]
 |x::xs,cs,ho=>by
  simp only[az,I.cT,I.cJ,Z0] at *;constructor
  ·rintro ⟨c1,c2,h1,h2,h3⟩;exact ⟨c1,c2,h1,(ae.aS aq x c1 ho.1).1 h2,(az.aS aq xs c2 ho.2).1 h3⟩
  ·rintro ⟨c1,c2,h1,h2,h3⟩;exact ⟨c1,c2,h1,(ae.aS aq x c1 ho.1).2 h2,(az.aS aq xs c2 ho.2).2 h3⟩
theorem ak.aS{w:World}{D:aJ}{E E':aM}{p:Nat→Bool}{ρ:Nat→Nat}(aq:∀ n,p n=true→E' (ρ n)=E n):∀ (xs:List I) (vs:List Value),I.cJ p xs=true→(ak w D E' (I.cT ρ xs) vs↔ak w D E xs vs)
 | [],vs,_=>by simp only[ak,I.cT]
 |x::xs,vs,ho=>by
  simp only[ak,I.cT,I.cJ,Z0,Dr] at *;constructor
  ·rintro ⟨v,rest,cs,h1,h2,h3,h4⟩;exact ⟨v,rest,cs,h1,h2,(ae.aS aq x cs ho.1).1 h3,(ak.aS aq xs rest ho.2).1 h4⟩
  ·rintro ⟨v,rest,cs,h1,h2,h3,h4⟩;exact ⟨v,rest,cs,h1,h2,(ae.aS aq x cs ho.1).2 h3,(ak.aS aq xs rest ho.2).2 h4⟩
end
theorem aP.aS{w:World}{D:aJ}{E E':aM}{p:Nat→Bool}{ρ:Nat→Nat}(aq:∀ n,p n=true→E' (ρ n)=E n){x:I}{v:Value}(ho:x.only p=true):aP w D E' (x.aS ρ) v↔aP w D E x v:=by
 cases x <;>first
  |(simp only[aP,I.aS];done)
  |(simp only[aP,I.aS,I.only] at ho ⊢
    constructor
    ·rintro ⟨vs,h1,h2⟩;exact ⟨vs,h1,(ak.aS aq _ _ ho).1 h2⟩
    ·rintro ⟨vs,h1,h2⟩;exact ⟨vs,h1,(ak.aS aq _ _ ho).2 h2⟩)
  |(have key:=fun x cs=>ae.aS (w:=w) (D:=D) aq x cs
    refine exists_congr fun cs=>and_congr ?_ ?_
    ·first | exact Iff.rfl | simp only[aY,I.aS,I.isAgg]
    ·first | exact key _ cs ho | (have h:=key _ cs ho;simpa only[I.aS] using h))
mutual
/-- Values that read no memory: but they may name objects. -/
def I.cV:I→Bool
 | .agg fs | .tuple fs=>I.ji fs
 | .func _ caps=>I.ji caps
 | .iface _ v=>v.cV
 | .slice _ es=>es.isEmpty
 | .ref _ | .cW _ _=>false
 |_=>true
def I.ji:List I→Bool
 | []=>true
 |x::xs=>x.cV&&I.ji xs
end
def ai.cV:ai→Bool
 | .box x=>x.cV
 | .bJ _ _ es=>I.ji es
 | .dJ _ _=>true
 | .c6 _=>true
 | .bZ ks vs=>I.ji ks&&I.ji vs
 | .it .. =>false
mutual
theorem ae.cV{w w':World}{D D':aJ}{E:aM} : ∀ (x:I) (cs:List Value),x.cV=true→ae w D E x cs→ae w' D' E x cs
 | .agg fs,cs,hf,hr=>by simp only[ae,I.cV] at *;exact az.cV fs cs hf hr
 | .bool b,cs,_,hr | .int k n,cs,_,hr | .aj s,cs,_,hr | .nilp,cs,_,hr | .cZ,cs,_,hr | .cL,cs,_,hr | .any,cs,_,hr | .raw _,cs,_,hr | .nils _,cs,_,hr | .c0 _,cs,_,hr
 | .ptr _ _,cs,_,hr | .own _ _,cs,_,hr | .view _ _ _ _ _,cs,_,hr | .mref _,cs,_,hr | .cR _,cs,_,hr=>by simpa only[ae] using hr
 | .func f caps,cs,hf,hr=>by
  simp only[ae,I.cV] at *;obtain ⟨vs,h1,h2⟩:=hr;exact ⟨vs,h1,ak.cV caps vs hf h2⟩
 | .iface t v,cs,hf,hr=>by
  simp only[ae,I.cV] at *;obtain ⟨u,cs',h1,h2,h3⟩:=hr;exact ⟨u,cs',h1,h2,ae.cV v cs' hf h3⟩
 | .slice sz es,cs,hf,hr=>by
  simp only[ae,I.cV,List.isEmpty_iff] at *;subst hf;obtain ⟨a,cap,h1,h2,h3,_,h5⟩:=hr;exact ⟨a,cap,h1,h2,h3,.inl rfl,h5⟩
 | .ref _,_,hf,_ | .cW _ _,_,hf,_=>by simp[I.cV] at hf
 | .undef,_,_,hr | .cU,_,_,hr | .tuple _,_,_,hr=>by simp only[ae] at hr
theorem az.cV{w w':World}{D D':aJ}{E:aM} : ∀ (xs:List I) (cs:List Value),I.ji xs=true→az w D E xs cs→az w' D' E xs cs
 | [],cs,_,hr=>by simpa only[az] using hr
 |x::xs,cs,hf,hr=>by
  simp only[az,I.ji,Z0] at *;obtain ⟨c1,c2,h1,h2,h3⟩:=hr;exact ⟨c1,c2,h1,ae.cV x c1 hf.1 h2,az.cV xs c2 hf.2 h3⟩
theorem ak.cV{w w':World}{D D':aJ}{E:aM} : ∀ (xs:List I) (vs:List Value),I.ji xs=true→ak w D E xs vs→ak w' D' E xs vs
 | [],vs,_,hr=>by simpa only[ak] using hr
 |x::xs,vs,hf,hr=>by
  simp only[ak,I.ji,Z0] at *;obtain ⟨v,rest,cs,h1,h2,h3,h4⟩:=hr;exact ⟨v,rest,cs,h1,h2,ae.cV x cs hf.1 h3,ak.cV xs rest hf.2 h4⟩
end
theorem aP.cV{w w':World}{D D':aJ}{E:aM}{x:I}{v:Value}(hf:x.cV=true)(hr:aP w D E x v):aP w' D' E x v:=by
 cases x <;>simp only[aP] at * <;>first
  |exact hr
  |(obtain ⟨vs,h1,h2⟩:=hr;exact ⟨vs,h1,ak.cV _ _ (by simpa[I.cV] using hf) h2⟩)
  |(obtain ⟨cs,h1,h2⟩:=hr;exact ⟨cs,h1,ae.cV _ _ hf h2⟩)
def cX(ρ:List (Nat×Nat))(os:List (Nat×ai)):List (Nat×ai):=os.map fun q=>(bq ρ q.1,q.2.aS (bq ρ))
def pre(ρ:List (Nat×Nat))(os:List (Nat×ai))(n:Nat):Option Nat:=(os.find? fun q=>bq ρ q.1==n).map (·.1)
theorem u9{os:List (Nat×ai)}{m:Nat} : aI os m=true↔∃ q∈os,q.1=m:=by
 induction os with
 |nil=>simp[aI,aD]
 |cons q os ih =>
  obtain ⟨k,v⟩:=q;simp only[aI,aD] at *;by_cases h:m=k
  ·subst h;simp
  ·simp only[if_neg h,ih,zy0,Prod.exists,exists_and_right,exists_eq_right];constructor
   ·rintro ⟨a,b⟩;exact ⟨a,.inr b⟩
   ·rintro ⟨a,b | b⟩
    ·cases b;exact absurd rfl h
    ·exact ⟨a,b⟩
theorem lh{ρ:List (Nat×Nat)}{os:List (Nat×ai)}{n m:Nat}(h:pre ρ os n=some m):aI os m=true∧bq ρ m=n:=by
 simp only[pre,t7] at h;obtain ⟨q,hq,rfl⟩:=h;exact ⟨u9.2 ⟨q,List.mem_of_find?_eq_some hq,rfl⟩,by simpa using List.find?_some hq⟩
theorem B6{ρ:List (Nat×Nat)}{os:List (Nat×ai)}{n m:Nat}(h:pre ρ os n=none)(hm:aI os m=true):bq ρ m≠n:=by
 simp only[pre,Option.map_eq_none_iff,List.find?_eq_none] at h;obtain ⟨q,hq,rfl⟩:=u9.1 hm;simpa using h q hq
theorem r3(ρ:List (Nat×Nat))(os os0:List (Nat×ai))(n:Nat):aD (cX ρ os++os0) n=match pre ρ os n with
  |some m=>(aD os m).map (ai.aS (bq ρ))
  |none=>aD os0 n:=by
 induction os with
 |nil=>simp[cX,pre]
 |cons q os ih =>
  obtain ⟨k,v⟩:=q;simp only[cX,Z3,Y3,aD,pre,List.find?_cons] at *;by_cases h:bq ρ k=n
  ·subst h;simp
  ·rw[if_neg (Ne.symm h)];have hb:(bq ρ k==n)=false:=by simpa using h
   rw[hb,ih];simp only;cases hf:os.find? (fun q=>bq ρ q.1==n) with
   |none=>rfl
   |some q =>
    simp only[Z9];have hq:=List.find?_some hf;have hne:q.1≠k:=fun e=>h (by rw[←e];simpa using hq);rw[if_neg hne]
def aq(ρ:List (Nat×Nat))(os:List (Nat×ai))(E:aM):aM:=fun n=>if aI os n then E (bq ρ n) else none
structure eM (ρ:List (Nat×Nat)) (os os0:List (Nat×ai)):Prop where
 bg:∀ m x,aD os m=some x→aD os0 (bq ρ m)=some (x.aS (bq ρ))∧x.only (aI os)=true∧x.ed=true
 inj:∀ m m',aI os m=true→aI os m'=true→bq ρ m=bq ρ m'→m=m'
structure dv (aB:Bool) (ρ:List (Nat×Nat)) (os os0:List (Nat×ai)) (r:I) (os':List (Nat×ai)):Prop where
 bg:∀ m x,aD os' m=some x→x.only (aI os')=true∧x.ed=true∧(aB=true→x.cV=true)
 inj:∀ m m',aI os' m=true→aI os' m'=true→bq ρ m=bq ρ m'→m=m'
 old:∀ m,aI os m=true→aI os' m=true
 oc:∀ m,aI os' m=true→aI os m=false→aD os0 (bq ρ m)=none∧bq ρ m<1000000
 vS:r.only (aI os')=true∧(aB=true→r.cV=true)
section
variable {c:b9} {a:Act} {w:World} {D:aJ} {E:aM} {ts:List (Nat×I)} {os0 os:List (Nat×ai)} {ρ:List (Nat×Nat)}
theorem aL.given(hs:aL c (aw ts os0) a w D E)(hg:eM ρ os os0){m:Nat}(hm:aI os m=true):∃ x e,aD os m=some x∧aq ρ os E m=some e∧E (bq ρ m)=some e∧cS (fun _=>True) w D (aq ρ os E) m (some x) ∧
  ∀ b,e.aA=some b→c.eb b∧(∃ o,w.heap[b]?=some o∧sk o=true)∧b<w.heap.size∧(e.ed=true→∀ o,¬ D b o):=by
 cases hx:aD os m with
 |none=>simp[aI,hx] at hm
 |some x =>
  obtain ⟨h1,h2,h3⟩:=hg.bg m x hx;have ho:=hs.bx (bq ρ m);simp only[aw] at ho;rw[h1] at ho;have hEm:aq ρ os E m=E (bq ρ m):=by simp only[aq,hm,if_true]
  have hin:∀ n,aI os n=true→E (bq ρ n)=aq ρ os E n:=fun n hn=>by simp only[aq,hn,if_true]
  cases x with
  |bJ T sz es =>
   obtain ⟨aA,k1,k2,k3⟩:=ho;rw[p8] at k1;have h2':I.cJ (aI os) es=true:=h2;have k2':∀ e∈es,e.size=sz:=fun e he=>by rw[←p7 (bq ρ) e];exact k2 _ (by rw[p9];exact zz3.2 ⟨e,he,rfl⟩)
   refine ⟨_,_,rfl,hEm.trans k1,k1,⟨aA,hEm.trans k1,k2',?_⟩,fun b hb =>?_⟩
   ·cases aA with
    |none=>simp only[p9,List.map_eq_nil_iff] at k3;exact k3
    |some bc =>
     obtain ⟨b,cap⟩:=bc;obtain ⟨cs,pr,rest,q1,q2,q3,q4,q5,q6,q7,q8⟩:=k3;rw[p8] at q6;exact ⟨cs,pr,rest,trivial,q2,q3,(az.aS (p:=aI os) hin es _ h2').1 q4,q5,q6,q7,q8⟩
   ·cases aA with
    |none=>cases hb
    |some bc =>
     obtain ⟨b',cap⟩:=bc;cases hb;obtain ⟨cs,pr,rest,q1,q2,_⟩:=k3;exact ⟨q1,⟨_,q2,rfl⟩,eI q2,fun h=>by cases h⟩
  |box y =>
   obtain ⟨b,cs,T,k1,k2,k3,k4,k5⟩:=ho;rw[p6] at k1;refine ⟨_,_,rfl,hEm.trans k1,k1,⟨b,cs,T,hEm.trans k1,trivial,k3.aK (by rw[p6]),?_,k5⟩,fun b' hb =>?_⟩
   ·exact (ae.aS (p:=aI os) hin y _ (by simpa[ai.only] using h2)).1 k4
   ·cases hb;exact ⟨k2,k3.bx,k3.lt,fun _=>k5⟩
  |c6 o =>
   obtain ⟨b,k1,k2,k3,k4,k5⟩:=ho;exact ⟨_,_,rfl,hEm.trans k1,k1,⟨b,hEm.trans k1,trivial,k3,k4,k5⟩,fun b' hb=>by cases hb;exact ⟨k2,⟨_,k3,VJ k4⟩,eI k3,fun _=>k5⟩⟩
  |bZ ks vs =>
   obtain ⟨b,es,ck,k1,k2,k3,k4,k5,k6,k7⟩:=ho;simp only[ai.only,Z0] at h2;exact ⟨_,_,rfl,hEm.trans k1,k1,⟨b,es,ck,hEm.trans k1,trivial,k3,k4,(ak.aS (p:=aI os) hin ks _ h2.1).1 k5,(ak.aS (p:=aI os) hin vs _ h2.2).1 k6,k7⟩,
    fun b' hb=>by cases hb;exact ⟨k2,⟨_,k3,rfl⟩,eI k3,fun _=>k7⟩⟩
  |it ks vs left cur=>cases h3
  |dJ T xs =>
   obtain ⟨aA,k1,k2,k3⟩:=ho;refine ⟨_,_,rfl,hEm.trans k1,k1,⟨aA,hEm.trans k1,k2,?_⟩,fun b hb =>?_⟩
   ·cases aA with
    |none=>exact k3
    |some bc =>
     obtain ⟨b,cap⟩:=bc;obtain ⟨cs,r,q1,q2⟩:=k3;exact ⟨cs,r,trivial,q2⟩
   ·cases aA with
    |none=>cases hb
    |some bc =>
     obtain ⟨b',cap⟩:=bc;cases hb;obtain ⟨cs,r,q1,q2,_⟩:=k3;exact ⟨q1,⟨_,q2,rfl⟩,eI q2,fun h=>by cases h⟩
theorem aL.rD(hs:aL c (aw ts os0) a w D E)(hg:eM ρ os os0){b:Nat}(hb:bR (aq ρ os E) b):∃ m e,aI os m=true∧E (bq ρ m)=some e∧e.aA=some b∧c.eb b∧(∃ o,w.heap[b]?=some o∧sk o=true)∧b<w.heap.size:=by
 obtain ⟨m,e,h1,h2⟩:=hb;by_cases hm:aI os m=true
 ·obtain ⟨x,e',k1,k2,k3,k4,k5⟩:=hs.given hg hm;rw[k2,v6] at h1;subst h1;obtain ⟨q1,q2,q3,_⟩:=k5 b h2;exact ⟨m,_,hm,k3,h2,q1,q2,q3⟩
 ·simp[aq,hm] at h1
theorem aL.AN(hs:aL c (aw ts os0) a w D E)(hg:eM ρ os os0){D1:aJ}(hD:∀ b o,D b o→D1 b o)(hown:∀ b o,D1 b o→bR (aq ρ os E) b→D b o):iW (fun _=>True) w D1 (aq ρ os E) (aD os):=by
 refine ⟨fun n =>?_,fun n m e e' b h1 h2 h3 h4 =>?_⟩
 ·cases hx:aD os n with
  |none=>simp[cS,aq,aI,hx]
  |some x =>
   have hm:aI os n=true:=by simp[aI,hx]
   obtain ⟨y,e,k1,k2,k3,k4,k5⟩:=hs.given hg hm;rw[hx,v6] at k1;subst k1;refine k4.later (E':=aq ρ os E) ⟨hD,fun _ _ _ _ h=>h,fun _ _ _ h=>h,fun _ aA l h=>⟨aA,l,h,Z7 _,fun _=>rfl⟩,fun _ _ h=>h,fun _ _ h=>h,fun _ _ _ _ h=>h⟩ rfl fun e' b' he hb'=>⟨rfl,fun o ho =>?_⟩
   exact hown b' o ho ⟨n,e',he,hb'⟩
 ·have hn:aI os n=true:=by
   by_cases h:aI os n=true;· exact h
   ·simp[aq,h] at h1
  have hm:aI os m=true:=by
    by_cases h:aI os m=true;· exact h
    ·simp[aq,h] at h2
  simp only[aq,hn,hm,if_true] at h1 h2;exact hg.inj n m hn hm (hs.cu _ _ e e' b h1 h2 h3 h4)
theorem aL.kN(hs:aL c (aw ts os0) a w D E)(hg:eM ρ os os0){aB:Bool}{D1:aJ}(hD:∀ b o,D b o→D1 b o)(hbx:aB=false→∀ b o,D1 b o→D b o){w':World}{D':aJ}{E':aM}{v:Value}{r:I}{os':List (Nat×ai)}
  (hb:dv aB ρ os os0 r os') (hr:aP w' D' E' r v) (hh:iW (fun b=>w.heap.size≤b∨bR (aq ρ os E) b) w' D' E' (aD os')) (hk:ej (fun b=>w.heap.size≤b∨bR (aq ρ os E) b) w w')
  (hlive:∀ b o,D' b o→b<w'.heap.size) (hup:∀ b o,D1 b o→D' b o) (hst:fN w D1 w') (hold:∀ b o,D' b o→b<w.heap.size→¬ bR (aq ρ os E) b→D1 b o) (hbox:∀ n e,aq ρ os E n=some e→aI os' n=true→∃ e',E' n=some e'∧e.e8 e') :
  ∃ D2 E2,aL c (aw ts (cX ρ os'++os0)) a w' D2 E2∧aP w' D2 E2 (r.aS (bq ρ)) v∧∀ m e,aq ρ os E m=some e→aI os' m=true→∃ e',E2 (bq ρ m)=some e'∧e.e8 e':=by
 obtain ⟨M1,hM1⟩:∃ M1:Nat→Prop,M1=fun b=>w.heap.size≤b∨bR (aq ρ os E) b:=⟨_,rfl⟩
 rw[←hM1] at hh hk;obtain ⟨D2,hD2⟩:∃ D2:aJ,D2=fun b o=>D b o∨(M1 b∧D' b o):=⟨_,rfl⟩
 obtain ⟨E2,hE2⟩:∃ E2:aM,E2=fun n=>match pre ρ os' n with | some m=>E' m | none=>E n:=⟨_,rfl⟩
 have jj:∀ b,M1 b→c.eb b:=fun b hb'=>by
  rw[hM1] at hb';rcases hb' with h | h
  ·exact .inl (Nat.le_trans hs.de.size h)
  ·obtain ⟨m,e,_,_,_,h3,_⟩:=hs.rD hg h;exact h3
 have upD:∀ b o,D b o→D' b o:=fun b o hd=>hup b o (hD b o hd);have E2m:∀ m,aI os' m=true→E2 (bq ρ m)=E' m:=fun m hm=>by
  rw[hE2];simp only;cases hp:pre ρ os' (bq ρ m) with
  |none=>exact absurd rfl (B6 hp hm)
  |some m' =>
   obtain ⟨h1,h2⟩:=lh hp;rw[hb.inj m' m h1 hm h2]
 have E2o:∀ n,pre ρ os' n=none→E2 n=E n:=fun n hn=>by rw[hE2];simp only[hn]
 -- a name that has a new meaning: one that was handed over,or one that was free
 have cas:∀ n m,pre ρ os' n=some m→(aI os m=true∧∃ e e',E n=some e∧E' m=some e'∧e.e8 e')∨(aI os m=false∧E n=none∧c.cd n=none):=fun n m hp=>by
  obtain ⟨h1,h2⟩:=lh hp;cases hm:aI os m with
  |true =>
   obtain ⟨y,e,k1,k2,k3,_⟩:=hs.given hg hm;rw[h2] at k3;obtain ⟨e',q1,q2⟩:=hbox m e k2 h1;exact .inl ⟨rfl,e,e',k3,q1,q2⟩
  |false =>
   obtain ⟨k1,k2⟩:=hb.oc m h1 hm;rw[h2] at k1 k2;have ho:=hs.bx n;simp only[aw,k1] at ho;exact .inr ⟨rfl,ho,hs.jA (.inr k2)⟩
 have hl:df w D E w' D2 E2:=by
  have pF:∀ n e,E n=some e→∃ e',E2 n=some e'∧e.e8 e':=fun n e he=>by
   cases hp:pre ρ os' n with
   |none=>exact ⟨e,by rw[E2o n hp];exact he,.refl e⟩
   |some m =>
    rw[hE2];simp only[hp];rcases cas n m hp with ⟨_,e1,e2,k1,k2,k3⟩ | ⟨_,k1,_⟩
    ·rw[he] at k1;cases k1;exact ⟨e2,k2,k3⟩
    ·rw[he] at k1;cases k1
  have keepf:∀ n e,E n=some e→e.ed=true→E2 n=some e:=fun n e he hf=>by
   obtain ⟨e',k1,k2⟩:=pF n e he;rw[k1,k2.eq hf]
  refine ⟨fun b o h=>by rw[hD2];exact .inl h,fun b o v' hd hv=>hst.cell b o v' (hD b o hd) hv,fun n b aK he=>keepf n _ he rfl,fun n aA l he =>?_,fun n b he=>keepf n _ he rfl,fun n b he=>keepf n _ he rfl,fun b es ck hd hm=>hst.iq b es ck (hD b 0 hd) hm⟩;obtain ⟨e',k1,k2⟩:=pF n _ he;rcases k2 with rfl | ⟨_,_,blk',l',e,rfl,k3,k4⟩
  ·exact ⟨aA,l,k1,Z7 _,fun _=>rfl⟩
  ·cases e;exact ⟨blk',l',k1,k3,k4⟩
 -- blocks of names that were not handed over
 have other:∀ n e b,pre ρ os' n=none→E n=some e→e.aA=some b→¬ M1 b:=fun n e b hp he hb' hm=>by
  rw[hM1] at hm;rcases hm with h | h
  ·exact absurd (hs.eX he hb') (by omega)
  ·obtain ⟨m,e',h1,h2,h3,_⟩:=hs.rD hg h;have:=hs.cu n (bq ρ m) e _ b he h2 hb' h3;exact B6 hp (hb.old m h1) this.symm
 have toD2:∀ {x:I} {cs:List Value},(aB=true→x.cV=true)→ae w' D' E2 x cs→ae w' D2 E2 x cs:=fun {x cs} hx h=>by
  cases hbb:aB with
  |true=>exact ae.cV x cs (hx hbb) h
  |false =>
   refine ae.later (E:=E2) ⟨fun b o hd =>?_,fun _ _ _ _ h=>h,fun _ _ _ h=>h,fun _ aA l h=>⟨aA,l,h,Z7 _,fun _=>rfl⟩,fun _ _ h=>h,fun _ _ h=>h,fun _ _ _ _ h=>h⟩ x cs h;rw[hD2];by_cases hm:M1 b
   ·exact .inr ⟨hm,hd⟩
   ·rw[hM1] at hm;exact .inl (hbx hbb b o (hold b o hd (Nat.lt_of_not_le fun h=>hm (.inl h)) fun h=>hm (.inr h)))
 have toD2c:∀ {xs:List I} {cs:List Value},I.cJ (aI os') xs=true→(aB=true→I.ji xs=true)→az w' D' E' xs cs→az w' D2 E2 (I.cT (bq ρ) xs) cs:=fun {xs cs} ho hx h=>by
  cases hbb:aB with
  |true=>exact (az.aS (w:=w') (D:=D2) (p:=aI os') (ρ:=bq ρ) (E:=E') (E':=E2) (fun n hn=>E2m n hn) xs cs ho).2 (az.cV xs cs (hx hbb) h)
  |false =>
   have h2:=(az.aS (w:=w') (D:=D') (p:=aI os') (ρ:=bq ρ) (E:=E') (E':=E2) (fun n hn=>E2m n hn) xs cs ho).2 h;refine az.later (E:=E2) ⟨fun b o hd =>?_,fun _ _ _ _ h=>h,fun _ _ _ h=>h,fun _ aA l h=>⟨aA,l,h,Z7 _,fun _=>rfl⟩,fun _ _ h=>h,fun _ _ h=>h,fun _ _ _ _ h=>h⟩ _ cs h2;rw[hD2];by_cases hm:M1 b
   ·exact .inr ⟨hm,hd⟩
   ·rw[hM1] at hm;exact .inl (hbx hbb b o (hold b o hd (Nat.lt_of_not_le fun h=>hm (.inl h)) fun h=>hm (.inr h)))
 have toD2s:∀ {xs:List I} {cs:List Value},I.cJ (aI os') xs=true→(aB=true→I.ji xs=true)→ak w' D' E' xs cs→ak w' D2 E2 (I.cT (bq ρ) xs) cs:=fun {xs cs} ho hx h=>by
  cases hbb:aB with
  |true=>exact (ak.aS (w:=w') (D:=D2) (p:=aI os') (ρ:=bq ρ) (E:=E') (E':=E2) (fun n hn=>E2m n hn) xs cs ho).2 (ak.cV xs cs (hx hbb) h)
  |false =>
   have h2:=(ak.aS (w:=w') (D:=D') (p:=aI os') (ρ:=bq ρ) (E:=E') (E':=E2) (fun n hn=>E2m n hn) xs cs ho).2 h;refine ak.later (E:=E2) ⟨fun b o hd =>?_,fun _ _ _ _ h=>h,fun _ _ _ h=>h,fun _ aA l h=>⟨aA,l,h,Z7 _,fun _=>rfl⟩,fun _ _ h=>h,fun _ _ h=>h,fun _ _ _ _ h=>h⟩ _ cs h2;rw[hD2];by_cases hm:M1 b
   ·exact .inr ⟨hm,hd⟩
   ·rw[hM1] at hm;exact .inl (hbx hbb b o (hold b o hd (Nat.lt_of_not_le fun h=>hm (.inl h)) fun h=>hm (.inr h)))
 refine ⟨D2,E2,⟨hs.sz,hs.ec.mono fun B _ hB =>?_,fun t=>aP.later hl (hs.dB t),hs.de.trans ⟨hk.os,hk.tape,hk.output,hk.size,fun k hk'=>hk.block k fun h=>hk' (jj k h)⟩,fun b o hd hm =>?_,fun b o hd =>?_,fun n =>?_,?_,fun n e hn =>?_,hs.eJ,
  fun b o hd=>hl.cI b o (hs.cw b o hd),hs.eQ,hs.jT hl⟩,?_,fun m e k1 k3=>by rw[E2m m k3];exact hbox m e k1 k3⟩
 ·refine (hk.block B fun hm =>?_).trans hB;rw[hM1] at hm;rcases hm with h | h
  ·exact absurd (Y2.1 hB).1 (by omega)
  ·obtain ⟨m,e,_,_,_,_,⟨o,h4,h5⟩,_⟩:=hs.rD hg h;rw[hB] at h4;cases h4;cases h5
 ·rw[hD2] at hd;rcases hd with hd | ⟨h1,_⟩
  ·exact hs.cI b o hd hm
  ·exact absurd (jj b h1) hm
 ·rw[hD2] at hd;rcases hd with hd | ⟨_,h1⟩
  ·exact zy7 (hs.cK b o hd) hk.size
  ·exact hlive b o h1
 ·simp only[aw,r3];cases hp:pre ρ os' n with
  |none =>
   simp only;refine (hs.bx n).later hl (E2o n hp) fun e b he hb'=>⟨hk.block b (other n e b hp he hb'),fun o ho =>?_⟩
   rw[hD2] at ho;rcases ho with ho | ⟨h1,_⟩
   ·exact ho
   ·exact absurd h1 (other n e b hp he hb')
  |some m =>
   simp only;obtain ⟨h1,h2⟩:=lh hp;cases hx:aD os' m with
   |none=>simp[aI,hx] at h1
   |some x =>
    obtain ⟨k1,kf,k2⟩:=hb.bg m x hx;have ho:=hh.bx m;rw[hx] at ho;have noD:∀ b,(∀ o,¬ D' b o)→∀ o,¬ D2 b o:=fun b hno o ho=>by
     rw[hD2] at ho;rcases ho with ho | ⟨_,ho⟩
     ·exact hno o (upD b o ho)
     ·exact hno o ho
    cases x with
    |bJ T sz es =>
     obtain ⟨aA,q1,q2,q3⟩:=ho;simp only[Z9,ai.aS,cS,p8];refine ⟨aA,by rw[←h2,E2m m h1];exact q1,fun e he =>?_,?_⟩
     ·rw[p9] at he;obtain ⟨e',he',rfl⟩:=zz3.1 he;rw[p7];exact q2 e' he'
     ·cases aA with
      |none=>simp only at q3 ⊢;rw[q3];rfl
      |some bc =>
       obtain ⟨b,cap⟩:=bc;obtain ⟨cs,pr,rest,g1,g2,g3,g4,g5,g6,g7,g8⟩:=q3;refine ⟨cs,pr,rest,jj b g1,g2,g3,toD2c (by simpa[ai.only] using k1) (fun h=>by simpa[ai.cV] using k2 h) g4,g5,g6,g7,fun o ho =>?_⟩;rw[hD2] at ho;rcases ho with ho | ⟨_,ho⟩
       ·exact g8 o (upD b o ho)
       ·exact g8 o ho
    |dJ T xs =>
     obtain ⟨aA,q1,q2,q3⟩:=ho;simp only[Z9,ai.aS,cS];refine ⟨aA,by rw[←h2,E2m m h1];exact q1,q2,?_⟩;cases aA with
     |none=>exact q3
     |some bc =>
      obtain ⟨b,cap⟩:=bc;obtain ⟨cs,r,g1,g2,g3,g4,g5,g6,g7⟩:=q3;exact ⟨cs,r,jj b g1,g2,g3,g4,g5,g6,noD b g7⟩
    |c6 x =>
     obtain ⟨b,q1,q2,q3,q4,q5⟩:=ho;simp only[Z9,ai.aS,cS];exact ⟨b,by rw[←h2,E2m m h1];exact q1,jj b q2,q3,q4,noD b q5⟩
    |it ks vs left cur=>cases kf
    |bZ ks vs =>
     obtain ⟨b,es,ck,q1,q2,q3,q4,q5,q6,q7⟩:=ho;simp only[Z9,ai.aS,cS];simp only[ai.only,Z0] at k1;simp only[ai.cV,Z0] at k2;exact ⟨b,es,ck,by rw[←h2,E2m m h1];exact q1,jj b q2,q3,q4,toD2s k1.1 (fun h=>(k2 h).1) q5,toD2s k1.2 (fun h=>(k2 h).2) q6,noD b q7⟩
    |box y =>
     obtain ⟨b,cs,T,q1,q2,q3,q4,q5⟩:=ho;simp only[Z9,ai.aS,cS];refine ⟨b,cs,T,by rw[p6,←h2,E2m m h1];exact q1,jj b q2,q3.aK (by rw[p6]),?_,noD b q5⟩;have h3:=(ae.aS (w:=w') (D:=D') (p:=aI os') (ρ:=bq ρ) (E:=E') (E':=E2) (fun n hn=>E2m n hn) y cs.toList (by simpa[ai.only] using k1)).2 q4;cases hbb:aB with
     |true =>
      have h4:ae w' D2 E' y cs.toList:=ae.cV y _ (k2 hbb) q4;exact (ae.aS (w:=w') (D:=D2) (p:=aI os') (ρ:=bq ρ) (E:=E') (E':=E2) (fun n hn=>E2m n hn) y cs.toList (by simpa[ai.only] using k1)).2 h4
     |false=>exact toD2 (fun h=>by rw[hbb] at h;cases h) h3
 ·intro n m e e' b h1 h2 h3 h4;have blk':∀ n m e,pre ρ os' n=some m→E2 n=some e→e.aA=some b→M1 b∧E' m=some e:=fun n m e hp he hb'=>by
   obtain ⟨k1,k2⟩:=lh hp;rw[←k2,E2m m k1] at he;cases hx:aD os' m with
   |none=>simp[aI,hx] at k1
   |some x =>
    obtain ⟨_,kf,_⟩:=hb.bg m x hx;have ho:=hh.bx m;rw[hx] at ho;cases x with
    |bJ T sz es =>
     obtain ⟨aA,q1,q2,q3⟩:=ho;rw[q1,v6] at he;subst he;cases aA with
     |none=>cases hb'
     |some bc =>
      obtain ⟨b',cap⟩:=bc;cases hb';obtain ⟨cs,pr,rest,g1,_⟩:=q3;exact ⟨g1,q1⟩
    |it ks vs left cur=>cases kf
    |dJ T xs =>
     obtain ⟨aA,q1,q2,q3⟩:=ho;rw[q1,v6] at he;subst he;cases aA with
     |none=>cases hb'
     |some bc =>
      obtain ⟨b',cap⟩:=bc;cases hb';obtain ⟨cs,r,g1,_⟩:=q3;exact ⟨g1,q1⟩
    |bZ ks vs =>
     obtain ⟨b',es,ck,q1,q2,_⟩:=ho;rw[q1,v6] at he;subst he;cases hb';exact ⟨q2,q1⟩
    |c6 x =>
     obtain ⟨b',q1,q2,_⟩:=ho;rw[q1,v6] at he;subst he;cases hb';exact ⟨q2,q1⟩
    |box y =>
     obtain ⟨b',cs,T,q1,q2,_⟩:=ho;rw[q1,v6] at he;subst he;cases hb';exact ⟨q2,q1⟩
  cases hn:pre ρ os' n with
  |none =>
   have g1:E n=some e:=by rw[←E2o n hn];exact h1
   cases hm:pre ρ os' m with
   |none=>exact hs.cu n m e e' b g1 (by rw[←E2o m hm];exact h2) h3 h4
   |some m'=>exact absurd (blk' m m' e' hm h2 h4).1 (other n e b hn g1 h3)
  |some n' =>
   have g1:=blk' n n' e hn h1 h3;cases hm:pre ρ os' m with
   |none=>exact absurd g1.1 (other m e' b hm (by rw[←E2o m hm];exact h2) h4)
   |some m' =>
    have g2:=blk' m m' e' hm h2 h4;have:=hh.cu n' m' e e' b g1.2 g2.2 h3 h4;rw[←(lh hn).2,←(lh hm).2,this]
 ·cases hp:pre ρ os' n with
  |none=>rw[E2o n hp];exact hs.dx n e hn
  |some m =>
   rcases cas n m hp with ⟨_,e1,e2,k1,k2,k3⟩ | ⟨_,_,k1⟩
   ·rcases hs.dx n e hn with h | ⟨e3,h,h'⟩
    ·rw[h] at k1;cases k1
    ·rw[k1,v6] at h;subst h
     right
     rw[hE2];simp only[hp];exact ⟨e2,k2,h'.trans k3⟩
   ·rw[hn] at k1;cases k1
 ·have h3:=(aP.aS (w:=w') (p:=aI os') (ρ:=bq ρ) (E:=E') (E':=E2) (D:=D') (fun n hn=>E2m n hn) (v:=v) hb.vS.1).2 hr;cases hbb:aB with
  |true=>exact (aP.aS (w:=w') (p:=aI os') (ρ:=bq ρ) (E:=E') (E':=E2) (D:=D2) (fun n hn=>E2m n hn) (v:=v) hb.vS.1).2 (aP.cV (hb.vS.2 hbb) hr)
  |false =>
   refine aP.later (E:=E2) ⟨fun b o hd =>?_,fun _ _ _ _ h=>h,fun _ _ _ h=>h,fun _ aA l h=>⟨aA,l,h,Z7 _,fun _=>rfl⟩,fun _ _ h=>h,fun _ _ h=>h,fun _ _ _ _ h=>h⟩ h3;rw[hD2];by_cases hm:M1 b
   ·exact .inr ⟨hm,hd⟩
   ·rw[hM1] at hm;exact .inl (hbx hbb b o (hold b o hd (Nat.lt_of_not_le fun h=>hm (.inl h)) fun h=>hm (.inr h)))
end
theorem tq(z:Array Value):∀ n:Nat,(Builtin.zeroCells z n).toList=(List.replicate n z.toList).flatten
 |0=>by simp[Builtin.zeroCells]
 |n+1=>by
  rw[List.replicate_succ,List.flatten_cons,←tq z n];apply List.ext_getElem?;intro i;by_cases hz:z.size=0
  ·have hz':z = #[]:=Array.eq_empty_of_size_eq_zero hz;subst hz';simp[Builtin.zeroCells]
  have hpos:0<z.size:=Nat.pos_of_ne_zero hz;by_cases hi:i<z.toList.length
  ·rw[Y5 hi];have hi':i<z.size:=by simpa using hi
   have h1:i<(n+1)*z.size:=by rw[Nat.succ_mul];omega
   simp only[Builtin.zeroCells,Array.toList_map,Array.toList_range,zz2,List.getElem?_range h1,Z9,Nat.mod_eq_of_lt hi'];simp[hi']
  ·rw[zy4 (by omega)];have hi':z.size≤i:=by simpa using hi
   simp only[Builtin.zeroCells,Array.toList_map,Array.toList_range,zz2,zz5];by_cases h2:i<(n+1)*z.size
   ·have h3:i-z.size<n*z.size:=by rw[Nat.succ_mul] at h2;omega
    rw[List.getElem?_range h2,List.getElem?_range h3];simp only[Z9];rw[←Nat.mod_eq_sub_mod hi']
   ·have h3:¬ i-z.size<n*z.size:=by rw[Nat.succ_mul] at h2;omega
    rw[List.getElem?_eq_none (by simpa using h2),List.getElem?_eq_none (by simpa using h3)]
theorem pX{w:World}{D:aJ}{E:aM}{z:I}{cs:List Value}(h:ae w D E z cs):∀ n:Nat,az w D E (List.replicate n z) (List.replicate n cs).flatten
 |0=>by simp[az]
 |n+1=>by
  simp only[List.replicate_succ,List.flatten_cons,az];exact ⟨cs,_,rfl,h,pX h n⟩
section
variable {c:b9} {A:ab} {a:Act} {w:World} {D:aJ} {E:aM}
theorem aL.view(h:aL c A a w D E){n:Nat}{p:List Nat}{sz lo k:Nat}{v:Value}{fs:List I}(hv:aP w D E (.view n p sz lo k) v)(hx:bQ A (.ptr n p)=some (.agg fs)) :
  ∃ y b cs T off c1 c2 c3,A.o n=some (.box y)∧E n=some (.aB b y.aK)∧dT w b cs T y.aK∧y.at p=some (.agg fs)∧y.aK.off p=some off∧cs.toList=c1++c2++c3∧c1.length=off∧az w D E fs c2 ∧
   ae w D E y cs.toList∧(∀ f∈fs,f.size=sz)∧lo+k≤fs.length∧fs.length≤maxLen∧v=.slice (some ⟨b,off+lo*sz,none⟩) k (fs.length-lo):=by
 obtain ⟨z,b',cs',T,off',c1,c2,c3,k1,k2,_,k3,k4,k5,k6,k7,k8,k9,_⟩:=h.at hx;obtain ⟨vs,g1,g2⟩:=hv;simp only[ae] at g2;obtain ⟨b,aK,off,l,h1,h2,h3,h4,h5,h6,h7⟩:=g2;rw[k2] at h1;simp only[v6,bu.aB.injEq] at h1;obtain ⟨rfl,rfl⟩:=h1;rw[k5,v6] at h2;subst h2;rw[ly p z _ k4] at h3;simp only[I.aK,v6,bM.eC.injEq] at h3;subst h3;rw[I.cF,Z2] at h4 h5 h6;refine ⟨z,b',cs',T,off',c1,c2,c3,k1,k2,k3,k4,k5,k6,k7,by simpa only[ae] using k8,k9,DX h7,h6,h5,?_⟩;simpa[aY,I.isAgg,h4] using g1.symm
theorem aL.lB(h:aL c A a w D E){sz:Nat}{x:I}{v:Value}{ys:List I}(hv:aP w D E x v)(hs:cP A sz x=some ys) :
  ∃ ad cp news,v=.slice ad ys.length cp∧ys.length≤cp∧cp≤maxLen∧az w D E ys news∧(∀ y∈ys,y.size=sz)∧(ys≠[]→∃ b o,ad=some ⟨b,o,none⟩∧∀ j u,news[j]?=some u→w.cell? ⟨b,o+j,none⟩=some u):=by
 cases x <;>simp only[cP] at hs <;>try (cases hs;done)
 case nils z =>
  simp only[v6] at hs;subst hs;obtain ⟨cs,q1,q2⟩:=hv;simp only[ae] at q2;exact ⟨none,0,[],by simpa[aY,I.isAgg,q2] using q1.symm,by simp,by simp[maxLen],by simp[az],by simp,fun h=>absurd rfl h⟩
 case c0 z =>
  simp only[v6] at hs;subst hs;obtain ⟨cs,q1,q2⟩:=hv;simp only[ae] at q2;obtain ⟨ad,q2⟩:=q2;exact ⟨ad,0,[],by simpa[aY,I.isAgg,q2] using q1.symm,by simp,by simp[maxLen],by simp[az],by simp,fun h=>absurd rfl h⟩
 case slice z es =>
  split at hs
  ·rename_i hz;simp only[v6] at hs;subst hs hz;obtain ⟨ad,cap,e1,e2,e3,e4,e5⟩:=kz hv;rcases e4 with rfl | ⟨b,off,cs,rfl,q1,q2⟩
   ·exact ⟨ad,cap,[],e1,e2,e3,by simp[az],by simp,fun h=>absurd rfl h⟩
   ·exact ⟨_,cap,cs,e1,e2,e3,q2,e5,fun _=>⟨b,off,rfl,fun j u hj=>(q1 j u hj).1⟩⟩
  ·cases hs
 case own n l =>
  split at hs
  ·rename_i T z es hn;split at hs
   ·rename_i hz;obtain ⟨hz1,rfl⟩:=hz;simp only[v6] at hs;subst hs;obtain ⟨aA,k1,k2,k3⟩:=h.bJ hn;obtain ⟨cs,q1,q2⟩:=hv;simp only[ae] at q2;obtain ⟨blk',l',g1,g2,_,g4⟩:=q2;rw[k1] at g1;simp only[v6,bu.rw.injEq] at g1;obtain ⟨rfl,rfl⟩:=g1
    replace g4:=g4 hz1
    cases aA with
    |none =>
     simp only at k3 g4;subst k3;have hv':v=.slice none 0 0:=by rw[g4] at q1;simpa[aY,I.isAgg] using q1.symm
     exact ⟨none,0,[],hv',by simp,by simp[maxLen],by simp[az],by simp,fun h=>absurd rfl h⟩
    |some bc =>
     obtain ⟨b,cap⟩:=bc;simp only at g4;obtain ⟨cs',pre,rest,k4,k5,k6,k7,k8,k9,k10,k11⟩:=k3;refine ⟨some ⟨b,0,none⟩,cap,pre,by rw[←hz1];simpa[aY,I.isAgg,g4] using q1.symm,k9,k10,k7,k2,fun _=>⟨b,0,rfl,fun j u hj =>?_⟩⟩;have:=(sP (D:=fun _ _=>True) (c1:=[]) (c2:=pre) (c3:=rest) k5 (by simpa using k6) (fun _ _=>trivial)) j u hj;simpa using this.1
   ·cases hs
  ·cases hs
 case view n p z lo k =>
  split at hs
  ·rename_i fs hx;split at hs
   ·rename_i hk;obtain ⟨hk,rfl⟩:=hk;simp only[v6] at hs;subst hs;obtain ⟨y,b,cs,T,off,c1,c2,c3,k1,k2,k3,k4,k5,k6,k7,k8,k9,k10,k11,k12,rfl⟩:=h.view hv hx;obtain ⟨d1,d2,d3,rfl,q1,q2,q3⟩:=sN k8 k10 lo k hk;have hlen:((fs.drop lo).take k).length=k:=by rw[Y0,List.length_drop];omega
    refine ⟨some ⟨b,off+lo*z,none⟩,fs.length-lo,d2,by rw[hlen],by rw[hlen];omega,by omega,q2,fun y hy=>k10 y (List.mem_of_mem_drop (zy8 hy)),fun _=>⟨b,_,rfl,fun j u hj =>?_⟩⟩;have:=(sO (D:=fun _ _=>True) (c1:=c1++d1) (c2:=d2) (c3:=d3++c3) k3 (by rw[k6];simp) (fun _ _=>trivial)) j u hj;rw[Z1,k7,q1] at this;exact this.1
   ·cases hs
  ·cases hs
theorem aL.hG(h:aL c A a w D E){n:Nat}{p:List Nat}{sz j:Nat}{y:I}{fs ys:List I}{b off:Nat}{cs:Array Value}{T:TypeId}{c1 c2 c3 ds:List Value}(hn:A.o n=some (.box y))(aq:E n=some (.aB b y.aK))(hb:dT w b cs T y.aK)
  (hat:y.at p=some (.agg fs)) (hoff:y.aK.off p=some off) (hcs:cs.toList=c1++c2++c3) (hc1:c1.length=off) (hfs:az w D E fs c2) (hy:ae w D E y cs.toList) (hsz:∀ f∈fs,f.size=sz) (hys:az w D E ys ds) (hj:j+ys.length≤fs.length)
  (hsh:I.cE ys=I.cE ((fs.drop j).take ys.length)) (P:Program) :
  ∃ w',(storeCells ⟨b,off+j*sz,none⟩ ds 0).run P w=.ok () w'∧aL c (A.aQ n (.box (y.dp p (.agg (fs.take j++(ys++fs.drop (j+ys.length))))))) a w' D E:=by
 obtain ⟨d1,d2,d3,rfl,q1,q2,q3⟩:=sN hfs hsz j ys.length hj;have hd1:az w D E (fs.take j) d1:=by
  have e1:fs=fs.take j++fs.drop j:=(List.take_append_drop j fs).symm;rw[e1] at hfs;obtain ⟨e1,e2,he,k1,k2⟩:=sM _ _ _ hfs;have hl:e1.length=d1.length:=by
   rw[az.length _ _ k1,I.fZ _ (fun x hx=>hsz x (zy8 hx)),q1,Y0];congr 1;omega
  have:e1=d1:=by
   have:=congrArg (List.take d1.length) he;rw[List.take_left,←hl,List.take_left] at this;exact this.symm
  rw[←this];exact k1
 have hlen:ds.length=d2.length:=by rw[az.length _ _ hys,az.length _ _ q2,←I.lz,←I.lz,hsh]
 have hds:ae w D E (.agg (fs.take j++(ys++fs.drop (j+ys.length)))) (d1++(ds++d3)):=by
  simp only[ae];refine iP _ _ _ _ hd1 (iP _ _ _ _ hys ?_);rw[List.drop_drop] at q3;exact q3
 have hshape:(I.agg (fs.take j++(ys++fs.drop (j+ys.length)))).aK=(I.agg fs).aK:=by
  simp only[I.aK,bM.eC.injEq,I.cF,zz9];rw[←I.cF ys,hsh,I.cF,←zz9,←zz9]
  congr 1
  rw[←List.drop_drop,List.take_append_drop,List.take_append_drop]
 obtain ⟨off',g1,g2,g3,g4⟩:=sK p y _ _ _ _ hy hat hds hshape;rw[hoff,v6] at g1;subst g1;have hst:=sW P b (off+j*sz) T ds 0 cs w hb (by
  have:cs.size=cs.toList.length:=by simp
  rw[this,hcs];simp only[Z1];omega) (az.kh _ _ hys)
 simp only[Nat.add_zero] at hst;refine ⟨_,hst,?_⟩;refine h.wj hn aq g4 ?_;have e:cs.toList.take (off+j*sz)++ds++cs.toList.drop (off+j*sz+ds.length)=cs.toList.take off++(d1++(ds++d3))++cs.toList.drop (off+(d1++(ds++d3)).length):=by
  rw[hcs];have t1:(c1++(d1++(d2++d3))++c3).take (off+j*sz)=c1++d1:=by
   rw[←hc1,←q1,Z8,List.take_length_add_append,Z8,List.take_left]
  have t2:(c1++(d1++(d2++d3))++c3).drop (off+j*sz+ds.length)=d3++c3:=by
   rw[←hc1,←q1,hlen,Z8,Nat.add_assoc,List.drop_length_add_append,Z8,List.drop_length_add_append,Z8,List.drop_left]
  have t3:(c1++(d1++(d2++d3))++c3).take off=c1:=by rw[←hc1,Z8,List.take_left]
  have t4:(c1++(d1++(d2++d3))++c3).drop (off+(d1++(ds++d3)).length)=c3:=by
   have:(d1++(ds++d3)).length=(d1++(d2++d3)).length:=by simp[hlen]
   rw[this,←hc1,Z8,List.drop_length_add_append,List.drop_left]
  rw[t1,t2,t3,t4];simp
 rw[e];simpa using g3
end
end Go.Abs
