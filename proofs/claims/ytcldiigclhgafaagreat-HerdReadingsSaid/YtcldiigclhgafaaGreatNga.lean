/-
  A part of the proof that the law HerdReadings returns true for every input; conditions: none beyond the statement's own. (part 1 of 7)
-/
import Derived.WalkKit
import Derived.Orders
import Derived.Still
import Derived.RangeFuncSeq
import Derived.RangeFuncLeaves
import Derived.RangeFuncOwn
import Derived.Great.FillDense
import Derived.Great.BuildSlice
import Derived.ChangeKeysEq
import Derived.Laws.AppendOwn
import Derived.Lib.AppendZerosOnto
set_option linter.unusedSimpArgs false
set_option linter.unusedVariables false
set_option maxHeartbeats 16000000
set_option maxRecDepth 100000
namespace Go
theorem v6:type_of% @And.intro:=@And.intro
theorem u8:type_of% @Option.some.injEq:=@Option.some.injEq
theorem t7:type_of% @Nat.le_of_ble_eq_true:=@Nat.le_of_ble_eq_true
theorem zz0:type_of% @List.getD_eq_getElem?_getD:=@List.getD_eq_getElem?_getD
theorem zz1:type_of% @Option.map_eq_some_iff:=@Option.map_eq_some_iff
theorem zz2:type_of% @Bool.and_eq_true:=@Bool.and_eq_true
theorem zz3:type_of% @List.length_append:=@List.length_append
theorem zz4:type_of% @Nat.zero_add:=@Nat.zero_add
theorem zz5:type_of% @List.append_assoc:=@List.append_assoc
theorem zz6:type_of% @Bool.false_eq_true:=@Bool.false_eq_true
theorem zz7:type_of% @Nat.le_refl:=@Nat.le_refl
theorem zz8:type_of% @List.map_cons:=@List.map_cons
theorem zz9:type_of% @List.getElem?_eq_getElem:=@List.getElem?_eq_getElem
theorem zy0:type_of% @List.cons_append:=@List.cons_append
theorem zy1:type_of% @List.take_succ_eq_append_getElem:=@List.take_succ_eq_append_getElem
theorem zy2:type_of% @List.length_map:=@List.length_map
theorem zy3:type_of% @List.nil_append:=@List.nil_append
theorem zy4:type_of% @List.mem_append:=@List.mem_append
theorem zy5:type_of% @Option.map_some:=@Option.map_some
theorem zy6:type_of% @List.getElem?_eq_some_iff:=@List.getElem?_eq_some_iff
theorem zy7:type_of% @List.length_take:=@List.length_take
theorem zy8:type_of% @List.getElem?_append_left:=@List.getElem?_append_left
theorem zy9:type_of% @List.length_drop:=@List.length_drop
theorem zx0:type_of% @List.take_append_drop:=@List.take_append_drop
theorem zx1:type_of% @List.map_nil:=@List.map_nil
theorem zx2:type_of% @List.all_eq_true:=@List.all_eq_true
theorem zx3:type_of% @List.getElem_mem:=@List.getElem_mem
theorem zx4:type_of% @List.filter_cons:=@List.filter_cons
theorem zx5:type_of% @List.map_append:=@List.map_append
theorem zx6:type_of% @List.mem_cons:=@List.mem_cons
theorem zx7:type_of% @List.append_nil:=@List.append_nil
theorem zx8:type_of% @List.take_append_of_le_length:=@List.take_append_of_le_length
theorem zx9:type_of% @List.mem_map:=@List.mem_map
theorem zw0:type_of% @List.getElem?_append_right:=@List.getElem?_append_right
theorem zw1:type_of% @List.mem_range:=@List.mem_range
theorem zw2:type_of% @Array.getElem?_eq_some_iff:=@Array.getElem?_eq_some_iff
theorem zw3:type_of% @List.pairwise_cons:=@List.pairwise_cons
theorem zw4:type_of% @Option.isSome_iff_exists:=@Option.isSome_iff_exists
theorem zw5:type_of% @Bool.and_self:=@Bool.and_self
theorem zw6:type_of% @List.getElem?_map:=@List.getElem?_map
theorem zw7:type_of% @Nat.zero_le:=@Nat.zero_le
theorem zw8:type_of% @Int.emod_nonneg:=@Int.emod_nonneg
theorem zw9:type_of% @List.drop_eq_nil_of_le:=@List.drop_eq_nil_of_le
theorem zv0:type_of% @Array.length_toList:=@Array.length_toList
theorem zv1:type_of% @List.length_eq_zero_iff:=@List.length_eq_zero_iff
theorem zv2:type_of% @List.findIdx?_eq_some_iff_getElem:=@List.findIdx?_eq_some_iff_getElem
theorem zv3:type_of% @Array.getElem?_toList:=@Array.getElem?_toList
theorem zv4:type_of% @List.length_replicate:=@List.length_replicate
theorem zv5:type_of% @List.filter_nil:=@List.filter_nil
theorem zv6:type_of% @List.take_of_length_le:=@List.take_of_length_le
theorem zv7:type_of% @Int.emod_lt_of_pos:=@Int.emod_lt_of_pos
theorem zv8:type_of% @List.drop_eq_getElem_cons:=@List.drop_eq_getElem_cons
theorem zv9:type_of% @List.length_filter_le:=@List.length_filter_le
theorem zu0:type_of% @List.mem_filter:=@List.mem_filter
theorem zu1:type_of% @Nat.le_trans:=@Nat.le_trans
theorem zu2:type_of% @List.length_nil:=@List.length_nil
theorem zu3:type_of% @Option.map_none:=@Option.map_none
theorem zu4:type_of% @Nat.add_mul:=@Nat.add_mul
end Go
namespace Go.Abs
open Go
inductive I where
 |undef | du
 |bool (b:Bool)
 |int (k:IntKind) (n:Int)
 |c7 (s:ByteArray)
 |nilp | dw | ea
 |raw (v:Value)
 |nils (sz:Nat)
 |c0 (sz:Nat)
 |slice (sz:Nat) (es:List I)
 |agg (fs:List I)
 |tuple (fs:List I)
 |ref (c:I)
 |func (f:FuncId) (caps:List I)
 |iface (t:TypeId) (v:I)
 |ptr (n:Nat) (p:List Nat)
 |own (n:Nat) (k:Nat)
 |view (n:Nat) (p:List Nat) (sz lo k:Nat)
 |mref (n:Nat)
 |dC (n:Nat)
 |cX (ks vs:List I)
 deriving Inhabited
inductive cR where
 |one
 |ep (l:List cR)
 deriving Inhabited
mutual
def cR.size:cR→Nat
 | .one=>1
 | .ep l=>cR.sizes l
def cR.sizes:List cR→Nat
 | []=>0
 |s::l=>s.size+cR.sizes l
end
mutual
def I.aQ:I→cR
 | .agg fs=>.ep (I.cS fs)
 |_=>.one
def I.cS:List I→List cR
 | []=>[]
 |f::fs=>f.aQ::I.cS fs
end
mutual
def I.size:I→Nat
 | .agg fs=>I.sizes fs
 |_=>1
def I.sizes:List I→Nat
 | []=>0
 |f::fs=>f.size+I.sizes fs
end
def I.isAgg:I→Bool
 | .agg _=>true
 |_=>false
def cR.off:cR→List Nat→Option Nat
 |_,[]=>some 0
 | .one,_::_=>none
 | .ep l,i::p=>match l[i]? with
  |some s=>(s.off p).map (cR.sizes (l.take i) + ·)
  |none=>none
def cR.part:cR→List Nat→Option cR
 |s,[]=>some s
 | .one,_::_=>none
 | .ep l,i::p=>match l[i]? with
  |some s=>s.part p
  |none=>none
def I.at:I→List Nat→Option I
 |c,[]=>some c
 | .agg fs,i::p=>match fs[i]? with
  |some f=>f.at p
  |none=>none
 |_,_::_=>none
def I.dO:I→List Nat→I→I
 |_,[],v=>v
 | .agg fs,i::p,v=>match fs[i]? with
  |some f=>.agg (fs.set i (f.dO p v))
  |none=>.agg fs
 |c,_::_,_=>c
inductive bW where
 |aA (b:Nat) (aQ:cR)
 |rw (aF:Option (Nat×Nat)) (len:Nat)
 |op (b:Nat)
 |cB (b:Nat)
 |it (b:Nat)
def bW.eX:bW→Bool
 | .rw _ _=>false
 |_=>true
def bW.le(e e':bW):Prop:=e'=e∨∃ aF l blk' l',e=.rw aF l∧e'=.rw blk' l'∧l≤l'∧(l'=l→blk'=aF)
theorem bW.le.refl(e:bW):e.le e:=.inl rfl
theorem bW.le.eq{e e':bW}(h:e.le e')(hf:e.eX=true):e'=e:=by
 rcases h with h | ⟨aF,l,blk',l',rfl,_⟩
 ·exact h
 ·cases hf
theorem bW.le.trans{a b c:bW}(h:a.le b)(k:b.le c):a.le c:=by
 rcases h with rfl | ⟨aF,l,blk',l',rfl,rfl,h1,h2⟩
 ·exact k
 ·rcases k with rfl | ⟨_,_,blk2,l2,e,rfl,h3,h4⟩
  ·exact .inr ⟨aF,l,blk',l',rfl,rfl,h1,h2⟩
  ·cases e;exact .inr ⟨aF,l,blk2,l2,rfl,rfl,by omega,fun e=>by rw[h4 (by omega),h2 (by omega)]⟩
abbrev aR:=Nat→Nat→Prop
abbrev aZ:=Nat→Option bW
def hJ(w:World)(D:aR)(b off:Nat)(cs:List Value):Prop :=
 ∀ j v,cs[j]?=some v→w.cell? ⟨b,off+j,none⟩=some v∧D b (off+j)
def qD(es:Array MapEntry)(clock:Nat):Prop:=(∀ x∈es.toList,x.born<clock)∧(es.toList.map (·.born)).Nodup
def oW(w:World)(D:aR)(b:Nat)(es:Array MapEntry)(clock:Nat):Prop:=w.heap[b]?=some (.map es clock)∧D b 0∧qD es clock
def bL(e:I)(v:Value)(cs:List Value):Prop:=if e.isAgg then v=.agg cs.toArray else cs=[v]
mutual
/-- These cells hold this value. -/
def af(w:World)(D:aR)(E:aZ):I→List Value→Prop
 | .agg fs,cs=>aI w D E fs cs
 | .bool b,cs=>cs=[.bool b]
 | .int k n,cs=>cs=[.int k n]∧k.min≤n∧n≤k.max
 | .c7 s,cs=>cs=[.string s]∧s.size≤maxLen
 | .nilp,cs=>cs=[.pointer none]
 | .dw,cs=>cs=[.nilFunc]
 | .ea,cs=>cs=[.nilIface]
 | .raw u,cs=>cs=[u]∧u.oneCell'=true
 | .nils _,cs=>cs=[.slice none 0 0]
 | .c0 _,cs=>∃ a,cs=[.slice a 0 0]
 | .slice sz es,cs=>∃ a cap,cs=[.slice a es.length cap]∧es.length≤cap∧cap≤maxLen ∧
   (es=[]∨∃ b off cs',a=some ⟨b,off,none⟩∧hJ w D b off cs'∧aI w D E es cs')∧∀ e∈es,e.size=sz
 | .ref c,cs=>∃ b off cs',cs=[.pointer (some ⟨b,off,none⟩)]∧hJ w D b off cs'∧af w D E c cs'
 | .func f caps,cs=>∃ vs:List Value,cs=[.func (.func f) #[] vs.toArray]∧aH w D E caps vs
 | .iface t v,cs=>∃ u cs',cs=[.iface t u]∧bL v u cs'∧af w D E v cs'
 | .ptr n p,cs=>∃ b aQ off,E n=some (.aA b aQ)∧aQ.off p=some off∧cs=[.pointer (some ⟨b,off,none⟩)]
 | .own n k,cs=>∃ aF l,E n=some (.rw aF l)∧k≤l∧(∃ a m c,cs=[.slice a m c]) ∧
   (k=l→match aF with | none=>cs=[.slice none 0 0] | some (b,cap)=>cs=[.slice (some ⟨b,0,none⟩) k cap])
 | .view n p sz lo k,cs=>∃ b aQ off l,E n=some (.aA b aQ)∧aQ.off p=some off∧aQ.part p=some (.ep l)∧cs=[.slice (some ⟨b,off+lo*sz,none⟩) k (l.length-lo)]∧l.length≤maxLen∧lo+k≤l.length∧∀ s∈l,s.size=sz
 | .mref n,cs=>∃ b,E n=some (.cB b)∧cs=[.map (some b)]
 | .dC n,cs=>∃ b,E n=some (.it b)∧cs=[.pointer (some ⟨b,0,none⟩)]
 | .cX ks vs,cs=>∃ b es clock,cs=[.map (some b)]∧oW w D b es clock∧aH w D E ks (es.toList.map (·.key))∧aH w D E vs (es.toList.map (·.val))
 | .undef,_ | .du,_ | .tuple _,_=>False
def aI(w:World)(D:aR)(E:aZ):List I→List Value→Prop
 | [],cs=>cs=[]
 |e::es,cs=>∃ c1 c2,cs=c1++c2∧af w D E e c1∧aI w D E es c2
def aH(w:World)(D:aR)(E:aZ):List I→List Value→Prop
 | [],vs=>vs=[]
 |e::es,vs=>∃ v rest cs,vs=v::rest∧bL e v cs∧af w D E e cs∧aH w D E es rest
end
def aY(w:World)(D:aR)(E:aZ)(x:I)(v:Value):Prop :=
 match x with
 | .undef=>v=undef
 | .du=>True
 | .tuple fs=>∃ vs:List Value,v=.tuple vs.toArray∧aH w D E fs vs
 |x=>∃ cs,bL x v cs∧af w D E x cs
structure dX (w:World) (D:aR) (E:aZ) (w':World) (D':aR) (E':aZ):Prop where
 df:∀ b o,D b o→D' b o
 cell:∀ b o v,D b o→w.cell? ⟨b,o,none⟩=some v→w'.cell? ⟨b,o,none⟩=some v
 aA:∀ n b aQ,E n=some (.aA b aQ)→E' n=some (.aA b aQ)
 rw:∀ n aF l,E n=some (.rw aF l)→∃ blk' l',E' n=some (.rw blk' l')∧l≤l'∧(l'=l→blk'=aF)
 cB:∀ n b,E n=some (.cB b)→E' n=some (.cB b)
 it:∀ n b,E n=some (.it b)→E' n=some (.it b)
 jL:∀ b es ck,D b 0→w.heap[b]?=some (.map es ck)→w'.heap[b]?=some (.map es ck)
structure iL (w:World) (D:aR) (w':World):Prop where
 cell:∀ b o v,D b o→w.cell? ⟨b,o,none⟩=some v→w'.cell? ⟨b,o,none⟩=some v
 jL:∀ b es ck,D b 0→w.heap[b]?=some (.map es ck)→w'.heap[b]?=some (.map es ck)
theorem iL.refl(w:World)(D:aR):iL w D w:=⟨fun _ _ _ _ h=>h,fun _ _ _ _ h=>h⟩
theorem iL.trans{w w' w'':World}{D D':aR}(h:iL w D w')(hD:∀ b o,D b o→D' b o)(k:iL w' D' w''):iL w D w'' :=
 ⟨fun b o v hd hv=>k.cell b o v (hD b o hd) (h.cell b o v hd hv),fun b es ck hd hm=>k.jL b es ck (hD b 0 hd) (h.jL b es ck hd hm)⟩
theorem dX.fQ{w w':World}{D D':aR}{E E':aZ}(h:dX w D E w' D' E'):iL w D w':=⟨h.cell,h.jL⟩
theorem oW.bN{w w':World}{D D':aR}{E E':aZ}(h:dX w D E w' D' E'){b:Nat}{es:Array MapEntry}{clock:Nat}(hr:oW w D b es clock):oW w' D' b es clock :=
 ⟨h.jL _ _ _ hr.2.1 hr.1,h.df _ _ hr.2.1,hr.2.2⟩
theorem hJ.bN{w w':World}{D D':aR}{E E':aZ}(h:dX w D E w' D' E'){b off:Nat}{cs:List Value}(hr:hJ w D b off cs):hJ w' D' b off cs :=
 fun j v hj=>⟨h.cell _ _ _ (hr j v hj).2 (hr j v hj).1,h.df _ _ (hr j v hj).2⟩
mutual
theorem af.bN{w w':World}{D D':aR}{E E':aZ}(h:dX w D E w' D' E'):∀ (x:I) (cs:List Value),af w D E x cs→af w' D' E' x cs
 | .agg fs,cs,hr=>by simp only[af] at *;exact aI.bN h fs cs hr
 | .bool b,cs,hr=>by simpa only[af] using hr
 | .int k n,cs,hr=>by simpa only[af] using hr
 | .c7 s,cs,hr=>by simpa only[af] using hr
 | .nilp,cs,hr=>by simpa only[af] using hr
 | .dw,cs,hr=>by simpa only[af] using hr
 | .ea,cs,hr=>by simpa only[af] using hr
 | .raw _,cs,hr=>by simpa only[af] using hr
 | .nils _,cs,hr=>by simpa only[af] using hr
 | .c0 _,cs,hr=>by simpa only[af] using hr
 | .slice sz es,cs,hr=>by
  simp only[af] at *;obtain ⟨a,cap,h1,h2,h3,h4,h5⟩:=hr;refine ⟨a,cap,h1,h2,h3,?_,h5⟩;rcases h4 with h4 | ⟨b,off,cs',h6,h7,h8⟩
  ·exact .inl h4
  ·exact .inr ⟨b,off,cs',h6,h7.bN h,aI.bN h es cs' h8⟩
 | .ref c,cs,hr=>by
  simp only[af] at *;obtain ⟨b,off,cs',h1,h2,h3⟩:=hr;exact ⟨b,off,cs',h1,h2.bN h,af.bN h c cs' h3⟩
 | .func f caps,cs,hr=>by
  simp only[af] at *;obtain ⟨vs,h1,h2⟩:=hr;exact ⟨vs,h1,aH.bN h caps vs h2⟩
 | .iface t v,cs,hr=>by
  simp only[af] at *;obtain ⟨u,cs',h1,h2,h3⟩:=hr;exact ⟨u,cs',h1,h2,af.bN h v cs' h3⟩
 | .ptr n p,cs,hr=>by
  simp only[af] at *;obtain ⟨b,aQ,off,h1,h2,h3⟩:=hr;exact ⟨b,aQ,off,h.aA _ _ _ h1,h2,h3⟩
 | .own n k,cs,hr=>by
  simp only[af] at *;obtain ⟨aF,l,h1,h2,h3,h4⟩:=hr;obtain ⟨blk',l',h5,h6,h7⟩:=h.rw _ _ _ h1;refine ⟨blk',l',h5,zu1 h2 h6,h3,fun e =>?_⟩;have e1:l'=l:=by omega
  rw[h7 e1];exact h4 (by omega)
 | .view n p _ _ _,cs,hr=>by
  simp only[af] at *;obtain ⟨b,aQ,off,l,h1,h2⟩:=hr;exact ⟨b,aQ,off,l,h.aA _ _ _ h1,h2⟩
 | .mref n,cs,hr=>by
  simp only[af] at *;obtain ⟨b,h1,h2⟩:=hr;exact ⟨b,h.cB _ _ h1,h2⟩
 | .dC n,cs,hr=>by
  simp only[af] at *;obtain ⟨b,h1,h2⟩:=hr;exact ⟨b,h.it _ _ h1,h2⟩
 | .cX ks vs,cs,hr=>by
  simp only[af] at *;obtain ⟨b,es,clock,h1,h2,h3,h4⟩:=hr;exact ⟨b,es,clock,h1,h2.bN h,aH.bN h ks _ h3,aH.bN h vs _ h4⟩
 | .undef,_,hr=>by simp only[af] at hr
 | .du,_,hr=>by simp only[af] at hr
 | .tuple _,_,hr=>by simp only[af] at hr
theorem aI.bN{w w':World}{D D':aR}{E E':aZ}(h:dX w D E w' D' E'):∀ (xs:List I) (cs:List Value),aI w D E xs cs→aI w' D' E' xs cs
 | [],cs,hr=>by simpa only[aI] using hr
 |x::xs,cs,hr=>by
  simp only[aI] at *;obtain ⟨c1,c2,h1,h2,h3⟩:=hr;exact ⟨c1,c2,h1,af.bN h x c1 h2,aI.bN h xs c2 h3⟩
theorem aH.bN{w w':World}{D D':aR}{E E':aZ}(h:dX w D E w' D' E'):∀ (xs:List I) (vs:List Value),aH w D E xs vs→aH w' D' E' xs vs
 | [],vs,hr=>by simpa only[aH] using hr
 |x::xs,vs,hr=>by
  simp only[aH] at *;obtain ⟨v,rest,cs,h1,h2,h3,h4⟩:=hr;exact ⟨v,rest,cs,h1,h2,af.bN h x cs h3,aH.bN h xs rest h4⟩
end
theorem aY.bN{w w':World}{D D':aR}{E E':aZ}(h:dX w D E w' D' E'){x:I}{v:Value}(hr:aY w D E x v):aY w' D' E' x v:=by
 cases x <;>simp only[aY] at * <;>first
  |exact hr
  |(obtain ⟨vs,h1,h2⟩:=hr;exact ⟨vs,h1,aH.bN h _ _ h2⟩)
  |(obtain ⟨cs,h1,h2⟩:=hr;exact ⟨cs,h1,af.bN h _ _ h2⟩)
mutual
theorem I.mA:∀ x:I,x.aQ.size=x.size
 | .agg fs=>by simp only[I.aQ,I.size,cR.size];exact I.nw fs
 | .undef | .du | .bool _ | .int _ _ | .c7 _ | .nilp | .dw | .ea | .raw _ | .nils _ | .c0 _ | .slice _ _ | .tuple _ | .ref _ | .func _ _ | .iface _ _ | .ptr _ _ | .own _ _ | .view _ _ _ _ _ | .mref _ | .dC _ | .cX _ _=>by simp only[I.aQ,I.size,cR.size]
theorem I.nw:∀ xs:List I,cR.sizes (I.cS xs)=I.sizes xs
 | []=>by simp only[I.cS,I.sizes,cR.sizes]
 |x::xs=>by simp only[I.cS,I.sizes,cR.sizes];rw[I.mA x,I.nw xs]
end
mutual
theorem af.length{w:World}{D:aR}{E:aZ} : ∀ (x:I) (cs:List Value),af w D E x cs→cs.length=x.size
 | .agg fs,cs,hr=>by simp only[af,I.size] at *;exact aI.length fs cs hr
 | .bool b,cs,hr=>by simp only[af] at hr;simp[hr,I.size]
 | .int k n,cs,hr=>by simp only[af] at hr;simp[hr.1,I.size]
 | .c7 s,cs,hr=>by simp only[af] at hr;simp[hr.1,I.size]
 | .nilp,cs,hr=>by simp only[af] at hr;simp[hr,I.size]
 | .dw,cs,hr=>by simp only[af] at hr;simp[hr,I.size]
 | .ea,cs,hr=>by simp only[af] at hr;simp[hr,I.size]
 | .raw u,cs,hr=>by simp only[af] at hr;simp[hr.1,I.size]
 | .nils _,cs,hr=>by simp only[af] at hr;simp[hr,I.size]
 | .c0 _,cs,hr=>by simp only[af] at hr;obtain ⟨a,rfl⟩:=hr;simp[I.size]
 | .slice sz es,cs,hr=>by simp only[af] at hr;obtain ⟨a,cap,rfl,_⟩:=hr;simp[I.size]
 | .ref c,cs,hr=>by simp only[af] at hr;obtain ⟨b,off,cs',rfl,_⟩:=hr;simp[I.size]
 | .func f caps,cs,hr=>by simp only[af] at hr;obtain ⟨vs,rfl,_⟩:=hr;simp[I.size]
 | .iface t v,cs,hr=>by simp only[af] at hr;obtain ⟨u,cs',rfl,_⟩:=hr;simp[I.size]
 | .ptr n p,cs,hr=>by simp only[af] at hr;obtain ⟨b,aQ,off,_,_,rfl⟩:=hr;simp[I.size]
 | .own n k,cs,hr=>by simp only[af] at hr;obtain ⟨aF,l,_,_,⟨a,m,c,rfl⟩,_⟩:=hr;simp[I.size]
 | .view n p _ _ _,cs,hr=>by simp only[af] at hr;obtain ⟨b,aQ,off,l,_,_,_,rfl,_⟩:=hr;simp[I.size]
 | .mref n,cs,hr=>by simp only[af] at hr;obtain ⟨b,_,rfl⟩:=hr;simp[I.size]
 | .dC n,cs,hr=>by simp only[af] at hr;obtain ⟨b,_,rfl⟩:=hr;simp[I.size]
 | .cX ks vs,cs,hr=>by simp only[af] at hr;obtain ⟨b,es,ck,rfl,_⟩:=hr;simp[I.size]
 | .undef,_,hr=>by simp only[af] at hr
 | .du,_,hr=>by simp only[af] at hr
 | .tuple _,_,hr=>by simp only[af] at hr
theorem aI.length{w:World}{D:aR}{E:aZ} : ∀ (xs:List I) (cs:List Value),aI w D E xs cs→cs.length=I.sizes xs
 | [],cs,hr=>by simp only[aI] at hr;simp[hr,I.sizes]
 |x::xs,cs,hr=>by
  simp only[aI] at hr;obtain ⟨c1,c2,rfl,h1,h2⟩:=hr;simp only[zz3,I.sizes,af.length x c1 h1,aI.length xs c2 h2]
end
mutual
theorem af.nd{w:World}{D:aR}{E:aZ} : ∀ (x:I) (cs:List Value),af w D E x cs→∀ v∈cs,v.oneCell'=true
 | .agg fs,cs,hr=>by simp only[af] at hr;exact aI.nd fs cs hr
 | .bool b,cs,hr=>by simp only[af] at hr;simp[hr,Value.oneCell']
 | .int k n,cs,hr=>by simp only[af] at hr;simp[hr.1,Value.oneCell']
 | .c7 s,cs,hr=>by simp only[af] at hr;simp[hr.1,Value.oneCell']
 | .nilp,cs,hr=>by simp only[af] at hr;simp[hr,Value.oneCell']
 | .dw,cs,hr=>by simp only[af] at hr;simp[hr,Value.oneCell']
 | .ea,cs,hr=>by simp only[af] at hr;simp[hr,Value.oneCell']
 | .raw u,cs,hr=>by simp only[af] at hr;simpa[hr.1] using hr.2
 | .nils _,cs,hr=>by simp only[af] at hr;simp[hr,Value.oneCell']
 | .c0 _,cs,hr=>by simp only[af] at hr;obtain ⟨a,rfl⟩:=hr;simp[Value.oneCell']
 | .slice sz es,cs,hr=>by simp only[af] at hr;obtain ⟨a,cap,rfl,_⟩:=hr;simp[Value.oneCell']
 | .ref c,cs,hr=>by simp only[af] at hr;obtain ⟨b,off,cs',rfl,_⟩:=hr;simp[Value.oneCell']
 | .func f caps,cs,hr=>by simp only[af] at hr;obtain ⟨vs,rfl,_⟩:=hr;simp[Value.oneCell']
 | .iface t v,cs,hr=>by simp only[af] at hr;obtain ⟨u,cs',rfl,_⟩:=hr;simp[Value.oneCell']
 | .ptr n p,cs,hr=>by simp only[af] at hr;obtain ⟨b,aQ,off,_,_,rfl⟩:=hr;simp[Value.oneCell']
 | .own n k,cs,hr=>by simp only[af] at hr;obtain ⟨aF,l,_,_,⟨a,m,c,rfl⟩,_⟩:=hr;simp[Value.oneCell']
 | .view n p _ _ _,cs,hr=>by simp only[af] at hr;obtain ⟨b,aQ,off,l,_,_,_,rfl,_⟩:=hr;simp[Value.oneCell']
 | .mref n,cs,hr=>by simp only[af] at hr;obtain ⟨b,_,rfl⟩:=hr;simp[Value.oneCell']
 | .dC n,cs,hr=>by simp only[af] at hr;obtain ⟨b,_,rfl⟩:=hr;simp[Value.oneCell']
 | .cX ks vs,cs,hr=>by simp only[af] at hr;obtain ⟨b,es,ck,rfl,_⟩:=hr;simp[Value.oneCell']
 | .undef,_,hr=>by simp only[af] at hr
 | .du,_,hr=>by simp only[af] at hr
 | .tuple _,_,hr=>by simp only[af] at hr
theorem aI.nd{w:World}{D:aR}{E:aZ} : ∀ (xs:List I) (cs:List Value),aI w D E xs cs→∀ v∈cs,v.oneCell'=true
 | [],cs,hr=>by simp only[aI] at hr;simp[hr]
 |x::xs,cs,hr=>by
  simp only[aI] at hr;obtain ⟨c1,c2,rfl,h1,h2⟩:=hr;intro v hv;rcases zy4.1 hv with h | h
  ·exact af.nd x c1 h1 v h
  ·exact aI.nd xs c2 h2 v h
end
theorem bL.cells{x:I}{v:Value}{cs:List Value}{w:World}{D:aR}{E:aZ}(h:bL x v cs)(hr:af w D E x cs):v.cells.toList=cs:=by
 unfold bL at h;split at h
 ·rw[h];simp[Value.cells]
 ·subst h;have:=af.nd x _ hr v (by simp);cases v <;>simp[Value.cells,Value.oneCell'] at *
theorem ni{w:World}{D:aR}{E:aZ} : ∀ (xs:List I) (cs:List Value) (i:Nat) (x:I),aI w D E xs cs→xs[i]?=some x →
  ∃ c1 c2 c3,cs=c1++c2++c3∧c1.length=I.sizes (xs.take i)∧aI w D E (xs.take i) c1∧af w D E x c2∧aI w D E (xs.drop (i+1)) c3
 | [],_,i,x,_,h=>by simp at h
 |y::ys,cs,0,x,hr,h=>by
  simp only[List.getElem?_cons_zero,u8] at h;subst h;simp only[aI] at hr;obtain ⟨c1,c2,rfl,h1,h2⟩:=hr;exact ⟨[],c1,c2,by simp,by simp[I.sizes],by simp[aI],h1,by simpa using h2⟩
 |y::ys,cs,i+1,x,hr,h=>by
  simp only[List.getElem?_cons_succ] at h;simp only[aI] at hr;obtain ⟨c0,c',rfl,h1,h2⟩:=hr;obtain ⟨c1,c2,c3,rfl,h3,h4,h5,h6⟩:=ni ys c' i x h2 h;refine ⟨c0++c1,c2,c3,by simp,?_,?_,h5,by simpa using h6⟩
  ·simp only[zz3,List.take_succ_cons,I.sizes,h3,af.length y c0 h1]
  ·simp only[List.take_succ_cons,aI];exact ⟨c0,c1,rfl,h1,h4⟩
theorem kG{w:World}{D:aR}{E:aZ} : ∀ (xs ys:List I) (cs ds:List Value),aI w D E xs cs→aI w D E ys ds→aI w D E (xs++ys) (cs++ds)
 | [],ys,cs,ds,h,k=>by simp only[aI] at h;subst h;simpa using k
 |x::xs,ys,cs,ds,h,k=>by
  simp only[aI,zy0] at *;obtain ⟨c1,c2,rfl,h1,h2⟩:=h;exact ⟨c1,c2++ds,by simp,h1,kG xs ys c2 ds h2 k⟩
theorem I.jd{sz:Nat} : ∀ (xs:List I),(∀ x∈xs,x.size=sz)→I.sizes xs=xs.length*sz
 | [],_=>by simp[I.sizes]
 |x::xs,h=>by
  simp only[I.sizes,List.length_cons];rw[h x (by simp),I.jd xs (fun y hy=>h y (by simp[hy])),zu4];omega
theorem I.dB:∀ xs:List I,I.cS xs=xs.map I.aQ
 | []=>by simp[I.cS]
 |x::xs=>by simp[I.cS,I.dB xs]
theorem y9{w:World}{D:aR}{E:aZ} : ∀ (p:List Nat) (c x:I) (cs:List Value),af w D E c cs→c.at p=some x →
  ∃ off c1 c2 c3,c.aQ.off p=some off∧cs=c1++c2++c3∧c1.length=off∧af w D E x c2
 | [],c,x,cs,hr,h=>by
  simp only[I.at,u8] at h;subst h;exact ⟨0,[],cs,[],by cases c.aQ <;>simp[cR.off],by simp,rfl,hr⟩
 |i::p,.agg fs,x,cs,hr,h=>by
  simp only[I.at] at h;simp only[af] at hr;cases hf:fs[i]? with
  |none=>simp[hf] at h
  |some f =>
   simp only[hf] at h;obtain ⟨c1,c2,c3,rfl,h1,_,h3,_⟩:=ni fs cs i f hr hf;obtain ⟨off,d1,d2,d3,h4,rfl,h6,h7⟩:=y9 p f x c2 h3 h;refine ⟨I.sizes (fs.take i)+off,c1++d1,d2,d3++c3,?_,by simp,by simp[h1,h6],h7⟩;simp only[I.aQ,cR.off,I.dB,zw6,hf,zy5,h4];rw[←List.map_take,←I.dB,I.nw]
 |_::_,.undef,_,_,_,h | _::_,.du,_,_,_,h | _::_,.bool _,_,_,_,h | _::_,.int _ _,_,_,_,h | _::_,.c7 _,_,_,_,h | _::_,.nilp,_,_,_,h
 |_::_,.dw,_,_,_,h | _::_,.ea,_,_,_,h | _::_,.raw _,_,_,_,h | _::_,.nils _,_,_,_,h | _::_,.c0 _,_,_,_,h | _::_,.slice _ _,_,_,_,h | _::_,.tuple _,_,_,_,h
 |_::_,.ref _,_,_,_,h | _::_,.func _ _,_,_,_,h | _::_,.iface _ _,_,_,_,h | _::_,.ptr _ _,_,_,_,h | _::_,.own _ _,_,_,_,h | _::_,.view _ _ _ _ _,_,_,_,h | _::_,.mref _,_,_,_,h | _::_,.dC _,_,_,_,h | _::_,.cX _ _,_,_,_,h=>by simp[I.at] at h
theorem ur{w:World}{D:aR}{E:aZ} : ∀ (p:List Nat) (c x y:I) (cs ds:List Value),af w D E c cs→c.at p=some x→af w D E y ds→y.aQ=x.aQ →
  ∃ off,c.aQ.off p=some off∧off+ds.length≤cs.length∧af w D E (c.dO p y) (cs.take off++ds++cs.drop (off+ds.length))∧(c.dO p y).aQ=c.aQ
 | [],c,x,y,cs,ds,hr,h,hy,hs=>by
  simp only[I.at,u8] at h;subst h;have hl:ds.length=cs.length:=by rw[af.length _ _ hy,af.length _ _ hr,←I.mA,←I.mA,hs]
  refine ⟨0,by cases c.aQ <;>simp[cR.off],by omega,?_,by simpa[I.dO] using hs⟩;simpa[I.dO,hl] using hy
 |i::p,.agg fs,x,y,cs,ds,hr,h,hy,hs=>by
  simp only[I.at] at h;simp only[af] at hr;cases hf:fs[i]? with
  |none=>simp[hf] at h
  |some f =>
   simp only[hf] at h;obtain ⟨c1,c2,c3,rfl,h1,h2,h3,h3'⟩:=ni fs cs i f hr hf;obtain ⟨off,h4,h5,h6,h7⟩:=ur p f x y c2 ds h3 h hy hs;have hi:i<fs.length:=(zy6.1 hf).1;have hfi:fs[i]=f:=(zy6.1 hf).2;refine ⟨I.sizes (fs.take i)+off,?_,?_,?_,?_⟩
   ·simp only[I.aQ,cR.off,I.dB,zw6,hf,zy5,h4];rw[←List.map_take,←I.dB,I.nw]
   ·simp only[zz3,h1];omega
   ·simp only[I.dO,hf,af];have e1:fs.set i (f.dO p y)=fs.take i++f.dO p y::fs.drop (i+1):=by rw[List.set_eq_take_append_cons_drop];simp[hi]
    rw[e1];have e2:(c1++c2++c3).take (I.sizes (fs.take i)+off)++ds++(c1++c2++c3).drop (I.sizes (fs.take i)+off+ds.length)=c1++((c2.take off++ds++c2.drop (off+ds.length))++c3):=by
     rw[←h1,zz5 c1 c2 c3,List.take_length_add_append,Nat.add_assoc,List.drop_length_add_append,zx8 (by omega),List.drop_append_of_le_length (by omega)];simp
    rw[e2];refine kG _ _ _ _ h2 ?_;simp only[aI];exact ⟨_,_,rfl,h6,h3'⟩
   ·simp only[I.dO,hf,I.aQ,I.dB,List.map_set,h7,cR.ep.injEq];apply List.ext_getElem?;intro k;rw[List.getElem?_set];split
    ·rename_i hk;subst hk;simp[hi,hfi]
    ·rfl
 |_::_,.undef,_,_,_,_,_,h,_,_ | _::_,.du,_,_,_,_,_,h,_,_ | _::_,.bool _,_,_,_,_,_,h,_,_ | _::_,.int _ _,_,_,_,_,_,h,_,_ | _::_,.c7 _,_,_,_,_,_,h,_,_ | _::_,.nilp,_,_,_,_,_,h,_,_
 |_::_,.dw,_,_,_,_,_,h,_,_ | _::_,.ea,_,_,_,_,_,h,_,_ | _::_,.raw _,_,_,_,_,_,h,_,_ | _::_,.nils _,_,_,_,_,_,h,_,_ | _::_,.c0 _,_,_,_,_,_,h,_,_ | _::_,.slice _ _,_,_,_,_,_,h,_,_ | _::_,.tuple _,_,_,_,_,_,h,_,_
 |_::_,.ref _,_,_,_,_,_,h,_,_ | _::_,.func _ _,_,_,_,_,_,h,_,_ | _::_,.iface _ _,_,_,_,_,_,h,_,_ | _::_,.ptr _ _,_,_,_,_,_,h,_,_ | _::_,.own _ _,_,_,_,_,_,h,_,_ | _::_,.view _ _ _ _ _,_,_,_,_,_,h,_,_ | _::_,.mref _,_,_,_,_,_,h,_,_ | _::_,.dC _,_,_,_,_,_,h,_,_ | _::_,.cX _ _,_,_,_,_,_,h,_,_=>by simp[I.at] at h
theorem nv:∀ (p:List Nat) (c x:I),c.at p=some x→c.aQ.part p=some x.aQ
 | [],c,x,h=>by simp only[I.at,u8] at h;subst h;cases c.aQ <;>rfl
 |i::p,.agg fs,x,h=>by
  simp only[I.at] at h;cases hf:fs[i]? with
  |none=>simp[hf] at h
  |some f =>
   simp only[hf] at h;simp only[I.aQ,cR.part,I.dB,zw6,hf,zy5];exact nv p f x h
 |_::_,.undef,_,h | _::_,.du,_,h | _::_,.bool _,_,h | _::_,.int _ _,_,h | _::_,.c7 _,_,h | _::_,.nilp,_,h
 |_::_,.dw,_,h | _::_,.ea,_,h | _::_,.raw _,_,h | _::_,.nils _,_,h | _::_,.c0 _,_,h | _::_,.slice _ _,_,h | _::_,.tuple _,_,h
 |_::_,.ref _,_,h | _::_,.func _ _,_,h | _::_,.iface _ _,_,h | _::_,.ptr _ _,_,h | _::_,.own _ _,_,h | _::_,.view _ _ _ _ _,_,h | _::_,.mref _,_,h | _::_,.dC _,_,h | _::_,.cX _ _,_,h=>by simp[I.at] at h
end Go.Abs
namespace Go.Abs
open Go Go.RowKit
inductive ah where
 |box (c:I)
 |bY (T:TypeId) (sz:Nat) (es:List I)
 |dU (o:Obj)
 |cB (ks vs:List I)
 |it (ks vs:List I) (left:List Nat) (cur:Option Nat)
 |cT (T:TypeId) (xs:List Int)
 deriving Inhabited
def ah.eX:ah→Bool
 | .it _ _ _ _=>false
 |_=>true
structure ae where
 t:Nat→I
 o:Nat→Option ah
def ae.put(A:ae)(d:Nat)(v:I):ae:=⟨fun k=>if k=d then v else A.t k,A.o⟩
def ae.aP(A:ae)(d:Option Nat)(v:I):ae:=match d with | some d=>A.put d v | none=>A
def ae.aS(A:ae)(n:Nat)(x:ah):ae:=⟨A.t,fun k=>if k=n then some x else A.o k⟩
def b7:List (Nat×I)→Nat→I
 | [],_=>.du
 |(k,v)::r,t=>if t=k then v else b7 r t
def aj:List (Nat×ah)→Nat→Option ah
 | [],_=>none
 |(k,v)::r,t=>if t=k then some v else aj r t
def au(ts:List (Nat×I))(os:List (Nat×ah)):ae:=⟨b7 ts,aj os⟩
def al(os:List (Nat×ah))(n:Nat):Bool:=(aj os n).isSome
abbrev cO:=I→List (Nat×ah)→Prop
structure cU where
 P:Program
 fo:World
 D0:aR
 n:Nat
 own:Nat→Prop
 dS:aZ
 Y:Value→List I→List (Nat×ah)→cO→Prop
 kH:Option Nat
def iV:Value→List I→List (Nat×ah)→cO→Prop:=fun _ _ _ _=>False
def cU.bp(c:cU):Fence:=match c.kH with
 |none=>Fence.wide
 |some l=>Fence.wide.inRound l
def cU.fq(c:cU)(b:Nat):Prop:=c.fo.heap.size≤b∨c.own b
structure fU (M:Nat→Prop) (w w':World):Prop where
 os:w'.os=w.os
 tape:w'.tape=w.tape
 output:w'.output=w.output
 size:w.heap.size≤w'.heap.size
 block:∀ k,¬ M k→w'.heap[k]?=w.heap[k]?
theorem fU.refl(M:Nat→Prop)(w:World):fU M w w:=⟨rfl,rfl,rfl,zz7 _,fun _ _=>rfl⟩
theorem fU.trans{M:Nat→Prop}{a b c:World}(h:fU M a b)(k:fU M b c):fU M a c :=
 ⟨k.os.trans h.os,k.tape.trans h.tape,k.output.trans h.output,zu1 h.size k.size,fun i hi=>(k.block i hi).trans (h.block i hi)⟩
theorem fU.grow{M:Nat→Prop}{w w':World}{B:Nat}(h:Below B w w')(hB:∀ k,B≤k→M k):fU M w w' :=
 ⟨h.os,h.tape,h.output,h.size,fun k hk=>h.block k (Nat.lt_of_not_le fun hle=>hk (hB k hle))⟩
theorem fU.R5{M:Nat→Prop}{w w':World}{B:Nat}(h:fU M w w')(hB:∀ k,k<B→¬ M k):Below B w w' :=
 ⟨h.os,h.tape,h.output,h.size,fun k hk=>h.block k (hB k hk)⟩
def bW.aF:bW→Option Nat
 | .aA b _=>some b
 | .rw (some (b,_)) _=>some b
 | .rw none _=>none
 | .op b=>some b
 | .cB b=>some b
 | .it b=>some b
def bW.eE:bW→Bool
 | .op _ | .cB _ | .it _=>true
 |_=>false
def p5:Obj→Bool
 | .loop _=>true
 |_=>false
def yw:Obj→Bool
 | .deferred _=>false
 |_=>true
theorem akm{o:Obj}(h:p5 o=true):yw o=true:=by cases o <;>first | rfl | cases h
def oR(es:Array MapEntry)(b9:Array Nat):List Nat:=(List.range es.size).filter fun i=>match es[i]? with
 |some e => !b9.contains e.born
 |none=>false
def dc(M:Nat→Prop)(w:World)(D:aR)(E:aZ)(n:Nat):Option ah→Prop
 |none=>E n=none
 |some (.box x)=>∃ b cs T,E n=some (.aA b x.aQ)∧M b∧w.heap[b]?=some (.cells cs T (0,0))∧af w D E x cs.toList∧∀ o,¬ D b o
 |some (.bY T sz es)=>∃ aF,E n=some (.rw aF es.length)∧(∀ e∈es,e.size=sz)∧match aF with
  |none=>es=[]
  |some (b,cap)=>∃ cs pre rest,M b∧w.heap[b]?=some (.cells cs T (0,0))∧cs.toList=pre++rest∧aI w D E es pre ∧
    cs.size=cap*sz∧es.length≤cap∧cap≤maxLen∧∀ o,D b o→o<pre.length
 |some (.dU x)=>∃ b,E n=some (.op b)∧M b∧w.heap[b]?=some x∧p5 x=true∧∀ o,¬ D b o
 |some (.cB ks vs)=>∃ b es clock,E n=some (.cB b)∧M b∧w.heap[b]?=some (.map es clock)∧qD es clock∧aH w D E ks (es.toList.map (·.key))∧aH w D E vs (es.toList.map (·.val))∧∀ o,¬ D b o
 |some (.it ks vs left cur)=>∃ r b es clock since b9 last,E n=some (.it r)∧M r∧w.heap[r]?=some (.mapIter (some b) since b9 last)∧oW w D b es clock∧aH w D E ks (es.toList.map (·.key))∧aH w D E vs (es.toList.map (·.val)) ∧
   (∀ x∈es.toList,x.born<since)∧(since≤last∧since≤clock)∧left=oR es b9∧(∀ i,cur=some i→∃ e,es[i]?=some e∧b9.back?=some e.born∧last=clock)∧∀ o,¬ D r o
 |some (.cT T xs)=>∃ aF,E n=some (.rw aF xs.length)∧(∀ x∈xs,IntKind.i64.min≤x∧x≤IntKind.i64.max)∧match aF with
  |none=>xs=[]
  |some (b,cap)=>∃ cs m,M b∧w.heap[b]?=some (.cells cs T (0,0))∧cs.toList=(xs++List.replicate m 0).map (Value.int .i64)∧xs≠[]∧xs.length+m=cap∧cap≤maxLen∧∀ o,¬ D b o
def dD(E:aZ)(b:Nat):Prop:=∃ n e,E n=some e∧e.aF=some b
structure lE (M:Nat→Prop) (w:World) (D:aR) (E:aZ) (o:Nat→Option ah):Prop where
 bS:∀ n,dc M w D E n (o n)
 cZ:∀ n m e e' b,E n=some e→E m=some e'→e.aF=some b→e'.aF=some b→n=m
def qL(run:Array Value→World→(Ending→World→Prop)→Prop)(since:World→aR→aZ→Prop)(args:List I)(os:List (Nat×ah))(post:cO):Prop :=
 ∀ (w:World) (D:aR) (E:aZ) (vs:List Value),since w D E→(∀ b o,D b o→b<w.heap.size)→lE (fun _=>True) w D E (aj os)→aH w D E args vs →
  run vs.toArray w fun e w'=>∃ v D' E' r os',e=.returned v∧post r os'∧aY w' D' E' r v∧lE (fun b=>w.heap.size≤b∨dD E b) w' D' E' (aj os') ∧
   fU (fun b=>w.heap.size≤b∨dD E b) w w'∧(∀ b o,D b o→D' b o)∧(∀ b o,D' b o→b<w'.heap.size)∧(∀ b o,D' b o→b<w.heap.size→¬ dD E b→D b o) ∧
   (∀ n e,E n=some e→al os' n=true→∃ e',E' n=some e'∧e.le e')∧iL w D w'
structure AE (c:cU) (w:World) (D:aR) (E:aZ):Prop where
 eb:fU c.fq c.fo w
 cM:∀ b o,c.D0 b o→D b o
 df:∀ b o,D b o→¬ c.fq b→c.D0 b o
 ed:∀ n e,c.dS n=some e→E n=none∨∃ e',E n=some e'∧e.le e'
 fQ:iL c.fo c.D0 w
def sF(P:Program)(v:Value)(vs:Array Value)(w:World)(R:Ending→World→Prop):Prop :=
 ∃ l,v=.func (.yield l) #[] #[]∧YieldAt Fence.wide 9 P l vs w R
def pC(c:cU):Prop:=∀ v args os post,c.Y v args os post→qL (sF c.P v) (AE c) args os post
def bU(fo:World)(ds:List Deferred)(w:World):Prop :=
 ∃ Bs:List Nat,ds=Bs.map (fun B => { target:=.collected B,args := #[] })∧Bs.Nodup∧∀ B∈Bs,fo.heap.size≤B∧w.heap[B]?=some (.deferred (some []))
theorem bU.mono{fo w w':World}{ds:List Deferred}(h:bU fo ds w)(hk:∀ B,fo.heap.size≤B→w.heap[B]?=some (.deferred (some []))→w'.heap[B]?=some (.deferred (some []))):bU fo ds w':=by
 obtain ⟨Bs,h1,h2,h3⟩:=h;exact ⟨Bs,h1,h2,fun B hB=>⟨(h3 B hB).1,hk B (h3 B hB).1 (h3 B hB).2⟩⟩
theorem bU.grow{fo w w':World}{ds:List Deferred}(h:bU fo ds w)(hk:Below w.heap.size w w'):bU fo ds w' :=
 h.mono fun B _ hB=>(hk.block B (zw2.1 hB).1).trans hB
structure aX (c:cU) (A:ae) (a:Act) (w:World) (D:aR) (E:aZ):Prop where
 sz:a.tmps.size=c.n
 e8:bU c.fo a.defers w
 eA:∀ t,aY w D E (A.t t) (a.tmps.getD t undef)
 eb:fU c.fq c.fo w
 df:∀ b o,D b o→¬ c.fq b→c.D0 b o
 dv:∀ b o,D b o→b<w.heap.size
 bS:∀ n,dc c.fq w D E n (A.o n)
 cZ:∀ n m e e' b,E n=some e→E m=some e'→e.aF=some b→e'.aF=some b→n=m
 ed:∀ n e,c.dS n=some e→E n=none∨∃ e',E n=some e'∧e.le e'
 fj:∀ n,c.dS n≠none→c.n≤n∧1000000≤n
 cM:∀ b o,c.D0 b o→D b o
 fp:pC c
 fQ:iL c.fo c.D0 w
def cA(c:cU)(A:ae)(a:Act)(w:World):Prop:=∃ D E,aX c A a w D E
section
variable {c:cU} {A:ae} {a:Act} {w:World} {D:aR} {E:aZ}
theorem aX.lA(h:aX c A a w D E){w':World}{D':aR}{E':aZ}(hl:dX w D E w' D' E'):iL c.fo c.D0 w':=h.fQ.trans h.cM hl.fQ
theorem aX.EC(h:aX c A a w D E){n:Nat}{e:bW}(hn:c.dS n=some e)(hf:e.eX=true):E n=none∨E n=some e:=by
 rcases h.ed n e hn with k | ⟨e',k,hle⟩
 ·exact .inl k
 ·rw[hle.eq hf] at k;exact .inr k
theorem tX{M:Nat→Prop}{n:Nat}{x:ah}(h:dc M w D E n (some x)):E n≠none:=by
 cases x with
 |box x=>obtain ⟨b,cs,T,h1,_⟩:=h;rw[h1];simp
 |bY T sz es=>obtain ⟨aF,h1,_⟩:=h;rw[h1];simp
 |dU o=>obtain ⟨b,h1,_⟩:=h;rw[h1];simp
 |cB ks vs=>obtain ⟨b,es,ck,h1,_⟩:=h;rw[h1];simp
 |it ks vs left=>obtain ⟨r,b,es,ck,si,se,la,h1,_⟩:=h;rw[h1];simp
 |cT T xs=>obtain ⟨aF,h1,_⟩:=h;rw[h1];simp
theorem gj{w:World}{b:Nat}{o:Obj}(h:w.heap[b]?=some o):b<w.heap.size:=(zw2.1 h).1
theorem aX.gh(h:aX c A a w D E){n:Nat}{e:bW}{b:Nat}(he:E n=some e)(hb:e.aF=some b):b<w.heap.size:=by
 have:=h.bS n;unfold dc at this;split at this
 ·simp[this] at he
 ·obtain ⟨b',cs,T,h1,h2,h3,_⟩:=this;rw[h1,u8] at he;subst he;simp only[bW.aF,u8] at hb;subst hb;exact gj h3
 ·obtain ⟨aF,h1,h2,h3⟩:=this;rw[h1,u8] at he;subst he;split at h3
  ·simp[bW.aF] at hb
  ·obtain ⟨cs,pre,rest,h4,h5,_⟩:=h3;simp only[bW.aF,u8] at hb;subst hb;exact gj h5
 ·obtain ⟨b',h1,h2,h3,_⟩:=this;rw[h1,u8] at he;subst he;simp only[bW.aF,u8] at hb;subst hb;exact gj h3
 ·obtain ⟨b',es,ck,h1,h2,h3,_⟩:=this;rw[h1,u8] at he;subst he;simp only[bW.aF,u8] at hb;subst hb;exact gj h3
 ·obtain ⟨r,b',es,ck,si,se,la,h1,h2,h3,_⟩:=this;rw[h1,u8] at he;subst he;simp only[bW.aF,u8] at hb;subst hb;exact gj h3
 ·obtain ⟨aF,h1,h2,h3⟩:=this;rw[h1,u8] at he;subst he;split at h3
  ·simp[bW.aF] at hb
  ·obtain ⟨cs,m,h4,h5,_⟩:=h3;simp only[bW.aF,u8] at hb;subst hb;exact gj h5
theorem aX.yR(h:aX c A a w D E){n b:Nat}{e:bW}(he:E n=some e)(ho:e.eE=true)(hb:e.aF=some b):∀ o,¬ D b o:=by
 have:=h.bS n;unfold dc at this;split at this
 ·rw[this] at he;cases he
 ·obtain ⟨b',cs,T,h1,_⟩:=this;rw[h1] at he;cases he;cases ho
 ·obtain ⟨aF,h1,_⟩:=this;rw[h1] at he;cases he;cases ho
 ·obtain ⟨b',h1,_,_,_,h5⟩:=this;rw[h1] at he;cases he;cases hb;exact h5
 ·obtain ⟨b',es,ck,h1,_,_,_,_,_,h5⟩:=this;rw[h1] at he;cases he;cases hb;exact h5
 ·obtain ⟨r,b',es,ck,si,se,la,h1,_,_,_,_,_,_,_,_,_,h5⟩:=this;rw[h1] at he;cases he;cases hb;exact h5
 ·obtain ⟨aF,h1,_⟩:=this;rw[h1] at he;cases he;cases ho
theorem dc.bN{M:Nat→Prop}{w':World}{D':aR}{E':aZ}{n:Nat}{x:Option ah}(h:dc M w D E n x)(hl:dX w D E w' D' E')(aw:E' n=E n)
  (hheap:∀ e b,E n=some e→e.aF=some b→w'.heap[b]?=w.heap[b]?∧∀ o,D' b o→D b o):dc M w' D' E' n x:=by
 unfold dc at *;split
 ·rw[aw];exact h
 ·obtain ⟨b,cs,T,h1,h2,h3,h4,h5⟩:=h;obtain ⟨k1,k2⟩:=hheap _ b h1 rfl;exact ⟨b,cs,T,aw.trans h1,h2,k1.trans h3,af.bN hl _ _ h4,fun o ho=>h5 o (k2 o ho)⟩
 ·obtain ⟨aF,h1,h2,h3⟩:=h;refine ⟨aF,aw.trans h1,h2,?_⟩;split
  ·exact h3
  ·rename_i b cap;obtain ⟨cs,pre,rest,h4,h5,h6,h7,h8,h9,h10,h11⟩:=h3;obtain ⟨k1,k2⟩:=hheap _ b h1 rfl;exact ⟨cs,pre,rest,h4,k1.trans h5,h6,aI.bN hl _ _ h7,h8,h9,h10,fun o ho=>h11 o (k2 o ho)⟩
 ·obtain ⟨b,h1,h2,h3,h4,h5⟩:=h;obtain ⟨k1,k2⟩:=hheap _ b h1 rfl;exact ⟨b,aw.trans h1,h2,k1.trans h3,h4,fun o ho=>h5 o (k2 o ho)⟩
 ·obtain ⟨b,es,ck,h1,h2,h3,h4,h5,h6,h7⟩:=h;obtain ⟨k1,k2⟩:=hheap _ b h1 rfl;exact ⟨b,es,ck,aw.trans h1,h2,k1.trans h3,h4,aH.bN hl _ _ h5,aH.bN hl _ _ h6,fun o ho=>h7 o (k2 o ho)⟩
 ·obtain ⟨r,b,es,ck,si,se,la,h1,h2,h3,h4,h5,h6,h7,h8,h9,h9',h10⟩:=h;obtain ⟨k1,k2⟩:=hheap _ r h1 rfl;exact ⟨r,b,es,ck,si,se,la,aw.trans h1,h2,k1.trans h3,h4.bN hl,aH.bN hl _ _ h5,aH.bN hl _ _ h6,h7,h8,h9,h9',fun o ho=>h10 o (k2 o ho)⟩
 ·obtain ⟨aF,h1,h2,h3⟩:=h;refine ⟨aF,aw.trans h1,h2,?_⟩;split
  ·exact h3
  ·rename_i b cap;obtain ⟨cs,m,h4,h5,h6,h7,h8,h9,h10⟩:=h3;obtain ⟨k1,k2⟩:=hheap _ b h1 rfl;exact ⟨cs,m,h4,k1.trans h5,h6,h7,h8,h9,fun o ho=>h10 o (k2 o ho)⟩
theorem dX.grow{w':World}{D':aR}(hb:Below w.heap.size w w')(hD:∀ b o,D b o→D' b o):dX w D E w' D' E:=by
 refine ⟨hD,fun b o v _ hv =>?_,fun _ _ _ h=>h,fun _ aF l h=>⟨aF,l,h,zz7 _,fun _=>rfl⟩,fun _ _ h=>h,fun _ _ h=>h,fun b es ck _ hm=>(hb.block b (gj hm)).trans hm⟩;rw[hb.cell (World.block_lt_of_cell? w _ hv)];exact hv
theorem aX.KK(h:aX c A a w D E){w':World}(hb:Below w.heap.size w w'):fU c.fq w w':=fU.grow hb fun k hk=>.inl (zu1 h.eb.size hk)
theorem aX.old(h:aX c A a w D E){b:Nat}(hm:¬ c.fq b):b<w.heap.size :=
 Nat.lt_of_lt_of_le (Nat.lt_of_not_le fun hle=>hm (.inl hle)) h.eb.size
theorem aX.ku(h:aX c A a w D E){d:Nat}(hd:d<c.n∨d<1000000):c.dS d=none:=by
 cases hh:c.dS d with
 |none=>rfl
 |some e=>have:=h.fj d (by rw[hh];simp);omega
theorem aX.grow(h:aX c A a w D E){w':World}{D':aR}(hb:Below w.heap.size w w')(hD:∀ b o,D b o→D' b o)
  (hold:∀ b o,D' b o→b<w.heap.size→D b o) (hlive:∀ b o,D' b o→b<w'.heap.size):aX c A a w' D' E:=by
 have hl:dX w D E w' D' E:=dX.grow hb hD;refine ⟨h.sz,h.e8.grow hb,fun t=>aY.bN hl (h.eA t),h.eb.trans (h.KK hb),fun b o hd hm=>h.df b o (hold b o hd (h.old hm)) hm,hlive,
  fun n=>(h.bS n).bN hl rfl (fun e b he hb'=>⟨hb.block b (h.gh he hb'),fun o ho=>hold b o ho (h.gh he hb')⟩),h.cZ,h.ed,h.fj,fun b o hd=>hD b o (h.cM b o hd),h.fp,h.lA hl⟩
theorem aX.PX(h:aX c A a w D E){D':aR}(hD:∀ b o,D b o→D' b o)
  (hold:∀ b o,D' b o→¬ c.fq b→c.D0 b o) (hlive:∀ b o,D' b o→b<w.heap.size)
  (hbox:∀ n x b,A.o n=some (.box x)→E n=some (.aA b x.aQ)→∀ o,¬ D' b o)
  (hrow:∀ n T sz es b cap,A.o n=some (.bY T sz es)→E n=some (.rw (some (b,cap)) es.length)→∀ o,D' b o→o<es.length*sz)
  (hui:∀ n T xs b cap,A.o n=some (.cT T xs)→E n=some (.rw (some (b,cap)) xs.length)→∀ o,¬ D' b o)
  (hopq:∀ n e b,E n=some e→e.eE=true→e.aF=some b→∀ o,¬ D' b o):aX c A a w D' E:=by
 have hl:dX w D E w D' E:=⟨hD,fun _ _ _ _ h=>h,fun _ _ _ h=>h,fun _ aF l h=>⟨aF,l,h,zz7 _,fun _=>rfl⟩,fun _ _ h=>h,fun _ _ h=>h,fun _ _ _ _ h=>h⟩
 refine ⟨h.sz,h.e8,fun t=>aY.bN hl (h.eA t),h.eb,hold,hlive,fun n =>?_,h.cZ,h.ed,h.fj,fun b o hd=>hD b o (h.cM b o hd),h.fp,h.fQ⟩;have ho:=h.bS n;cases hx:A.o n with
 |none=>rw[hx] at ho;exact ho
 |some x =>
  cases x with
  |box x =>
   rw[hx] at ho;obtain ⟨b,cs,T,h1,h2,h3,h4,h5⟩:=ho;exact ⟨b,cs,T,h1,h2,h3,af.bN hl _ _ h4,hbox n x b hx h1⟩
  |bY T sz es =>
   rw[hx] at ho;obtain ⟨aF,h1,h2,h3⟩:=ho;refine ⟨aF,h1,h2,?_⟩;cases aF with
   |none=>exact h3
   |some bc =>
    obtain ⟨b,cap⟩:=bc;obtain ⟨cs,pre,rest,h4,h5,h6,h7,h8,h9,h10,h11⟩:=h3;refine ⟨cs,pre,rest,h4,h5,h6,aI.bN hl _ _ h7,h8,h9,h10,fun o hd =>?_⟩;rw[aI.length _ _ h7,I.jd _ h2];exact hrow n T sz es b cap hx h1 o hd
  |dU x =>
   rw[hx] at ho;obtain ⟨b,h1,h2,h3,h4,h5⟩:=ho;exact ⟨b,h1,h2,h3,h4,hopq n _ b h1 rfl rfl⟩
  |cB ks vs =>
   rw[hx] at ho;obtain ⟨b,es,ck,h1,h2,h3,h4,h5,h6,h7⟩:=ho;exact ⟨b,es,ck,h1,h2,h3,h4,aH.bN hl _ _ h5,aH.bN hl _ _ h6,hopq n _ b h1 rfl rfl⟩
  |it ks vs left cur =>
   rw[hx] at ho;obtain ⟨r,b,es,ck,si,se,la,h1,h2,h3,h4,h5,h6,h7,h8,h9,h9',h10⟩:=ho;exact ⟨r,b,es,ck,si,se,la,h1,h2,h3,h4.bN hl,aH.bN hl _ _ h5,aH.bN hl _ _ h6,h7,h8,h9,h9',hopq n _ r h1 rfl rfl⟩
  |cT T xs =>
   rw[hx] at ho;obtain ⟨aF,h1,h2,h3⟩:=ho;refine ⟨aF,h1,h2,?_⟩;cases aF with
   |none=>exact h3
   |some bc =>
    obtain ⟨b,cap⟩:=bc;obtain ⟨cs,m,h4,h5,h6,h7,h8,h9,h10⟩:=h3;exact ⟨cs,m,h4,h5,h6,h7,h8,h9,hui n T xs b cap hx h1⟩
theorem aix(a:Act)(d:Nat)(v:Value)(t:Nat)(hd:d<a.tmps.size):(a.put (some d) v).tmps.getD t undef=if t=d then v else a.tmps.getD t undef:=by
 simp only[Act.put,Array.getD_eq_getD_getElem?,Array.getElem?_setIfInBounds];by_cases h:t=d
 ·subst h;simp[hd]
 ·simp[h,Ne.symm h]
theorem aX.put(h:aX c A a w D E){d:Nat}{x:I}{v:Value}(hd:d<c.n)(hv:aY w D E x v):aX c (A.put d x) (a.put (some d) v) w D E:=by
 refine ⟨by simp[Act.put,h.sz],by exact h.e8,fun t =>?_,h.eb,h.df,h.dv,h.bS,h.cZ,h.ed,h.fj,h.cM,h.fp,h.fQ⟩;rw[aix a d v t (by rw[h.sz];exact hd)];simp only[ae.put];split
 ·exact hv
 ·exact h.eA t
theorem aX.aP(h:aX c A a w D E){d:Option Nat}{x:I}{v:Value}(hd:∀ k,d=some k→k<c.n)(hv:aY w D E x v):aX c (A.aP d x) (a.put d v) w D E:=by
 cases d with
 |none=>exact h
 |some d=>exact h.put (hd d rfl) hv
theorem sL(w:World)(o:Obj):Below w.heap.size w (w.alloc o):=(Below.refl _ _).alloc (zz7 _) o
theorem Pa{w:World}{D:aR}{E:aZ} : ∀ {xs:List I} {vs:List Value},aH w D E xs vs→vs.length=xs.length
 | [],vs,h=>by simp only[aH] at h;subst h;rfl
 |x::xs,vs,h=>by
  simp only[aH] at h;obtain ⟨v,rest,cs,rfl,_,_,h3⟩:=h;simp[Pa h3]
theorem aX.yr(h:aX c A a w D E){d:Nat}{x:ah}{o':Obj}{e:bW}(hdn:d<c.n∨d<1000000)(hd:A.o d=none)(heb:e.aF=some w.heap.size)
  (hx:dX w D E (w.alloc o') D (fun n=>if n=d then some e else E n)→(∀ o,¬ D w.heap.size o)→dc c.fq (w.alloc o') D (fun n=>if n=d then some e else E n) d (some x)) :
  aX c (A.aS d x) a (w.alloc o') D (fun n=>if n=d then some e else E n):=by
 have hEd:E d=none:=by have:=h.bS d;rw[hd] at this;exact this
 have hne:∀ {n:Nat} {e:bW},E n=some e→n≠d:=fun he e'=>by rw[e',hEd] at he;cases he
 have hl:dX w D E (w.alloc o') D (fun n=>if n=d then some e else E n):=by
  refine ⟨fun _ _ h=>h,fun b o v _ hv =>?_,fun n b aQ he =>?_,fun n aF l he =>?_,fun n b he =>?_,fun n b he =>?_,fun b es ck _ hm=>(Below.heap_alloc w _ b (gj hm)).trans hm⟩
  ·rw[World.cell?_alloc_lt _ _ _ (World.block_lt_of_cell? w _ hv)];exact hv
  ·simp only[if_neg (hne he)];exact he
  ·exact ⟨aF,l,by simp only[if_neg (hne he)];exact he,zz7 _,fun _=>rfl⟩
  ·simp only[if_neg (hne he)];exact he
  ·simp only[if_neg (hne he)];exact he
 refine ⟨h.sz,h.e8.grow (sL w _),fun t=>aY.bN hl (h.eA t),h.eb.trans (h.KK (sL w _)),h.df,fun b o hd'=>by have:=h.dv b o hd';simp;omega,fun n =>?_,?_,fun n e' hn =>?_,h.fj,h.cM,h.fp,h.lA hl⟩
 ·simp only[ae.aS];by_cases hn:n=d
  ·subst hn;simp only[if_true];exact hx hl fun o ho=>Nat.lt_irrefl _ (h.dv _ o ho)
  ·simp only[if_neg hn];exact (h.bS n).bN hl (by simp only[if_neg hn]) fun e b he hb=>⟨Below.heap_alloc w _ b (h.gh he hb),fun _ ho=>ho⟩
 ·intro n m e1 e2 b h1 h2 h3 h4;by_cases hn:n=d <;>by_cases hm:m=d
  ·rw[hn,hm]
  ·simp only[if_pos hn,u8] at h1;simp only[if_neg hm] at h2;subst h1;rw[heb] at h3;cases h3;have:=h.gh h2 h4;omega
  ·simp only[if_neg hn] at h1;simp only[if_pos hm,u8] at h2;subst h2;rw[heb] at h4;cases h4;have:=h.gh h1 h3;omega
  ·simp only[if_neg hn] at h1;simp only[if_neg hm] at h2;exact h.cZ n m e1 e2 b h1 h2 h3 h4
 ·have hnd:n≠d:=fun e=>by rw[e,h.ku hdn] at hn;cases hn
  simp only[if_neg hnd];exact h.ed n e' hn
theorem aX.rK(h:aX c A a w D E){d:Nat}{x:I}{cs:Array Value}{T:TypeId}(hdn:d<c.n∨d<1000000)(hd:A.o d=none)(hx:af w D E x cs.toList) :
  aX c (A.aS d (.box x)) a (w.alloc (.cells cs T)) D (fun n=>if n=d then some (.aA w.heap.size x.aQ) else E n) :=
 h.yr hdn hd rfl fun hl hno=>⟨w.heap.size,cs,T,by simp,.inl h.eb.size,heap_alloc_new w _,af.bN hl _ _ hx,hno⟩
theorem aX.aki(h:aX c A a w D E){d:Nat}(hdn:d<c.n∨d<1000000)(hd:A.o d=none) :
  aX c (A.aS d (.cB [] [])) a (w.alloc (.map #[] 0)) D (fun n=>if n=d then some (.cB w.heap.size) else E n) :=
 h.yr hdn hd rfl fun _ hno=>⟨w.heap.size,#[],0,by simp,.inl h.eb.size,heap_alloc_new w _,⟨by simp,by simp⟩,by simp[aH],by simp[aH],hno⟩
theorem aX.akh(h:aX c A a w D E){d b clock:Nat}{ks vs:List I}{es:Array MapEntry}(hdn:d<c.n∨d<1000000)(hd:A.o d=none)(hm:oW w D b es clock)(hk:aH w D E ks (es.toList.map (·.key)))(hv:aH w D E vs (es.toList.map (·.val))) :
  aX c (A.aS d (.it ks vs (List.range ks.length) none)) a (w.alloc (.mapIter (some b) clock #[] clock)) D (fun n=>if n=d then some (.it w.heap.size) else E n) :=
 h.yr hdn hd rfl fun hl hno=>⟨w.heap.size,b,es,clock,clock,#[],clock,by simp,.inl h.eb.size,heap_alloc_new w _,hm.bN hl,aH.bN hl _ _ hk,aH.bN hl _ _ hv,hm.2.2.1,⟨zz7 _,zz7 _⟩,by
  have e:ks.length=es.size:=by have:=Pa hk;simpa using this.symm
  rw[e];unfold oR;exact (List.filter_eq_self.2 fun i hi=>by
   have hi':i<es.size:=by simpa using hi
   simp[Array.getElem?_eq_getElem hi']).symm,(fun i hi=>by cases hi),hno⟩
theorem vK(w:World)(g:Nat)(cs:Array Value)(p:Addr)(h:p.block≠g):(w.setRow g cs).cell? p=w.cell? p :=
 World.cell?_of_block (setRow_other w g p.block cs h)
theorem xZ{M:Nat→Prop}{fo w:World}(h:fU M fo w){g:Nat}(hg:M g)(cs:Array Value):fU M fo (w.setRow g cs) :=
 h.trans ⟨rfl,rfl,rfl,by simp[World.setRow],fun k hk=>setRow_other w g k cs (fun e=>hk (e▸hg))⟩
theorem aX.Pg(h:aX c A a w D E){n b:Nat}{x y:I}{cs':Array Value}(hn:A.o n=some (.box x))(aw:E n=some (.aA b x.aQ))(hs:y.aQ=x.aQ)(hy:af w D E y cs'.toList) :
  aX c (A.aS n (.box y)) a (w.setRow b cs') D E:=by
 have ho:=h.bS n;rw[hn] at ho;obtain ⟨b',cs,T,h1,h2,h3,h4,h5⟩:=ho;rw[aw] at h1;simp only[u8,bW.aA.injEq,and_true] at h1;subst h1;have hl:dX w D E (w.setRow b cs') D E:=by
  refine ⟨fun _ _ h=>h,fun b1 o v hd hv =>?_,fun _ _ _ h=>h,fun _ aF l h=>⟨aF,l,h,zz7 _,fun _=>rfl⟩,fun _ _ h=>h,fun _ _ h=>h,fun b1 es ck hd hm=>(setRow_other w b b1 _ (fun e=>h5 0 (by rw[←e];exact hd))).trans hm⟩;rw[vK _ _ _ _ (fun e=>h5 o (by rw[←e];exact hd))];exact hv
 refine ⟨h.sz,h.e8.mono fun B _ hB=>(setRow_other w b B cs' (fun e=>by rw[e,h3] at hB;cases hB)).trans hB,fun t=>aY.bN hl (h.eA t),xZ h.eb h2 _,h.df,fun b1 o hd=>by have:=h.dv b1 o hd;simpa[World.setRow] using this,fun m =>?_,h.cZ,h.ed,h.fj,h.cM,h.fp,h.lA hl⟩;simp only[ae.aS];by_cases hm:m=n
 ·subst hm;simp only[if_true,dc];exact ⟨b,cs',T,by rw[hs];exact aw,h2,setRow_heap w b cs cs' T _ h3,af.bN hl _ _ hy,h5⟩
 ·simp only[if_neg hm];refine (h.bS m).bN hl rfl fun e b1 he hb=>⟨setRow_other w b b1 cs' (fun e1=>hm (h.cZ m n e _ b he aw (by rw[hb,e1]) rfl)),fun _ ho=>ho⟩
theorem vL{w:World}{B:Nat}{o o':Obj}(h:w.heap[B]?=some o)(ho:o.isCells=false){b off:Nat}{v:Value}(hv:w.cell? ⟨b,off,none⟩=some v):(w.putObj B o').cell? ⟨b,off,none⟩=some v:=by
 have hne:b≠B:=fun e=>by
  obtain ⟨o2,h2,h3⟩:=cells_of_cell hv;simp only at h2;rw[e,h] at h2;cases h2;rw[ho] at h3;cases h3
 rw[World.cell?_of_block (w:=w) (World.putObj_heap_other hne)];exact hv
theorem aX.Pj(h:aX c A a w D E){n b:Nat}{e:bW}{x:ah}{o0 o':Obj}(aw:E n=some e)(ho:e.eE=true)(hb:e.aF=some b)(hw:w.heap[b]?=some o0)(hnc:o0.isCells=false)(hnd:∀ q,o0≠.deferred q)(hmine:c.fq b)
  (hx:dX w D E (w.putObj b o') D E→(w.putObj b o').heap[b]?=some o'→(∀ o,¬ D b o)→dc c.fq (w.putObj b o') D E n (some x)):aX c (A.aS n x) a (w.putObj b o') D E:=by
 have hno:=h.yR aw ho hb;have hlt:b<w.heap.size:=gj hw;have hl:dX w D E (w.putObj b o') D E:=⟨fun _ _ h=>h,fun b1 o1 v _ hv=>vL hw hnc hv,fun _ _ _ h=>h,fun _ aF l h=>⟨aF,l,h,zz7 _,fun _=>rfl⟩,fun _ _ h=>h,fun _ _ h=>h,
  fun b1 es ck hd hm=>(World.putObj_heap_other (fun e1=>hno 0 (by rw[←e1];exact hd))).trans hm⟩
 refine ⟨h.sz,h.e8.mono fun B _ hB=>(World.putObj_heap_other (fun e1=>by rw[e1,hw] at hB;exact hnd _ (Option.some.inj hB))).trans hB,fun t=>aY.bN hl (h.eA t),h.eb.trans ⟨rfl,rfl,rfl,by simp,fun k hk=>World.putObj_heap_other (fun e1=>hk (e1▸hmine))⟩,h.df,
  fun b1 o1 hd=>by have:=h.dv b1 o1 hd;simpa using this,fun m =>?_,h.cZ,h.ed,h.fj,h.cM,h.fp,h.lA hl⟩
 simp only[ae.aS];by_cases hm:m=n
 ·subst hm;simp only[if_true];exact hx hl (World.putObj_heap_same hlt) hno
 ·simp only[if_neg hm];exact (h.bS m).bN hl rfl fun e' b1 he hb'=>⟨World.putObj_heap_other (fun e1=>hm (h.cZ m n e' _ b1 he aw hb' (by rw[e1];exact hb))),fun _ ho=>ho⟩
end
inductive aJ where
 |t (n:Nat)
 |c (x:I)
 deriving Inhabited
inductive cN where
 |i (k:IntKind)
 |b
 |s
 |br (l:List cN)
 |kO (n:Nat) (e:cN)
 deriving Inhabited
mutual
def cN.size:cN→Nat
 | .i _ | .b | .s=>1
 | .br l=>cN.sizes l
 | .kO n e=>n*e.size
def cN.sizes:List cN→Nat
 | []=>0
 |t::ts=>t.size+cN.sizes ts
end
inductive cn where
 |mv (x:aJ)
 |pick (c a b:aJ)
 |bin (op:BinOp) (x y:aJ)
 |eqv (ty:cN) (neg:Bool) (x y:aJ)
 |nilS (neg:Bool) (x:aJ)
 |conv (k:IntKind) (x:aJ)
 |un (op:UnOp) (x:aJ)
 |ld (s:Option Nat) (x:aJ)
 |fa (f off:Nat) (x:aJ)
 |fl (f off:Nat) (s:Option Nat) (x:aJ)
 |ia (n esz:Nat) (x i:aJ)
 |is (esz:Nat) (x i:aJ)
 |ix (n esz:Nat) (s:Option Nat) (x i:aJ)
 |len (x:aJ)
 |lenT (x:aJ)
 |va (n esz:Nat) (x:aJ)
 |sl (esz:Nat) (x:aJ) (lo hi mx:Option aJ)
 |bld (zs:List I) (parts:List (Nat×aJ))
 |bs (T esz:Nat) (parts:List aJ)
 |ext (x:aJ) (i:Nat)
 |mk (f:FuncId) (caps:List aJ)
 |alloc (z:I)
 |box (x:aJ)
 |br (s:Option Nat) (x v:aJ)
 |dF (e:TypeId) (esz bytes:Nat) (z:I) (s x:aJ)
 |lI (e:TypeId) (esz bytes:Nat) (z:I) (s n:aJ)
 |cap (x:aJ)
 |bs0 (esz:Nat)
 |iQ (esz:Nat) (z:I) (x:aJ)
 |lQ (esz:Nat) (x y:aJ)
 |call (f:FuncId) (args:List aJ)
 |eF (x:aJ) (args:List aJ)
 |kL (f:FuncId) (args:List aJ)
 |nilC (x:aJ)
 |ptrE (neg:Bool) (x y:aJ)
 |kB (e:TypeId) (bytes:Nat) (z:I) (n:aJ)
 |j9
 |lk (ty:cN) (z:I) (ok:Bool) (m k:aJ)
 |gY (ty:cN) (m k v:aJ)
 |kI (x:aJ)
 |jN (x:aJ)
 |ent (x:aJ)
 deriving Inhabited
def vD(sz:Nat):Value→Option I
 | .bool b=>some (.bool b)
 | .int k n=>if k.min≤n∧n≤k.max then some (.int k n) else none
 | .string s=>if s.size≤1000000 then some (.c7 s) else none
 | .pointer none=>some .nilp
 | .slice none 0 0=>some (.nils sz)
 | .nilFunc=>some .dw
 | .nilIface=>some .ea
 | .map none=>some (.raw (.map none))
 |_=>none
theorem SE{sz:Nat}{v:Value}{x:I}(h:vD sz v=some x)(w:World)(D:aR)(E:aZ):aY w D E x v:=by
 unfold vD at h;split at h
 case h_2 =>
  split at h
  ·rename_i hh;simp only[u8] at h;subst h;exact ⟨_,by simp[bL,I.isAgg];rfl,by simp only[af,true_and];exact hh⟩
  ·simp at h
 case h_3 =>
  split at h
  ·rename_i hh;simp only[u8] at h;subst h;exact ⟨_,by simp[bL,I.isAgg];rfl,by simp only[af,true_and];unfold maxLen;omega⟩
  ·simp at h
 case h_9=>simp at h
 all_goals
  simp only[u8] at h;subst h;exact ⟨_,by simp[bL,I.isAgg];rfl,by simp[af,Value.oneCell']⟩
def aad(P:Program)(t:TypeId):Nat:=match P.underlying t with | some (.slice e)=>P.cellsOf e | _=>0
def bK(P:Program)(t:TypeId):Operand→Option aJ
 | .tmp n=>some (.t n)
 | .const v=>(vD (aad P t) v).map .c
 | .func f=>some (.c (.func f []))
 | .global _=>none
def ab(A:ae):aJ→I
 | .t n=>A.t n
 | .c x=>x
section
variable {c:cU} {A:ae} {a:Act} {w:World} {D:aR} {E:aZ}
theorem ct(h:aX c A a w D E){P:Program}{t:TypeId}{x:Operand}{y:aJ}(hc:bK P t x=some y):aY w D E (ab A y) (a.eval x):=by
 cases x with
 |tmp n=>simp only[bK,u8] at hc;subst hc;exact h.eA n
 |const v =>
  simp only[bK,zz1] at hc;obtain ⟨z,hz,rfl⟩:=hc;exact SE hz w D E
 |global g=>simp[bK] at hc
 |func f =>
  simp only[bK,u8] at hc;subst hc;exact ⟨[.func (.func f) #[] #[]],by simp[bL,I.isAgg,ab,Act.eval],by simp only[af,ab,aH];exact ⟨[],rfl,rfl⟩⟩
theorem mz{b:Bool}{v:Value}(h:aY w D E (.bool b) v):v=.bool b:=by
 obtain ⟨cs,h1,h2⟩:=h;simp only[af] at h2;simp[bL,I.isAgg,h2] at h1;exact h1.symm
theorem fC{k:IntKind}{n:Int}{v:Value}(h:aY w D E (.int k n) v):v=.int k n∧k.min≤n∧n≤k.max:=by
 obtain ⟨cs,h1,h2⟩:=h;simp only[af] at h2;simp[bL,I.isAgg,h2.1] at h1;exact ⟨h1.symm,h2.2⟩
theorem oj{s:ByteArray}{v:Value}(h:aY w D E (.c7 s) v):v=.string s∧s.size≤maxLen:=by
 obtain ⟨cs,h1,h2⟩:=h;simp only[af] at h2;simp[bL,I.isAgg,h2.1] at h1;exact ⟨h1.symm,h2.2⟩
theorem LC{x:I}{v:Value}(hx:x.isAgg=false)(h:af w D E x [v]):aY w D E x v:=by
 cases x <;>simp only[af] at h <;>first | (simp[I.isAgg] at hx;done) | exact ⟨[v],by simp[bL,I.isAgg],by simpa only[af] using h⟩
theorem jT{fs:List I}{v:Value}(h:aY w D E (.agg fs) v):∃ cs:List Value,v=.agg cs.toArray∧aI w D E fs cs:=by
 obtain ⟨cs,h1,h2⟩:=h;simp only[af] at h2;exact ⟨cs,by simpa[bL,I.isAgg] using h1,h2⟩
theorem LB{fs:List I}{cs:List Value}(h:aI w D E fs cs):aY w D E (.agg fs) (.agg cs.toArray):=⟨cs,by simp[bL,I.isAgg],by simpa only[af] using h⟩
theorem oV(b:Bool):aY w D E (.bool b) (.bool b):=⟨[.bool b],by simp[bL,I.isAgg],by simp[af]⟩
theorem lg{k:IntKind}{n:Int}(h:k.min≤n∧n≤k.max):aY w D E (.int k n) (.int k n):=⟨[.int k n],by simp[bL,I.isAgg],by simp only[af,true_and];exact h⟩
theorem pd{n:Nat}{p:List Nat}{v:Value}(h:aY w D E (.ptr n p) v):∃ b aQ off,E n=some (.aA b aQ)∧aQ.off p=some off∧v=.pointer (some ⟨b,off,none⟩):=by
 obtain ⟨cs,h1,h2⟩:=h;simp only[af] at h2;obtain ⟨b,aQ,off,h3,h4,h5⟩:=h2;exact ⟨b,aQ,off,h3,h4,by simpa[bL,I.isAgg,h5] using h1.symm⟩
theorem qt{x:I}{v:Value}(h:aY w D E (.ref x) v):∃ b off cs,v=.pointer (some ⟨b,off,none⟩)∧hJ w D b off cs∧af w D E x cs:=by
 obtain ⟨cs,h1,h2⟩:=h;simp only[af] at h2;obtain ⟨b,off,cs',h3,h4,h5⟩:=h2;exact ⟨b,off,cs',by simpa[bL,I.isAgg,h3] using h1.symm,h4,h5⟩
theorem tN{x:I}{b off:Nat}{cs:List Value}(h1:hJ w D b off cs)(h2:af w D E x cs):aY w D E (.ref x) (.pointer (some ⟨b,off,none⟩)) :=
 ⟨_,by simp[bL,I.isAgg];rfl,by simp only[af];exact ⟨b,off,cs,rfl,h1,h2⟩⟩
theorem oi{sz:Nat}{es:List I}{v:Value}(h:aY w D E (.slice sz es) v):∃ ad cap,v=.slice ad es.length cap∧es.length≤cap∧cap≤maxLen ∧
  (es=[]∨∃ b off cs,ad=some ⟨b,off,none⟩∧hJ w D b off cs∧aI w D E es cs)∧∀ e∈es,e.size=sz:=by
 obtain ⟨cs,h1,h2⟩:=h;simp only[af] at h2;obtain ⟨ad,cap,h3,h4⟩:=h2;exact ⟨ad,cap,by simpa[bL,I.isAgg,h3] using h1.symm,h4⟩
theorem tO{sz:Nat}{es:List I}{ad:Option Addr}{n cap:Nat}(hn:n=es.length)(h1:n≤cap)(h2:cap≤maxLen)
  (h3:es=[]∨∃ b off cs,ad=some ⟨b,off,none⟩∧hJ w D b off cs∧aI w D E es cs) (h4:∀ e∈es,e.size=sz):aY w D E (.slice sz es) (.slice ad n cap):=by
 subst hn;exact ⟨_,by simp[bL,I.isAgg];rfl,by simp only[af];exact ⟨ad,cap,rfl,h1,h2,h3,h4⟩⟩
end
def cJ(op:BinOp)(x y:I):Option I :=
 match x,y with
 | .int k a,.int k' b =>
  match op with
  | .shl=>if 0≤b then some (.int k (k.wrap (a*2^(min b.toNat k.bits)))) else none
  | .shr=>if 0≤b then some (.int k (a.fdiv (2^(min b.toNat k.bits)))) else none
  |op=>if k=k' then
   match op with
   | .add=>some (.int k (k.wrap (a+b)))
   | .sub=>some (.int k (k.wrap (a-b)))
   | .mul=>some (.int k (k.wrap (a*b)))
   | .quo=>if b=0 then none else some (.int k (k.wrap (a.tdiv b)))
   | .rem=>if b=0 then none else some (.int k (a.tmod b))
   | .and=>some (.int k (k.wrap ((BitVec.ofInt k.bits a &&& BitVec.ofInt k.bits b).toNat:Int)))
   | .or=>some (.int k (k.wrap ((BitVec.ofInt k.bits a ||| BitVec.ofInt k.bits b).toNat:Int)))
   | .xor=>some (.int k (k.wrap ((BitVec.ofInt k.bits a ^^^ BitVec.ofInt k.bits b).toNat:Int)))
   | .andNot=>some (.int k (k.wrap ((BitVec.ofInt k.bits a &&& ~~~ BitVec.ofInt k.bits b).toNat:Int)))
   | .eql=>some (.bool (a==b))
   | .neq=>some (.bool (a != b))
   | .lss=>some (.bool (decide (a<b)))
   | .leq=>some (.bool (decide (a≤b)))
   | .gtr=>some (.bool (decide (a>b)))
   | .geq=>some (.bool (decide (a≥b)))
   |_=>none
   else none
 | .c7 s,.c7 t =>
  match op with
  | .eql=>some (.bool (s.toList==t.toList))
  | .neq=>some (.bool (!(s.toList==t.toList)))
  | .lss=>some (.bool (Op.bytesLess s.toList t.toList))
  | .leq=>some (.bool (Op.bytesLess s.toList t.toList||s.toList==t.toList))
  | .gtr=>some (.bool (!(Op.bytesLess s.toList t.toList||s.toList==t.toList)))
  | .geq=>some (.bool (!(Op.bytesLess s.toList t.toList)))
  | .add=>if s.size+t.size≤9223372036854775807 then some (.c7 (s++t)) else none
  |_=>none
 |_,_=>none
theorem qH(k:IntKind)(n:Int):k.min≤k.wrap n∧k.wrap n≤k.max:=by
 cases k <;>simp only[IntKind.min,IntKind.max,IntKind.wrap,IntKind.bits,IntKind.signed] <;>simp <;>(try split) <;>omega
theorem ane(a b:Int):(0≤a→0≤a.tmod b∧a.tmod b≤a)∧(a<0→a≤a.tmod b∧a.tmod b≤0):=by
 have key:∀ n:Nat,0≤(n:Int).tmod b∧(n:Int).tmod b≤n:=by
  intro n;cases b with
  |ofNat m=>show 0≤((n%m:Nat):Int)∧((n%m:Nat):Int)≤n;have:=Nat.mod_le n m;omega
  |negSucc m=>show 0≤((n%(m+1):Nat):Int)∧((n%(m+1):Nat):Int)≤n;have:=Nat.mod_le n (m+1);omega
 refine ⟨fun h =>?_,fun h =>?_⟩
 ·obtain ⟨n,rfl⟩:=Int.eq_ofNat_of_zero_le h;exact key n
 ·obtain ⟨n,hn⟩:=Int.eq_ofNat_of_zero_le (show 0≤-a by omega);have:=key n;rw[←hn,Int.neg_tmod] at this;omega
theorem anf(k:IntKind)(a b:Int)(h:k.min≤a∧a≤k.max):k.min≤a.tmod b∧a.tmod b≤k.max:=by
 have h0:k.min≤0∧0≤k.max:=by cases k <;>simp[IntKind.min,IntKind.max,IntKind.bits,IntKind.signed]
 have:=ane a b;omega
theorem aaq(a:Int)(m:Int)(hm:0<m):(0≤a→0≤a.fdiv m∧a.fdiv m≤a)∧(a<0→a≤a.fdiv m∧a.fdiv m≤0):=by
 rw[Int.fdiv_eq_ediv_of_nonneg _ (by omega)];have h1:=Int.mul_ediv_add_emod a m;have h2:=zw8 a (show m≠0 by omega);refine ⟨fun h=>⟨Int.ediv_nonneg h (by omega),Int.ediv_le_self _ h⟩,fun h=>⟨?_,?_⟩⟩
 ·rw[Int.le_ediv_iff_mul_le hm];have:a*m≤a*1:=Int.mul_le_mul_of_nonpos_left (by omega) (by omega);omega
 ·have:=Int.ediv_neg_of_neg_of_pos h hm;omega
theorem aar(k:IntKind)(a:Int)(n:Nat)(h:k.min≤a∧a≤k.max):k.min≤a.fdiv (2^n)∧a.fdiv (2^n)≤k.max:=by
 have h0:k.min≤0∧0≤k.max:=by cases k <;>simp[IntKind.min,IntKind.max,IntKind.bits,IntKind.signed]
 have:=aaq a (2^n) (Int.pow_pos (by omega));omega
def cD(A:ae):I→Option I
 | .ref x=>some x
 | .ptr n p=>match A.o n with
  |some (.box x)=>x.at p
  |_=>none
 |_=>none
mutual
def I.bD:I→Bool
 | .agg fs=>I.bZ fs
 | .slice _ es=>I.bZ es
 | .ref x=>x.bD
 | .func _ caps=>I.bZ caps
 | .iface _ v=>v.bD
 | .cX ks vs=>I.bZ ks&&I.bZ vs
 | .ptr _ _ | .own _ _ | .view _ _ _ _ _ | .mref _ | .dC _ | .undef | .du | .tuple _=>false
 | .bool _ | .int _ _ | .c7 _ | .nilp | .dw | .ea | .raw _ | .nils _ | .c0 _=>true
def I.bZ:List I→Bool
 | []=>true
 |x::xs=>x.bD&&I.bZ xs
end
def ga(f:I→Option I):List I→Option (List I)
 | []=>some []
 |x::xs=>match f x,ga f xs with
  |some y,some ys=>some (y::ys)
  |_,_=>none
def ej(A:ae):Nat→I→Option I
 |0,_=>none
 |k+1,x=>if x.bD then some x else match x with
  | .agg fs=>(ga (ej A k) fs).map .agg
  | .func f caps=>(ga (ej A k) caps).map (.func f)
  | .ptr n p=>match cD A (.ptr n p) with
   |some y=>(ej A k y).map .ref
   |none=>none
  | .view n p sz lo l=>match cD A (.ptr n p) with
   |some (.agg fs)=>if I.bZ ((fs.drop lo).take l)=true then some (.slice sz ((fs.drop lo).take l)) else none
   |_=>none
  | .mref n=>match A.o n with
   |some (.cB ks vs)=>if I.bZ ks=true then (ga (ej A k) vs).map (.cX ks) else none
   |_=>none
  | .own n l=>match A.o n with
   |some (.bY _ sz es)=>if l=es.length∧I.bZ es=true then some (.slice sz es) else none
   |_=>none
  |_=>none
mutual
/-- The value for others to hold: pointers to the frame's own variables and rows become what they hold. -/
def bl(aA:Bool)(A:ae):I→Option I
 | .ptr n p=>if aA then (match cD A (.ptr n p) with | some x=>if x.bD then some (.ref x) else (ej A 9 x).map .ref | none=>none) else none
 | .own n k=>match A.o n with
  |some (.bY _ sz es)=>if k=es.length∧I.bZ es=true then some (.slice sz es) else none
  |_=>none
 | .view n p sz lo k=>if aA then (match cD A (.ptr n p) with
  |some (.agg fs)=>if I.bZ ((fs.drop lo).take k)=true then some (.slice sz ((fs.drop lo).take k)) else none
  |_=>none) else none
 | .mref n=>if aA then (match A.o n with
  |some (.cB ks vs)=>if I.bZ ks=true then (ga (ej A 9) vs).map (.cX ks) else none
  |_=>none) else none
 | .dC _=>none
 | .cX ks vs=>if I.bZ ks&&I.bZ vs then some (.cX ks vs) else none
 | .nils sz=>some (.slice sz [])
 | .c0 sz=>some (.slice sz [])
 | .func f caps=>(ca aA A caps).map (.func f)
 | .agg fs=>(ca aA A fs).map .agg
 | .tuple _=>none
 | .undef=>none
 | .du=>none
 | .bool b=>some (.bool b)
 | .int k n=>some (.int k n)
 | .c7 s=>some (.c7 s)
 | .nilp=>some .nilp
 | .dw=>some .dw
 | .ea=>some .ea
 | .raw u=>some (.raw u)
 | .slice sz es=>if I.bZ es then some (.slice sz es) else none
 | .ref x=>if x.bD then some (.ref x) else none
 | .iface t v=>if v.bD then some (.iface t v) else none
def ca(aA:Bool)(A:ae):List I→Option (List I)
 | []=>some []
 |x::xs=>match bl aA A x,ca aA A xs with
  |some y,some ys=>some (y::ys)
  |_,_=>none
end
def b8(s:Option Nat)(x:I):Bool:=match s with
 |none => !x.isAgg
 |some n=>x.isAgg&&x.size==n
def I.cm:I→Bool
 | .undef | .du | .tuple _=>false
 |_=>true
def iT(n esz:Nat)(fs:List I):Bool:=fs.length==n&&fs.all fun f=>f.size==esz
def dZ(zs:List I):List (Nat×I)→Option (List I)
 | []=>some zs
 |(i,v)::rest=>match zs[i]? with
  |some z=>if v.cm=true∧v.size=z.size then dZ (zs.set i v) rest else none
  |none=>none
def iP(x:Option I)(d:Int):Option Int:=match x with
 |none=>some d
 |some (.int _ n)=>some n
 |_=>none
def ke(sz:Nat)(es:List I)(lo hi mx:Option I):Option I :=
 match iP hi es.length with
 |none=>none
 |some h=>match iP mx es.length with
  |none=>none
  |some m=>match iP lo 0 with
   |none=>none
   |some l=>if 0≤l∧l≤h∧h≤m∧m≤es.length then
     (if mx.isSome∧m=l then some (.c0 sz) else some (.slice sz ((es.take h.toNat).drop l.toNat))) else none
def iA(n:Nat)(p:List Nat)(sz lo k total:Nat)(lo' hi' mx':Option I):Option I :=
 match iP hi' k with
 |none=>none
 |some h=>match iP lo' 0 with
  |none=>none
  |some l=>match mx' with
   |none=>if 0≤l∧l≤h∧h≤((total-lo:Nat):Int) then (if l=((total-lo:Nat):Int) then some (.c0 sz) else some (.view n p sz (lo+l.toNat) (h.toNat-l.toNat))) else none
   |some (.int _ m)=>if 0≤l∧l≤h∧h≤m∧m≤((total-lo:Nat):Int) then some .du else none
   |_=>none
def iN(a b:Option Bool):Option Bool:=match a,b with
 |some x,some y=>some (x&&y)
 |_,_=>none
mutual
/-- '==',part by part. -/
def cv:cN→I→I→Option Bool
 | .i k,x,y=>match x,y with
  | .int k1 a,.int k2 b=>if k1=k∧k2=k then some (a==b) else none
  |_,_=>none
 | .b,x,y=>match x,y with
  | .bool a,.bool b=>some (a==b)
  |_,_=>none
 | .s,x,y=>match x,y with
  | .c7 a,.c7 b=>some (a.toList==b.toList)
  |_,_=>none
 | .br l,x,y=>match x,y with
  | .agg fs,.agg gs=>jk l fs gs
  |_,_=>none
 | .kO n e,x,y=>match x,y with
  | .agg fs,.agg gs=>if fs.length=n∧gs.length=n then (fs.zip gs).foldr (fun p acc=>iN (cv e p.1 p.2) acc) (some true) else none
  |_,_=>none
def jk:List cN→List I→List I→Option Bool
 | [],fs,gs=>match fs,gs with
  | [],[]=>some true
  |_,_=>none
 |t::ts,fs,gs=>match fs,gs with
  |f::fs,g::gs=>iN (cv t f g) (jk ts fs gs)
  |_,_=>none
end
def pN(k:IntKind)(n:Int):Int:=k.wrap ((BitVec.ofInt k.bits (if k.signed then -1 else k.max) ^^^ BitVec.ofInt k.bits n).toNat:Int)
def fg(ty:cN)(k:I):List I→Nat→Option (Option Nat)
 | [],_=>some none
 |x::xs,i=>match cv ty k x with
  |some true=>some (some i)
  |some false=>fg ty k xs (i+1)
  |none=>none
def gI(A:ae):I→Option (List I×List I)
 | .cX ks vs=>some (ks,vs)
 | .mref n=>match A.o n with
  |some (.cB ks vs)=>some (ks,vs)
  |_=>none
 | .raw (.map none)=>some ([],[])
 |_=>none
def gA(ty:cN)(z k:I)(ks vs:List I):Option (I×Bool) :=
 if (cv ty k k).isSome then (match fg ty k ks 0 with
  |some (some i)=>(vs[i]?).map fun v=>(v,true)
  |some none=>some (z,false)
  |none=>none) else none
def jo:I→Option Bool
 | .nilp=>some true
 | .ptr _ _=>some false
 | .ref _=>some false
 |_=>none
def gB(ty:cN)(k v:I)(ks vs:List I):Option (List I×List I) :=
 if (cv ty k k).isSome=true∧k.cm=true∧v.cm=true then (match fg ty k ks 0 with
  |some (some i)=>some (ks,vs.set i v)
  |some none=>some (ks++[k],vs++[v])
  |none=>none) else none
def na:I→Option I
 | .ptr n p=>some (.ptr n p)
 | .ref x=>some (.ref x)
 |_=>none
def ng(neg:Bool):Option Bool→Option Bool→Option I
 |some a,some b=>if a||b then some (.bool (if neg then !(a&&b) else (a&&b))) else none
 |_,_=>none
def rF(ok:Bool):Option (I×Bool)→Option I
 |some (v,b)=>some (if ok then .tuple [v,.bool b] else v)
 |none=>none
def rE(ty:cN)(z:I)(ok:Bool)(k:I):Option (List I×List I)→Option I
 |some (ks,vs)=>rF ok (gA ty z k ks vs)
 |none=>none
def pP(ks vs:List I):Option Nat→Option I
 |some i=>match ks[i]?,vs[i]? with
  |some k,some v=>some (.tuple [k,v])
  |_,_=>none
 |none=>none
def bu(A:ae):cn→Option I
 | .mv x=>some (ab A x)
 | .pick c a b=>match ab A c with | .bool t=>some (if t then ab A a else ab A b) | _=>none
 | .bin op x y=>cJ op (ab A x) (ab A y)
 | .eqv ty neg x y=>(cv ty (ab A x) (ab A y)).map fun b=>.bool (if neg then !b else b)
 | .nilS neg x=>match ab A x with
  | .nils _=>some (.bool (!neg))
  | .slice _ es=>if es.isEmpty then none else some (.bool neg)
  | .view _ _ _ _ _=>some (.bool neg)
  |_=>none
 | .conv k x=>match ab A x with | .int _ n=>some (.int k (k.wrap n)) | _=>none
 | .un op x=>match op,ab A x with
  | .not,.bool b=>some (.bool !b)
  | .neg,.int k n=>some (.int k (k.wrap (0-n)))
  | .xor,.int k n=>some (.int k (pN k n))
  |_,_=>none
 | .ld s x=>match cD A (ab A x) with | some v=>if b8 s v then some v else none | none=>none
 | .fa f off x=>match ab A x with
  | .ref (.agg fs)=>match fs[f]? with | some v=>if I.sizes (fs.take f)=off then some (.ref v) else none | none=>none
  | .ptr n p=>match cD A (.ptr n p) with | some (.agg fs)=>if f<fs.length∧I.sizes (fs.take f)=off then some (.ptr n (p++[f])) else none | _=>none
  |_=>none
 | .fl f off s x=>match ab A x with
  | .agg fs=>match fs[f]? with | some v=>if I.sizes (fs.take f)=off∧b8 s v=true then some v else none | none=>none
  |_=>none
 | .ia n esz x i=>match ab A i with
  | .int _ k=>if 0≤k∧k<n then (match ab A x with
   | .ref (.agg fs)=>if iT n esz fs then (fs[k.toNat]?).map .ref else none
   | .ptr m p=>match cD A (.ptr m p) with | some (.agg fs)=>if iT n esz fs then some (.ptr m (p++[k.toNat])) else none | _=>none
   |_=>none) else none
  |_=>none
 | .is esz x i=>match ab A i with
  | .int _ k=>match ab A x with
   | .slice sz es=>if sz=esz∧0≤k∧k<es.length then (es[k.toNat]?).map .ref else none
   | .own m l=>match A.o m with | some (.bY _ sz es)=>if l=es.length∧sz=esz∧0≤k∧k<es.length then (es[k.toNat]?).map .ref else none | _=>none
   | .view m p sz lo l=>match cD A (.ptr m p) with | some (.agg _)=>if sz=esz∧0≤k∧k<l then some (.ptr m (p++[lo+k.toNat])) else none | _=>none
   |_=>none
  |_=>none
 | .ix n esz s x i=>match ab A i with
  | .int _ k=>if 0≤k∧k<n then (match ab A x with
   | .agg fs=>if iT n esz fs then (match fs[k.toNat]? with | some v=>if b8 s v then some v else none | none=>none) else none
   |_=>none) else none
  |_=>none
 | .len x=>match ab A x with
  | .slice _ es=>some (.int .i64 es.length)
  | .nils _ | .c0 _=>some (.int .i64 0)
  | .own m l=>match A.o m with | some (.bY _ _ es)=>if l=es.length then some (.int .i64 es.length) else none | _=>none
  | .view _ _ _ _ k=>some (.int .i64 k)
  |_=>none
 | .cap x=>match ab A x with
  | .nils _ | .c0 _=>some (.int .i64 ((0:Nat):Int))
  | .view n p _ lo _=>match cD A (.ptr n p) with | some (.agg fs)=>some (.int .i64 ((fs.length-lo:Nat):Int)) | _=>none
  |_=>none
 | .bs0 esz=>some (.c0 esz)
 | .lenT x=>match ab A x with
  | .c7 s=>some (.int .i64 s.size)
  |_=>none
 | .va n esz x=>match ab A x with
  | .ptr m p=>match cD A (.ptr m p) with | some (.agg fs)=>if iT n esz fs=true∧n≤maxLen∧n≠0 then some (.view m p esz 0 n) else none | _=>none
  | .ref (.agg fs)=>if iT n esz fs=true∧n≤maxLen∧n≠0 then some (.slice esz fs) else none
  |_=>none
 | .sl esz x lo hi mx=>match ab A x with
  | .slice sz es=>if sz=esz then ke sz es (lo.map (ab A)) (hi.map (ab A)) (mx.map (ab A)) else none
  | .nils sz=>if sz=esz then ke sz [] (lo.map (ab A)) (hi.map (ab A)) (mx.map (ab A)) else none
  | .c0 sz=>if sz=esz then ke sz [] (lo.map (ab A)) (hi.map (ab A)) (mx.map (ab A)) else none
  | .view n p sz l0 k=>match cD A (.ptr n p) with | some (.agg fs)=>if sz=esz then iA n p sz l0 k fs.length (lo.map (ab A)) (hi.map (ab A)) (mx.map (ab A)) else none | _=>none
  |_=>none
 | .bld zs parts=>(dZ zs (parts.map fun p=>(p.1,ab A p.2))).map .agg
 | .nilC x=>na (ab A x)
 | .ptrE neg x y=>ng neg (jo (ab A x)) (jo (ab A y))
 | .lk ty z ok m k=>rE ty z ok (ab A k) (gI A (ab A m))
 | .ent x=>match ab A x with
  | .dC n=>match A.o n with
   |some (.it ks vs _ cur)=>pP ks vs cur
   |_=>none
  |_=>none
 | .bs _ esz parts=>match ca false A (parts.map (ab A)) with
  |some es=>if (es.all fun e=>e.size==esz)∧I.bZ es then some (.slice esz es) else none
  |none=>none
 | .ext x i=>match ab A x with | .tuple fs=>fs[i]? | _=>none
 | .mk f caps=>if ((caps.map (ab A)).all fun y=>y.cm)=true then some (.func f (caps.map (ab A))) else none
 |_=>none
mutual
theorem af.fW{w:World}{D D':aR}{E E':aZ}(hD:∀ b o,D b o→D' b o):∀ (x:I) (cs:List Value),x.bD=true→af w D E x cs→af w D' E' x cs
 | .agg fs,cs,hc,hr=>by simp only[af,I.bD] at *;exact aI.fW hD fs cs hc hr
 | .bool b,cs,_,hr=>by simpa only[af] using hr
 | .int k n,cs,_,hr=>by simpa only[af] using hr
 | .c7 s,cs,_,hr=>by simpa only[af] using hr
 | .nilp,cs,_,hr=>by simpa only[af] using hr
 | .dw,cs,_,hr=>by simpa only[af] using hr
 | .ea,cs,_,hr=>by simpa only[af] using hr
 | .raw _,cs,_,hr=>by simpa only[af] using hr
 | .nils _,cs,_,hr=>by simpa only[af] using hr
 | .c0 _,cs,_,hr=>by simpa only[af] using hr
 | .slice sz es,cs,hc,hr=>by
  simp only[af,I.bD] at *;obtain ⟨a,cap,h1,h2,h3,h4,h5⟩:=hr;refine ⟨a,cap,h1,h2,h3,?_,h5⟩;rcases h4 with h4 | ⟨b,off,cs',h6,h7,h8⟩
  ·exact .inl h4
  ·exact .inr ⟨b,off,cs',h6,fun j v hj=>⟨(h7 j v hj).1,hD _ _ (h7 j v hj).2⟩,aI.fW hD es cs' hc h8⟩
 | .ref x,cs,hc,hr=>by
  simp only[af,I.bD] at *;obtain ⟨b,off,cs',h1,h2,h3⟩:=hr;exact ⟨b,off,cs',h1,fun j v hj=>⟨(h2 j v hj).1,hD _ _ (h2 j v hj).2⟩,af.fW hD x cs' hc h3⟩
 | .func f caps,cs,hc,hr=>by
  simp only[af,I.bD] at *;obtain ⟨vs,h1,h2⟩:=hr;exact ⟨vs,h1,aH.fW hD caps vs hc h2⟩
 | .iface t v,cs,hc,hr=>by
  simp only[af,I.bD] at *;obtain ⟨u,cs',h1,h2,h3⟩:=hr;exact ⟨u,cs',h1,h2,af.fW hD v cs' hc h3⟩
 | .ptr n p,_,hc,_=>by simp[I.bD] at hc
 | .own n k,_,hc,_=>by simp[I.bD] at hc
 | .view n p _ _ _,_,hc,_=>by simp[I.bD] at hc
 | .mref n,_,hc,_=>by simp[I.bD] at hc
 | .dC n,_,hc,_=>by simp[I.bD] at hc
 | .cX ks vs,cs,hc,hr=>by
  simp only[af,I.bD,zz2] at *;obtain ⟨b,es,ck,h1,h2,h3,h4⟩:=hr;exact ⟨b,es,ck,h1,⟨h2.1,hD _ _ h2.2.1,h2.2.2⟩,aH.fW hD ks _ hc.1 h3,aH.fW hD vs _ hc.2 h4⟩
 | .undef,_,hc,_=>by simp[I.bD] at hc
 | .du,_,hc,_=>by simp[I.bD] at hc
 | .tuple _,_,hc,_=>by simp[I.bD] at hc
theorem aI.fW{w:World}{D D':aR}{E E':aZ}(hD:∀ b o,D b o→D' b o):∀ (xs:List I) (cs:List Value),I.bZ xs=true→aI w D E xs cs→aI w D' E' xs cs
 | [],cs,_,hr=>by simpa only[aI] using hr
 |x::xs,cs,hc,hr=>by
  simp only[aI,I.bZ,zz2] at *;obtain ⟨c1,c2,h1,h2,h3⟩:=hr;exact ⟨c1,c2,h1,af.fW hD x c1 hc.1 h2,aI.fW hD xs c2 hc.2 h3⟩
theorem aH.fW{w:World}{D D':aR}{E E':aZ}(hD:∀ b o,D b o→D' b o):∀ (xs:List I) (vs:List Value),I.bZ xs=true→aH w D E xs vs→aH w D' E' xs vs
 | [],vs,_,hr=>by simpa only[aH] using hr
 |x::xs,vs,hc,hr=>by
  simp only[aH,I.bZ,zz2] at *;obtain ⟨v,rest,cs,h1,h2,h3,h4⟩:=hr;exact ⟨v,rest,cs,h1,h2,af.fW hD x cs hc.1 h3,aH.fW hD xs rest hc.2 h4⟩
end
theorem o5{w:World}{D:aR}{b:Nat}{cs:Array Value}{T:TypeId}{fz:Nat×Nat}(hb:w.heap[b]?=some (.cells cs T fz)){c1 c2 c3:List Value}(hc:cs.toList=c1++c2++c3)
  (hD:∀ o,o<c1.length+c2.length→D b o):hJ w D b c1.length c2:=by
 intro j v hj;have hjl:j<c2.length:=(zy6.1 hj).1;refine ⟨?_,hD _ (by omega)⟩;have e:cs[c1.length+j]?=some v:=by
  rw[←zv3,hc,zz5,zw0 (by omega),Nat.add_sub_cancel_left,zy8 (by omega)];exact hj
 simp[World.cell?,hb,e]
section
variable {c:cU} {A:ae} {a:Act} {w:World} {D:aR} {E:aZ}
theorem aX.box(h:aX c A a w D E){n:Nat}{x:I}(hn:A.o n=some (.box x)) :
  ∃ b cs T,E n=some (.aA b x.aQ)∧c.fq b∧w.heap[b]?=some (.cells cs T (0,0))∧af w D E x cs.toList∧∀ o,¬ D b o:=by
 have:=h.bS n;rw[hn] at this;exact this
theorem aX.bY(h:aX c A a w D E){n sz:Nat}{T:TypeId}{es:List I}(hn:A.o n=some (.bY T sz es)) :
  ∃ aF,E n=some (.rw aF es.length)∧(∀ e∈es,e.size=sz)∧match aF with
  |none=>es=[]
  |some (b,cap)=>∃ cs pre rest,c.fq b∧w.heap[b]?=some (.cells cs T (0,0))∧cs.toList=pre++rest∧aI w D E es pre ∧
    cs.size=cap*sz∧es.length≤cap∧cap≤maxLen∧∀ o,D b o→o<pre.length:=by
 have:=h.bS n;rw[hn] at this;exact this
theorem aX.sc(h:aX c A a w D E){n:Nat}{T:TypeId}{xs:List Int}(hn:A.o n=some (.cT T xs)) :
  ∃ aF,E n=some (.rw aF xs.length)∧(∀ x∈xs,IntKind.i64.min≤x∧x≤IntKind.i64.max)∧match aF with
  |none=>xs=[]
  |some (b,cap)=>∃ cs m,c.fq b∧w.heap[b]?=some (.cells cs T (0,0))∧cs.toList=(xs++List.replicate m 0).map (Value.int .i64)∧xs≠[]∧xs.length+m=cap∧cap≤maxLen∧∀ o,¬ D b o:=by
 have:=h.bS n;rw[hn] at this;exact this
theorem aX.map(h:aX c A a w D E){n:Nat}{ks vs:List I}(hn:A.o n=some (.cB ks vs)) :
  ∃ b es clock,E n=some (.cB b)∧c.fq b∧w.heap[b]?=some (.map es clock)∧qD es clock∧aH w D E ks (es.toList.map (·.key))∧aH w D E vs (es.toList.map (·.val))∧∀ o,¬ D b o:=by
 have:=h.bS n;rw[hn] at this;exact this
theorem aX.at(h:aX c A a w D E){n:Nat}{p:List Nat}{x:I}(hx:cD A (.ptr n p)=some x) :
  ∃ y b cs T off c1 c2 c3,A.o n=some (.box y)∧E n=some (.aA b y.aQ)∧c.fq b∧w.heap[b]?=some (.cells cs T (0,0))∧y.at p=some x∧y.aQ.off p=some off ∧
   cs.toList=c1++c2++c3∧c1.length=off∧af w D E x c2∧af w D E y cs.toList∧∀ o,¬ D b o:=by
 simp only[cD] at hx;split at hx
 ·rename_i y hn;obtain ⟨b,cs,T,h1,h2,h3,h4,h5⟩:=h.box hn;obtain ⟨off,c1,c2,c3,h6,h7,h8,h9⟩:=y9 p y x _ h4 hx;exact ⟨y,b,cs,T,off,c1,c2,c3,hn,h1,h2,h3,hx,h6,h7,h8,h9,h4,h5⟩
 ·cases hx
theorem aX.AX(h:aX c A a w D E){x y:I}{v:Value}(hv:aY w D E x v)(hx:cD A x=some y) :
  ∃ b off cs,v=.pointer (some ⟨b,off,none⟩)∧(∀ j u,cs[j]?=some u→w.cell? ⟨b,off+j,none⟩=some u)∧af w D E y cs:=by
 cases x with
 |ref z =>
  simp only[cD,u8] at hx;subst hx;obtain ⟨b,off,cs,h1,h2,h3⟩:=qt hv;exact ⟨b,off,cs,h1,fun j u hj=>(h2 j u hj).1,h3⟩
 |ptr n p =>
  obtain ⟨b,aQ,off,h1,h2,h3⟩:=pd hv;obtain ⟨z,b',cs,T,off',c1,c2,c3,k1,k2,_,k3,_,k5,k6,k7,k8,_,_⟩:=h.at hx;rw[k2] at h1;simp only[u8,bW.aA.injEq] at h1;obtain ⟨rfl,rfl⟩:=h1;rw[k5,u8] at h2;subst h2;refine ⟨b',off',c2,h3,fun j u hj =>?_,k8⟩;have:=o5 (D:=fun _ _=>True) k3 k6 (fun _ _=>trivial);rw[k7] at this;exact (this j u hj).1
 |_=>simp[cD] at hx
theorem uv{w:World}{D:aR}{E:aZ} : ∀ (xs ys:List I) (cs:List Value),aI w D E (xs++ys) cs→∃ c1 c2,cs=c1++c2∧aI w D E xs c1∧aI w D E ys c2
 | [],ys,cs,hr=>⟨[],cs,rfl,by simp[aI],hr⟩
 |x::xs,ys,cs,hr=>by
  simp only[zy0,aI] at hr;obtain ⟨d1,d2,rfl,k1,k2⟩:=hr;obtain ⟨e1,e2,rfl,k3,k4⟩:=uv xs ys d2 k2;exact ⟨d1++e1,e2,by simp,by simp only[aI];exact ⟨d1,e1,rfl,k1,k3⟩,k4⟩
theorem Pl{fs:List I}{sz:Nat}(h:∀ s∈I.cS fs,s.size=sz):∀ f∈fs,f.size=sz:=by
 intro f hf;rw[←I.mA];exact h _ (by rw[I.dB];exact zx9.2 ⟨f,hf,rfl⟩)
theorem uw{w:World}{D:aR}{E:aZ}{fs:List I}{cs:List Value}{sz:Nat}(hr:aI w D E fs cs)(hev:∀ f∈fs,f.size=sz)(lo k:Nat)(h:lo+k≤fs.length) :
  ∃ d1 d2 d3,cs=d1++(d2++d3)∧d1.length=lo*sz∧aI w D E ((fs.drop lo).take k) d2∧aI w D E ((fs.drop lo).drop k) d3:=by
 have e1:fs=fs.take lo++((fs.drop lo).take k++(fs.drop lo).drop k):=by rw[zx0,zx0]
 rw[e1] at hr;obtain ⟨d1,d',rfl,q1,q2⟩:=uv _ _ _ hr;obtain ⟨d2,d3,rfl,q3,q4⟩:=uv _ _ _ q2;refine ⟨d1,d2,d3,rfl,?_,q3,q4⟩;rw[aI.length _ _ q1,I.jd _ (fun x hx=>hev x (List.mem_of_mem_take hx)),zy7]
 congr 1
 omega
structure iM (aA:Bool) (A:ae) (D:aR) (E:aZ) (D':aR):Prop where
 df:∀ b o,D b o→D' b o
 bY:∀ n T sz es b cap,A.o n=some (.bY T sz es)→E n=some (.rw (some (b,cap)) es.length)→∀ o,o<es.length*sz→D' b o
 box:aA=true→∀ n x b aQ,A.o n=some (.box x)→E n=some (.aA b aQ)→∀ o,o<x.size→D' b o
 map:aA=true→∀ n ks vs b,A.o n=some (.cB ks vs)→E n=some (.cB b)→D' b 0
def eC(A A':ae):Prop:=∀ n x,A.o n=some x→A'.o n=some x
theorem j0{A A':ae}(hu:eC A A'){x v:I}(h:cD A x=some v):cD A' x=some v:=by
 cases x <;>simp only[cD] at h ⊢ <;>try exact h
 rename_i n p;cases ho:A.o n with
 |none=>rw[ho] at h;cases h
 |some y=>rw[ho] at h;rw[hu n y ho];exact h
theorem DQ{A0 A:ae}(hu:eC A0 A){n:Nat}{p:List Nat}{x z:I}(h:cD A0 (.ptr n p)=some x)(hz:A.o n=some (.box z)):A0.o n=some (.box z):=by
 simp only[cD] at h;split at h
 ·rename_i y hy;have:=hu n _ hy;rw[hz] at this;rw[hy,←this]
 ·cases h
theorem aX.ON(h:aX c A a w D E){A0:ae}(hu:eC A0 A){D':aR}(hw:iM true A0 D E D'){n:Nat}{p:List Nat}{x:I}{cs:List Value}(hx:cD A0 (.ptr n p)=some x)(hr:af w D E (.ptr n p) cs) :
  ∃ b off c2,cs=[.pointer (some ⟨b,off,none⟩)]∧hJ w D' b off c2∧af w D E x c2:=by
 obtain ⟨z,b',cs',T,off',c1,c2,c3,k1,k2,_,k3,k4,k5,k6,k7,k8,k9,_⟩:=h.at (j0 hu hx);have k1:=DQ hu hx k1;simp only[af] at hr;obtain ⟨b,aQ,off,h1,h2,h3⟩:=hr;rw[k2] at h1;simp only[u8,bW.aA.injEq] at h1;obtain ⟨rfl,rfl⟩:=h1;rw[k5,u8] at h2;subst h2;have hsz:=af.length z _ k9;rw[k6] at hsz;simp only[zz3] at hsz;refine ⟨b',off',c2,h3,?_,k8⟩;rw[←k7];exact o5 k3 k6 (fun o ho=>hw.box rfl n z b' _ k1 k2 o (by omega))
theorem aX.ke(h:aX c A a w D E){A0:ae}(hu:eC A0 A){D':aR}{E':aZ}(hw:iM true A0 D E D'){n:Nat}{p:List Nat}{sz lo k:Nat}{fs:List I}{cs:List Value}(hx:cD A0 (.ptr n p)=some (.agg fs))(hr:af w D E (.view n p sz lo k) cs)
  (hcl:I.bZ ((fs.drop lo).take k)=true):af w D' E' (.slice sz ((fs.drop lo).take k)) cs:=by
 obtain ⟨z,b',cs',T,off',c1,c2,c3,k1,k2,_,k3,k4,k5,k6,k7,k8,k9,_⟩:=h.at (j0 hu hx);have k1:=DQ hu hx k1;simp only[af] at hr k8 ⊢;obtain ⟨b,aQ,off,l,h1,h2,h3,h4,h5,h6,h7⟩:=hr;rw[k2] at h1;simp only[u8,bW.aA.injEq] at h1;obtain ⟨rfl,rfl⟩:=h1;rw[k5,u8] at h2;subst h2;rw[nv p z _ k4] at h3;simp only[I.aQ,u8,cR.ep.injEq] at h3;subst h3;have hsz:=af.length z _ k9;rw[k6] at hsz;rw[I.dB,zy2] at h4 h5 h6;have hev:=Pl h7;obtain ⟨d1,d2,d3,rfl,q1,q2,q3⟩:=uw k8 hev lo k h6;simp only[zz3] at hsz;have hlen:((fs.drop lo).take k).length=k:=by rw[zy7,zy9];omega
 refine ⟨some ⟨b',off'+lo*sz,none⟩,fs.length-lo,by rw[hlen];exact h4,by rw[hlen];omega,by omega,.inr ⟨b',off'+lo*sz,d2,rfl,?_,aI.fW hw.df _ d2 hcl q2⟩,?_⟩
 ·have:=o5 (D:=D') (c1:=c1++d1) (c2:=d2) (c3:=d3++c3) k3 (by rw[k6];simp) (fun o ho=>hw.box rfl n z b' _ k1 k2 o (by rw[zz3] at ho;omega));rw[zz3,k7,q1] at this;exact this
 ·intro e he;exact hev e (List.mem_of_mem_drop (List.mem_of_mem_take he))
theorem aX.O2(h:aX c A a w D E){aA:Bool}{A0:ae}(hu:eC A0 A){D':aR}{E':aZ}(hw:iM aA A0 D E D'){n k T sz:Nat}{es:List I}{cs:List Value}(hn:A0.o n=some (.bY T sz es))(hcl:I.bZ es=true)(hk:k=es.length)(hr:af w D E (.own n k) cs):af w D' E' (.slice sz es) cs:=by
 subst hk;simp only[af] at hr;obtain ⟨aF,l,h1,h2,_,h4⟩:=hr;obtain ⟨blk',k1,k2,k3⟩:=h.bY (hu n _ hn);rw[k1] at h1;simp only[u8,bW.rw.injEq] at h1;obtain ⟨rfl,rfl⟩:=h1;have h4:=h4 rfl;cases blk' with
 |none =>
  simp only at k3 h4;subst k3;simp only[af];exact ⟨none,0,by simpa using h4,by simp,by simp[maxLen],by simp,by simp⟩
 |some bc =>
  obtain ⟨b,cap⟩:=bc;simp only at h4;obtain ⟨cs',pre,rest,k4,k5,k6,k7,k8,k9,k10,k11⟩:=k3;simp only[af];refine ⟨some ⟨b,0,none⟩,cap,h4,k9,k10,.inr ⟨b,0,pre,rfl,?_,aI.fW hw.df es pre hcl k7⟩,k2⟩;have hp:pre.length=es.length*sz:=by rw[aI.length _ _ k7,I.jd _ k2]
  have:=o5 (D:=D') (c1:=[]) k5 (by simpa using k6) (fun o ho=>hw.bY n T sz es b cap hn k1 o (by simp at ho;omega));simpa using this
theorem Lx{w:World}{D D':aR}{E E':aZ}{f:I→Option I}(hf:∀ x y cs,af w D E x cs→f x=some y→af w D' E' y cs):∀ (xs ys:List I) (cs:List Value),aI w D E xs cs→ga f xs=some ys→aI w D' E' ys cs
 | [],ys,cs,hr,h=>by simp only[ga,u8] at h;subst h;simpa only[aI] using hr
 |x::xs,ys,cs,hr,h=>by
  simp only[ga] at h;split at h
  ·rename_i y ys' h1 h2;simp only[u8] at h;subst h;simp only[aI] at *;obtain ⟨c1,c2,e,k1,k2⟩:=hr;exact ⟨c1,c2,e,hf x y c1 k1 h1,Lx hf xs ys' c2 k2 h2⟩
  ·cases h
theorem tK{w:World}{D D':aR}{E E':aZ}{f:I→Option I}(hf:∀ x y cs,af w D E x cs→f x=some y→af w D' E' y cs)(hp:∀ x y,f x=some y→y.isAgg=x.isAgg):∀ (xs ys:List I) (vs:List Value),aH w D E xs vs→ga f xs=some ys→aH w D' E' ys vs
 | [],ys,cs,hr,h=>by simp only[ga,u8] at h;subst h;simpa only[aH] using hr
 |x::xs,ys,cs,hr,h=>by
  simp only[ga] at h;split at h
  ·rename_i y ys' h1 h2;simp only[u8] at h;subst h;simp only[aH] at *;obtain ⟨v,rest,c1,e,k1,k2,k3⟩:=hr;refine ⟨v,rest,c1,e,?_,hf x y c1 k2 h1,tK hf hp xs ys' rest k3 h2⟩;unfold bL at *;rw[hp x y h1];exact k1
  ·cases h
theorem wi{A0:ae} : ∀ {k:Nat} {x y:I},ej A0 k x=some y→y.isAgg=x.isAgg
 |0,_,_,h=>by simp[ej] at h
 |k+1,x,y,h=>by
  simp only[ej] at h;split at h
  ·simp only[u8] at h;rw[h]
  ·cases x <;>simp only[] at h <;>first
    |(cases h;done)
    |(simp only[zz1] at h;obtain ⟨z,_,rfl⟩:=h;rfl)
    |((repeat' split at h) <;>first | (cases h;done) | (simp only[u8] at h;subst h;rfl) | (simp only[zz1] at h;obtain ⟨z,_,rfl⟩:=h;rfl))
theorem wj(h:aX c A a w D E){A0:ae}(hu:eC A0 A){D':aR}{E':aZ}(hw:iM true A0 D E D'):∀ (k:Nat) (x y:I) (cs:List Value),af w D E x cs→ej A0 k x=some y→af w D' E' y cs
 |0,_,_,_,_,hf=>by simp[ej] at hf
 |k+1,x,y,cs,hr,hf=>by
  have ih:=wj h hu (E':=E') hw k;simp only[ej] at hf;split at hf
  ·rename_i hcl;simp only[u8] at hf;subst hf;exact af.fW hw.df x cs hcl hr
  ·rename_i hcl;cases x <;>simp only[] at hf <;>try (cases hf;done)
   case agg fs =>
    simp only[zz1] at hf;obtain ⟨ys,hy,rfl⟩:=hf;simp only[af] at *;exact Lx ih fs ys cs hr hy
   case func f caps =>
    simp only[zz1] at hf;obtain ⟨ys,hy,rfl⟩:=hf;simp only[af] at *;obtain ⟨vs,h1,h2⟩:=hr;exact ⟨vs,h1,tK ih (fun x y hxy=>wi hxy) caps ys vs h2 hy⟩
   case ptr n p =>
    split at hf
    case h_2=>cases hf
    rename_i z hz;simp only[zz1] at hf;obtain ⟨y',hy,rfl⟩:=hf;obtain ⟨b,off,c2,k1,k2,k3⟩:=h.ON hu hw hz hr;simp only[af];exact ⟨b,off,c2,k1,k2,ih z y' c2 k3 hy⟩
   case view n p sz lo l =>
    split at hf
    case h_2=>cases hf
    rename_i fs hx;split at hf
    case isFalse=>cases hf
    rename_i hc;simp only[u8] at hf;subst hf;exact h.ke hu hw hx hr hc
   case mref n =>
    split at hf
    case h_2=>cases hf
    rename_i ks vs hn;split at hf
    case isFalse=>cases hf
    rename_i hc;simp only[zz1] at hf;obtain ⟨ys,hy,rfl⟩:=hf;simp only[af] at hr ⊢;obtain ⟨b,h1,h2⟩:=hr;obtain ⟨b',es,ck,k1,k2,k3,k4,k5,k6,k7⟩:=h.map (hu n _ hn);rw[k1] at h1;cases h1;exact ⟨b,es,ck,h2,⟨k3,hw.map rfl n ks vs b hn k1,k4⟩,aH.fW hw.df ks _ hc k5,tK ih (fun x y hxy=>wi hxy) vs ys _ k6 hy⟩
   case own n l =>
    split at hf
    case h_2=>cases hf
    rename_i T sz es hn;split at hf
    case isFalse=>cases hf
    rename_i hk;simp only[u8] at hf;subst hf;exact h.O2 hu hw hn hk.2 hk.1 hr
mutual
theorem Eu(h:aX c A a w D E){aA:Bool}{A0:ae}(hu:eC A0 A){D':aR}{E':aZ}(hw:iM aA A0 D E D'):∀ (x y:I) (cs:List Value),af w D E x cs→bl aA A0 x=some y→af w D' E' y cs
 | .ptr n p,y,cs,hr,hf=>by
  simp only[bl] at hf;split at hf
  case isFalse=>cases hf
  rename_i hbx;subst hbx;split at hf
  case h_2=>cases hf
  rename_i x hx;obtain ⟨b,off,c2,k1,k2,k3⟩:=h.ON hu hw hx hr;split at hf
  ·rename_i hcl;simp only[u8] at hf;subst hf;simp only[af];exact ⟨b,off,c2,k1,k2,af.fW hw.df x c2 hcl k3⟩
  ·simp only[zz1] at hf;obtain ⟨y',hy,rfl⟩:=hf;simp only[af];exact ⟨b,off,c2,k1,k2,wj h hu hw 9 x y' c2 k3 hy⟩
 | .mref n,y,cs,hr,hf=>by
  simp only[bl] at hf;split at hf
  case isFalse=>cases hf
  rename_i hbx;subst hbx;split at hf
  case h_2=>cases hf
  rename_i ks vs hn;split at hf
  case isFalse=>cases hf
  rename_i hc;simp only[zz1] at hf;obtain ⟨ys,hy,rfl⟩:=hf;simp only[af] at hr ⊢;obtain ⟨b,h1,h2⟩:=hr;obtain ⟨b',es,ck,k1,k2,k3,k4,k5,k6,k7⟩:=h.map (hu n _ hn);rw[k1] at h1;cases h1;exact ⟨b,es,ck,h2,⟨k3,hw.map rfl n ks vs b hn k1,k4⟩,aH.fW hw.df ks _ hc k5,tK (wj h hu hw 9) (fun x y hxy=>wi hxy) vs ys _ k6 hy⟩
 | .dC _,_,_,_,hf=>by simp[bl] at hf
 | .cX ks vs,y,cs,hr,hf=>by
  simp only[bl] at hf;split at hf
  ·rename_i hc;simp only[u8] at hf;subst hf;exact af.fW hw.df _ cs (by simpa[I.bD] using hc) hr
  ·cases hf
 | .own n k,y,cs,hr,hf=>by
  simp only[bl] at hf;split at hf
  case h_2=>cases hf
  rename_i T sz es hn;split at hf
  case isFalse=>cases hf
  rename_i hk;simp only[u8] at hf;subst hf;exact h.O2 hu hw hn hk.2 hk.1 hr
 | .view n p sz lo k,y,cs,hr,hf=>by
  simp only[bl] at hf;split at hf
  case isFalse=>cases hf
  rename_i hbx;subst hbx;split at hf
  case h_2=>cases hf
  rename_i fs hx;split at hf
  case isFalse=>cases hf
  rename_i hcl;simp only[u8] at hf;subst hf;exact h.ke hu hw hx hr hcl
 | .nils sz,y,cs,hr,hf=>by
  simp only[bl,u8] at hf;subst hf;simp only[af] at *;exact ⟨none,0,by simpa using hr,by simp,by simp[maxLen],by simp,by simp⟩
 | .c0 sz,y,cs,hr,hf=>by
  simp only[bl,u8] at hf;subst hf;simp only[af] at *;obtain ⟨ad,hr⟩:=hr;exact ⟨ad,0,by simpa using hr,by simp,by simp[maxLen],by simp,by simp⟩
 | .func f caps,y,cs,hr,hf=>by
  simp only[bl,zz1] at hf;obtain ⟨ys,hy,rfl⟩:=hf;simp only[af] at *;obtain ⟨vs,h1,h2⟩:=hr;exact ⟨vs,h1,mX h hu hw caps ys vs h2 hy⟩
 | .agg fs,y,cs,hr,hf=>by
  simp only[bl,zz1] at hf;obtain ⟨ys,hy,rfl⟩:=hf;simp only[af] at *;exact Ev h hu hw fs ys cs hr hy
 | .tuple _,_,_,_,hf=>by simp[bl] at hf
 | .undef,_,_,_,hf=>by simp[bl] at hf
 | .du,_,_,_,hf=>by simp[bl] at hf
 | .bool b,y,cs,hr,hf=>by simp only[bl,u8] at hf;subst hf;simpa only[af] using hr
 | .int k n,y,cs,hr,hf=>by simp only[bl,u8] at hf;subst hf;simpa only[af] using hr
 | .c7 s,y,cs,hr,hf=>by simp only[bl,u8] at hf;subst hf;simpa only[af] using hr
 | .nilp,y,cs,hr,hf=>by simp only[bl,u8] at hf;subst hf;simpa only[af] using hr
 | .dw,y,cs,hr,hf=>by simp only[bl,u8] at hf;subst hf;simpa only[af] using hr
 | .ea,y,cs,hr,hf=>by simp only[bl,u8] at hf;subst hf;simpa only[af] using hr
 | .raw _,y,cs,hr,hf=>by simp only[bl,u8] at hf;subst hf;simpa only[af] using hr
 | .slice sz es,y,cs,hr,hf=>by
  simp only[bl] at hf;split at hf
  ·rename_i hc;simp only[u8] at hf;subst hf;exact af.fW hw.df _ cs (by simpa[I.bD] using hc) hr
  ·cases hf
 | .ref x,y,cs,hr,hf=>by
  simp only[bl] at hf;split at hf
  ·rename_i hc;simp only[u8] at hf;subst hf;exact af.fW hw.df _ cs (by simpa[I.bD] using hc) hr
  ·cases hf
 | .iface t v,y,cs,hr,hf=>by
  simp only[bl] at hf;split at hf
  ·rename_i hc;simp only[u8] at hf;subst hf;exact af.fW hw.df _ cs (by simpa[I.bD] using hc) hr
  ·cases hf
theorem Ev(h:aX c A a w D E){aA:Bool}{A0:ae}(hu:eC A0 A){D':aR}{E':aZ}(hw:iM aA A0 D E D'):∀ (xs ys:List I) (cs:List Value),aI w D E xs cs→ca aA A0 xs=some ys→aI w D' E' ys cs
 | [],ys,cs,hr,hf=>by simp only[ca,u8] at hf;subst hf;simpa only[aI] using hr
 |x::xs,ys,cs,hr,hf=>by
  simp only[ca] at hf;split at hf
  ·rename_i y ys' h1 h2;simp only[u8] at hf;subst hf;simp only[aI] at *;obtain ⟨c1,c2,e,k1,k2⟩:=hr;exact ⟨c1,c2,e,Eu h hu hw x y c1 k1 h1,Ev h hu hw xs ys' c2 k2 h2⟩
  ·cases hf
theorem mX(h:aX c A a w D E){aA:Bool}{A0:ae}(hu:eC A0 A){D':aR}{E':aZ}(hw:iM aA A0 D E D'):∀ (xs ys:List I) (vs:List Value),aH w D E xs vs→ca aA A0 xs=some ys→aH w D' E' ys vs
 | [],ys,cs,hr,hf=>by simp only[ca,u8] at hf;subst hf;simpa only[aH] using hr
 |x::xs,ys,cs,hr,hf=>by
  simp only[ca] at hf;split at hf
  ·rename_i y ys' h1 h2;simp only[u8] at hf;subst hf;simp only[aH] at *;obtain ⟨v,rest,c1,e,k1,k2,k3⟩:=hr;refine ⟨v,rest,c1,e,?_,Eu h hu hw x y c1 k2 h1,mX h hu hw xs ys' rest k3 h2⟩;have:y.isAgg=x.isAgg:=by
    cases x <;>simp only[bl] at h1 <;>first
     |(simp at h1;done)
     |(simp only[u8] at h1;subst h1;rfl)
     |(simp only[zz1] at h1;obtain ⟨z,_,rfl⟩:=h1;rfl)
     |((repeat' split at h1) <;>first | (simp at h1;done) | (simp only[u8] at h1;subst h1;rfl) | (simp only[zz1] at h1;obtain ⟨z,_,rfl⟩:=h1;rfl))
   unfold bL at *;rw[this];exact k1
  ·cases hf
end
end
def fY(P:Program)(t:TypeId):Option (Option Nat):=match P.underlying t with
 |some (.struct _) | some (.array _ _)=>some (some (P.cellsOf t))
 |some _=>some none
 |none=>none
def zU(P:Program):Nat→TypeId→Option I
 |0,_=>none
 |d+1,t=>match P.underlying t with
  |some .bool=>some (.bool false)
  |some (.int k)=>some (.int k 0)
  |some .string=>some (.c7 ByteArray.empty)
  |some (.pointer _)=>some .nilp
  |some (.slice e)=>some (.nils (P.cellsOf e))
  |some (.func _ _ _)=>some .dw
  |some (.interface _)=>some .ea
  |some (.map _ _)=>some (.raw (.map none))
  |some (.struct fs)=>(fs.toList.mapM fun f=>zU P d f.type).map .agg
  |some (.array n e)=>(zU P d e).map fun z=>.agg (List.replicate n z)
  |_=>none
def lM:I→Value→Bool
 | .bool b,.bool b'=>b==b'
 | .int k n,.int k' n'=>k==k'&&n==n'&&decide (k.min≤n∧n≤k.max)
 | .c7 s,.string t=>s.size==0&&t.size==0
 | .nilp,.pointer none=>true
 | .nils _,.slice none 0 0=>true
 | .dw,.nilFunc=>true
 | .ea,.nilIface=>true
 | .raw (.map none),.map none=>true
 |_,_=>false
mutual
def ny:I→List Value→Option (List Value)
 | .agg fs,cs=>sm fs cs
 | .bool b,v::cs=>if lM (.bool b) v then some cs else none
 | .int k n,v::cs=>if lM (.int k n) v then some cs else none
 | .c7 s,v::cs=>if lM (.c7 s) v then some cs else none
 | .nilp,v::cs=>if lM .nilp v then some cs else none
 | .nils z,v::cs=>if lM (.nils z) v then some cs else none
 | .dw,v::cs=>if lM .dw v then some cs else none
 | .ea,v::cs=>if lM .ea v then some cs else none
 | .raw u,v::cs=>if lM (.raw u) v then some cs else none
 |_,_=>none
def sm:List I→List Value→Option (List Value)
 | [],cs=>some cs
 |x::xs,cs=>match ny x cs with
  |some r=>sm xs r
  |none=>none
end
theorem ByteArray.aac{s t:ByteArray}(hs:s.size=0)(ht:t.size=0):s=t:=by
 cases s with | mk a=>cases t with | mk b =>
 have ha:a = #[]:=Array.eq_empty_of_size_eq_zero hs;have hb:b = #[]:=Array.eq_empty_of_size_eq_zero ht;rw[ha,hb]
theorem Wr{x:I}{v:Value}(h:lM x v=true)(w:World)(D:aR)(E:aZ):af w D E x [v]:=by
 unfold lM at h;split at h
 case h_9=>cases h
 case h_1=>simp only[beq_iff_eq] at h;subst h;simp[af]
 case h_2 =>
  simp only[zz2,beq_iff_eq,decide_eq_true_eq] at h;obtain ⟨⟨rfl,rfl⟩,h⟩:=h;simp only[af,true_and];exact h
 case h_3 =>
  simp only[zz2,beq_iff_eq] at h;have e:=ByteArray.aac h.1 h.2;subst e;simp only[af,true_and];rw[h.1];exact zw7 _
 all_goals simp[af,Value.oneCell']
mutual
theorem P1:∀ (x:I) (cs r:List Value),ny x cs=some r→∃ c1,cs=c1++r∧∀ w D E,af w D E x c1
 | .agg fs,cs,r,h=>by
  simp only[ny] at h;obtain ⟨c1,h1,h2⟩:=P2 fs cs r h;exact ⟨c1,h1,fun w D E=>by simp only[af];exact h2 w D E⟩
 | .bool b,v::cs,r,h | .int k n,v::cs,r,h | .c7 s,v::cs,r,h | .nilp,v::cs,r,h | .nils z,v::cs,r,h | .dw,v::cs,r,h | .ea,v::cs,r,h | .raw u,v::cs,r,h=>by
  simp only[ny] at h;split at h
  ·rename_i hh;simp only[u8] at h;subst h;exact ⟨[v],rfl,fun w D E=>Wr hh w D E⟩
  ·cases h
 | .bool b,[],r,h | .int k n,[],r,h | .c7 s,[],r,h | .nilp,[],r,h | .nils z,[],r,h | .dw,[],r,h | .ea,[],r,h | .raw _,[],r,h=>by simp[ny] at h
 | .undef,_,_,h | .du,_,_,h | .c0 _,_,_,h | .slice _ _,_,_,h | .tuple _,_,_,h | .ref _,_,_,h | .func _ _,_,_,h | .iface _ _,_,_,h | .ptr _ _,_,_,h | .own _ _,_,_,h | .view _ _ _ _ _,_,_,h | .mref _,_,_,h | .dC _,_,_,h | .cX _ _,_,_,h=>by simp[ny] at h
theorem P2:∀ (xs:List I) (cs r:List Value),sm xs cs=some r→∃ c1,cs=c1++r∧∀ w D E,aI w D E xs c1
 | [],cs,r,h=>by
  simp only[sm,u8] at h;exact ⟨[],by simp[h],fun w D E=>by simp[aI]⟩
 |x::xs,cs,r,h=>by
  simp only[sm] at h;split at h
  ·rename_i r' hx;obtain ⟨c1,h1,h2⟩:=P1 x cs r' hx;obtain ⟨c2,h3,h4⟩:=P2 xs r' r h;exact ⟨c1++c2,by rw[h1,h3,zz5],fun w D E=>by simp only[aI];exact ⟨c1,c2,rfl,h2 w D E,h4 w D E⟩⟩
  ·cases h
end
def gq(P:Program)(t:TypeId):Option I :=
 match (P.info? t).bind (·.zero),zU P 12 t with
 |some z,some x=>match ny x z.cells.toList with
  |some []=>some x
  |_=>none
 |_,_=>none
theorem mF{P:Program}{t:TypeId}{x:I}(h:gq P t=some x):∃ i z,P.info? t=some i∧i.zero=some z∧∀ w D E,af w D E x z.cells.toList:=by
 unfold gq at h;split at h
 ·rename_i z x' hz hx;split at h
  ·rename_i hk;simp only[u8] at h;subst h;obtain ⟨i,hi,hz'⟩:=Option.bind_eq_some_iff.1 hz;obtain ⟨c1,h1,h2⟩:=P1 _ _ _ hk;rw[zx7] at h1;exact ⟨i,z,hi,hz',fun w D E=>by rw[h1];exact h2 w D E⟩
  ·cases h
 ·cases h
def mj:Nat→List I→List (Nat×Nat)
 |_,[]=>[]
 |k,x::xs=>(k,x.size)::mj (k+x.size) xs
theorem MA:∀ (xs:List I) (k i:Nat),(mj k xs)[i]?=(xs[i]?).map fun x=>(k+I.sizes (xs.take i),x.size)
 | [],k,i=>by simp[mj]
 |x::xs,k,0=>by simp[mj,I.sizes]
 |x::xs,k,i+1=>by
  simp only[mj,List.getElem?_cons_succ,MA xs,List.take_succ_cons,I.sizes];cases xs[i]? <;>simp;omega
def ij (P : Program) (f : FuncId) : Bool := (P.funcs[f]?).any fun fn => fn.name != "runtime.NumGoroutine" && fn.body.isSome
def lL(P:Program)(ps:List (Nat×Operand)):Option (List (Nat×aJ)):=ps.mapM fun p=>(bK P 0 p.2).map fun x=>(p.1,x)
def jh(P:Program):Option Operand→Option (Option aJ)
 |none=>some none
 |some x=>(bK P 0 x).map some
def mO(P:Program):List Operand→List TypeId→Option (List aJ)
 | [],_=>some []
 |x::xs,ts=>match bK P (ts.headD 0) x,mO P xs ts.tail with
  |some y,some ys=>some (y::ys)
  |_,_=>none
def qj(P:Program):Nat→List Field→Bool
 |_,[]=>true
 |k,f::fs=>f.offset==k&&qj P (k+P.cellsOf f.type) fs
def gS(P:Program):Nat→TypeId→Option cN
 |0,_=>none
 |d+1,t=>match P.underlying t with
  |some (.int k)=>some (.i k)
  |some .bool=>some .b
  |some .string=>some .s
  | some (.struct fs) => if P.stoodInHeld t = false ∧ (fs.toList.all fun f => f.name != "_") = true ∧ qj P 0 fs.toList = true then
    (fs.toList.mapM fun (f:Field)=>match gS P d f.type with
     |some ty=>if ty.size=P.cellsOf f.type then some ty else none
     |none=>none).map .br else none
  |some (.array n e)=>match gS P d e with
   |some ty=>if ty.size=P.cellsOf e∧(P.info? e).isSome=true then some (.kO n ty) else none
   |none=>none
  |_=>none
def rA:Option TypeDesc→Bool
 |some (.int _)=>true
 |_=>false
def xT:cN→Bool
 | .i _=>true
 |_=>false
def mc(P:Program)(t:TypeId):Option cN:=match P.underlying t with
 |some (.int k)=>some (.i k)
 |some (.struct fs)=>match gS P 12 t with
  |some (.br l)=>if l.all xT=true∧(fs.all fun f=>rA (P.underlying f.type))=true then some (.br l) else none
  |_=>none
 |_=>none
def uV(P:Program)(t:TypeId)(z:I):Bool:=match (P.info? t).bind (·.zero) with
 |some (.agg _)=>z.isAgg
 |some _ => !z.isAgg
 |none=>false
def zt:Operand→Operand→Bool
 | .tmp a,.tmp b=>a==b
 |_,_=>false
theorem amw{x y:Operand}(h:zt x y=true):y=x:=by
 unfold zt at h;split at h
 ·simp only[beq_iff_eq] at h;rw[h]
 ·cases h
def dL(P:Program)(o:Oper):Option cn :=
 match o.op with
 | .move x | .assign x=>(bK P o.type x).map .mv
 | .pick c a b=>match bK P 0 c,bK P o.type a,bK P o.type b with
  |some c,some a,some b=>some (.pick c a b)
  |_,_,_=>none
 | .binOp op t x y _=>match P.underlying t,bK P 0 x,bK P 0 y with
  |some (.int _),some x,some y | some .string,some x,some y=>some (.bin op x y)
  |some (.slice _),some x,some y=>match y with
   | .c (.nils _)=>if op=.eql∨op=.neq then some (.nilS (op==.neq) x) else none
   |_=>none
  |some (.pointer _),some x,some y=>if op=.eql∨op=.neq then some (.ptrE (op==.neq) x y) else none
  |some _,some x,some y=>if (op=.eql∨op=.neq)∧P.eqGuardType P.depth t=false then (gS P 12 t).map fun ty=>.eqv ty (op==.neq) x y else none
  |_,_,_=>none
 | .unOp op _ x=>(bK P 0 x).map (.un op)
 | .nilCheck x=>(bK P 0 x).map .nilC
 | .makeMap _ none=>some .j9
 | .lookup t m k ok=>match P.underlying t,bK P 0 m,bK P 0 k with
  |some (.map kt et),some m,some k=>match mc P kt,gq P et with
   |some ty,some z=>if uV P et z=true then some (.lk ty z ok m k) else none
   |_,_=>none
  |_,_,_=>none
 | .mapUpdate t m k v | .insert t m k v=>match P.underlying t,bK P 0 m,bK P 0 k with
  |some (.map kt et),some m,some k=>match mc P kt,bK P et v with
   |some ty,some v=>some (.gY ty m k v)
   |_,_=>none
  |_,_,_=>none
 | .makeSlice t l l'=>match P.underlying t,bK P 0 l with
  |some (.slice e),some n=>match gq P e with
   |some z=>if zt l l'=true∧z.size=1∧P.cellsOf e=1 then some (.kB e (P.bytesOf e) z n) else none
   |none=>none
  |_,_=>none
 | .range t x=>match P.underlying t with
  |some (.map _ _)=>(bK P 0 x).map .kI
  |_=>none
 | .next x false=>(bK P 0 x).map .jN
 | .entry x=>(bK P 0 x).map .ent
 | .convert oo dst x=>match P.underlying oo,P.underlying dst,bK P 0 x with
  |some (.int _),some (.int k),some x=>some (.conv k x)
  |_,_,_=>none
 | .load t x=>match fY P t,bK P 0 x with
  |some s,some x=>some (.ld s x)
  |_,_=>none
 | .fieldAddr t x f=>match P.underlying t,bK P 0 x with
  |some (.struct fs),some x=>match fs[f]? with
   |some fd=>if P.cellsOf fd.type=0 then none else some (.fa f fd.offset x)
   |none=>none
  |_,_=>none
 | .field t x f=>match P.underlying t,bK P 0 x with
  |some (.struct fs),some x=>match fs[f]? with
   |some fd=>(fY P fd.type).map fun s=>.fl f fd.offset s x
   |none=>none
  |_,_=>none
 | .indexAddr t x i=>match P.underlying t,bK P 0 x,bK P 0 i with
  |some (.array n e),some x,some i=>if (P.info? e).isSome then some (.ia n (P.cellsOf e) x i) else none
  |some (.slice e),some x,some i=>if (P.info? e).isSome then some (.is (P.cellsOf e) x i) else none
  |_,_,_=>none
 | .index t x i=>match P.underlying t,bK P 0 x,bK P 0 i with
  |some (.array n e),some x,some i=>(fY P e).map fun s=>.ix n (P.cellsOf e) s x i
  |_,_,_=>none
 | .slice t x lo hi mx=>match P.underlying t,bK P 0 x with
  |some (.array n e),some x=>match lo,hi,mx with
   |none,none,none=>if (P.info? e).isSome then some (.va n (P.cellsOf e) x) else none
   |_,_,_=>none
  |some (.slice e),some x=>match jh P lo,jh P hi,jh P mx with
   |some lo,some hi,some mx=>if (mx.isSome=true→hi.isSome=true)∧(P.info? e).isSome=true then some (.sl (P.cellsOf e) x lo hi mx) else none
   |_,_,_=>none
  |_,_=>none
 | .build t parts=>match gq P t,lL P parts.toList with
  |some (.agg zs),some ps=>match P.underlying t with
   |some (.struct fs)=>if (fs.toList.map fun f=>(f.offset,P.cellsOf f.type))=mj 0 zs∧(fs.all fun f=>(P.info? f.type).isSome)=true then some (.bld zs ps) else none
   |some (.array n e)=>if zs.length=n∧(zs.all fun z=>z.size==P.cellsOf e)=true∧(P.info? e).isSome=true then some (.bld zs ps) else none
   |_=>none
  |_,_=>none
 | .buildSlice t len parts=>match P.underlying t with
  |some (.slice e)=>match lL P parts.toList with
   |some ps=>if len=0∧parts = #[]∧(P.info? e).isSome=true then some (.bs0 (P.cellsOf e)) else if ps.map (·.1)=List.range len∧0<P.cellsOf e∧0<len∧len*P.cellsOf e≤16777216∧((P.info? e).bind (·.zero)).isSome=true then some (.bs e (P.cellsOf e) (ps.map (·.2))) else none
   |none=>none
  |_=>none
 | .extract x i=>(bK P 0 x).map fun x=>.ext x i
 | .makeFunc (.func f) first caps=>if first.isEmpty then (mO P caps.toList []).map (.mk f) else none
 | .alloc t=>(gq P t).map .alloc
 | .box t x=>(bK P t x).map .box
 | .store t x v=>match fY P t,bK P 0 x,bK P t v with
  |some s,some x,some v=>if s.isSome=true∨P.cellsOf t=1 then some (.br s x v) else none
  |_,_,_=>none
 | .call { callee:=.value (.func f),args,argTypes } =>if ij P f then (mO P args.toList argTypes.toList).map (.call f) else (mO P args.toList argTypes.toList).map (.kL f)
 | .call { callee:=.value x,args,argTypes } =>match bK P 0 x,mO P args.toList argTypes.toList with
  |some x,some args=>some (.eF x args)
  |_,_=>none
 | .call { callee:=.builtin .len,args,argTypes } =>match args.toList,argTypes.toList with
  | [x],[t]=>match P.underlying t with
   |some (.slice _)=>(bK P t x).map .len
   |some .string=>(bK P t x).map .lenT
   |_=>none
  |_,_=>none
 | .call { callee:=.builtin .append,args,argTypes } =>match args.toList,argTypes.toList with
  | [s,x],[t,t']=>match P.underlying t,bK P t s,bK P t' x with
   |some (.slice e),some s,some x=>if t=t'∧0<P.cellsOf e∧(gq P e).map I.size=some (P.cellsOf e) then (gq P e).map fun z=>.dF e (P.cellsOf e) (P.bytesOf e) z s x else
    if rA (P.underlying t')=true∧0<P.cellsOf e∧(gq P e).map I.size=some (P.cellsOf e) then (gq P e).map fun z=>.lI e (P.cellsOf e) (P.bytesOf e) z s x else none
   |_,_,_=>none
  |_,_=>none
 | .call { callee:=.builtin .cap,args,argTypes } =>match args.toList,argTypes.toList with
  | [x],[t]=>match P.underlying t with
   |some (.slice _)=>(bK P t x).map .cap
   |_=>none
  |_,_=>none
 | .call { callee:=.builtin .clear,args,argTypes } =>match args.toList,argTypes.toList with
  | [x],[t]=>match P.underlying t,bK P t x with
   |some (.slice e),some x=>(gq P e).map fun z=>.iQ (P.cellsOf e) z x
   |_,_=>none
  |_,_=>none
 | .call { callee:=.builtin .copy,args,argTypes } =>match args.toList,argTypes.toList with
  | [x,y],[t,t']=>match P.underlying t,bK P t x,bK P t' y with
   |some (.slice e),some x,some y=>if t=t'∧(P.info? e).isSome=true then some (.lQ (P.cellsOf e) x y) else none
   |_,_,_=>none
  |_,_=>none
 |_=>none
def dW(c:cU)(A:ae)(o:Oper)(x:I):Prop :=
 ∀ a w D E,aX c A a w D E→∃ v w' D',(execOp a.eval o).run c.P w=.ok (.value v) w'∧aX c A a w' D' E∧aY w' D' E x v
section
variable {c:cU} {A:ae} {o:Oper} {x:I}
theorem dW.same(h:∀ a w D E,aX c A a w D E→∃ v,(execOp a.eval o).run c.P w=.ok (.value v) w∧aY w D E x v):dW c A o x :=
 fun a w D E hs=>let ⟨v,h1,h2⟩:=h a w D E hs;⟨v,w,D,h1,hs,h2⟩
theorem KI{y:Operand}{z:aJ}(ho:o.op=.move y∨o.op=.assign y)(hz:bK c.P o.type y=some z):dW c A o (ab A z) :=
 .same fun a w D E hs=>⟨a.eval y,by rcases ho with ho | ho <;>simp[execOp,ho],ct hs hz⟩
theorem aiU{q y z:Operand}{q' y' z':aJ}{t:Bool}(ho:o.op=.pick q y z)(hq:bK c.P 0 q=some q')(hy:bK c.P o.type y=some y')(hz:bK c.P o.type z=some z')
  (ht:ab A q'=.bool t):dW c A o (if t then ab A y' else ab A z') :=
 .same fun a w D E hs=>by
  have h1:=ct hs hq;rw[ht] at h1;have h2:=mz h1;refine ⟨if t then a.eval y else a.eval z,by cases t <;>simp[execOp,ho,h2,asBool],?_⟩;cases t
  ·exact ct hs hz
  ·exact ct hs hy
theorem zk{P:Program}{w:World}(op:BinOp)(t:TypeId)(x y:Operand){u v:Value}(hu:u.oneCell'=true)(hn:u≠.nilIface):(eqGuard op t x y u v).run P w=.ok () w:=by
 cases op <;>cases u <;>simp[Value.oneCell'] at hu <;>first | (exact absurd rfl hn) | (cases v <;>simp[eqGuard])
theorem Ry{op:BinOp}{x y z:I}(h:cJ op x y=some z){P:Program}{t:TypeId}{w:World}{D:aR}{E:aZ}{u v:Value}(hx:aY w D E x u)(hy:aY w D E y v)(xo yo:Operand) :
  ∃ r,(do eqGuard op t xo yo u v;binOp op t u v:Sem Value).run P w=.ok r w∧aY w D E z r:=by
 unfold cJ at h;split at h
 ·rename_i k a k' b;obtain ⟨rfl,ha⟩:=fC hx;obtain ⟨rfl,hb⟩:=fC hy;have hg:∀ op,(eqGuard op t xo yo (.int k a) (.int k' b)).run P w=.ok () w:=fun op=>zk op t xo yo rfl (by simp);simp only[Sem.run_bind,hg,Result.andThen_ok];split at h
  ·split at h
   ·rename_i hb0;simp only[u8] at h;subst h;have:¬ b<0:=by omega
    exact ⟨_,by simp[binOp,Op.shift,this],lg (qH _ _)⟩
   ·cases h
  ·split at h
   ·rename_i hb0;simp only[u8] at h;subst h;have:¬ b<0:=by omega
    exact ⟨_,by simp[binOp,Op.shift,this],lg (aar _ _ _ ha)⟩
   ·cases h
  ·rename_i op h1 h2;split at h
   ·rename_i hk;subst hk;split at h <;>first
     |(simp at h;done)
     |(simp only[u8] at h;subst h;exact ⟨_,by simp[binOp,Op.intArith,Op.intBits,Op.intCmp],lg (qH _ _)⟩)
     |(simp only[u8] at h;subst h;exact ⟨_,by simp[binOp,Op.intCmp],oV _⟩)
     |(split at h
       ·cases h
       ·rename_i hb0;simp only[u8] at h;subst h
        first
         |exact ⟨_,by simp[binOp,Op.intDiv,hb0],lg (qH _ _)⟩
         |exact ⟨_,by simp[binOp,Op.intDiv,hb0],lg (anf _ _ _ ha)⟩)
   ·cases h
 ·rename_i s s';obtain ⟨rfl,hs1⟩:=oj hx;obtain ⟨rfl,hs2⟩:=oj hy;have hg:∀ op,(eqGuard op t xo yo (.string s) (.string s')).run P w=.ok () w:=fun op=>zk op t xo yo rfl (by simp);simp only[Sem.run_bind,hg,Result.andThen_ok];split at h <;>first
   |(simp at h;done)
   |(simp only[u8] at h;subst h;exact ⟨_,by simp[binOp,Op.stringOp],oV _⟩)
   |(split at h
     ·rename_i hl;simp only[u8] at h;subst h;have hl':¬ (((s.size+s'.size:Nat):Int)>IntKind.i64.max):=by
       have e:IntKind.i64.max=9223372036854775807:=by simp[IntKind.max,IntKind.bits,IntKind.signed]
       rw[e];omega
      refine ⟨.string (s++s'),by simp only[binOp,Op.stringOp,if_neg hl',Sem.run_pure],?_⟩;exact ⟨_,by simp[bL,I.isAgg];rfl,by simp only[af,true_and];rw[ByteArray.size_append];unfold maxLen;omega⟩
     ·cases h)
 ·cases h
theorem KG{op:BinOp}{t yt:TypeId}{y z:Operand}{y' z':aJ}(ho:o.op=.binOp op t y z yt)(hy:bK c.P 0 y=some y')(hz:bK c.P 0 z=some z')(h:cJ op (ab A y') (ab A z')=some x):dW c A o x :=
 .same fun a w D E hs=>by
  obtain ⟨r,h1,h2⟩:=Ry h (P:=c.P) (t:=t) (ct hs hy) (ct hs hz) y z;exact ⟨r,by simp only[execOp,ho,Sem.run_bind] at *;rw[h1];rfl,h2⟩
theorem aiT{t:TypeId}{y:Operand}{y':aJ}{b:Bool}(ho:o.op=.unOp .not t y)(hy:bK c.P 0 y=some y')(h:ab A y'=.bool b):dW c A o (.bool !b) :=
 .same fun a w D E hs=>by
  have h1:=ct hs hy;rw[h] at h1;exact ⟨.bool !b,by simp[execOp,ho,mz h1,Op.unary],oV _⟩
theorem aiS{t:TypeId}{y:Operand}{y':aJ}{k:IntKind}{n:Int}(ho:o.op=.unOp .neg t y)(hy:bK c.P 0 y=some y')(h:ab A y'=.int k n):dW c A o (.int k (k.wrap (0-n))) :=
 .same fun a w D E hs=>by
  have h1:=ct hs hy;rw[h] at h1;exact ⟨.int k (k.wrap (0-n)),by simp[execOp,ho,(fC h1).1,Op.unary,Op.intArith],lg (qH _ _)⟩
theorem aiC{t:TypeId}{y:Operand}{y':aJ}{k:IntKind}{n:Int}(ho:o.op=.unOp .xor t y)(hy:bK c.P 0 y=some y')(h:ab A y'=.int k n):dW c A o (.int k (pN k n)) :=
 .same fun a w D E hs=>by
  have h1:=ct hs hy;rw[h] at h1;exact ⟨.int k (pN k n),by simp[execOp,ho,(fC h1).1,Op.unary,Op.intBits,pN],lg (qH _ _)⟩
theorem aiB{oo dst:TypeId}{y:Operand}{y':aJ}{k k0 k1:IntKind}{n:Int}(ho:o.op=.convert oo dst y)(h1:c.P.underlying oo=some (.int k0))(h2:c.P.underlying dst=some (.int k))
  (hy:bK c.P 0 y=some y') (h:ab A y'=.int k1 n):dW c A o (.int k (k.wrap n)) :=
 .same fun a w D E hs=>by
  have h3:=ct hs hy;rw[h] at h3;exact ⟨.int k (k.wrap n),by simp[execOp,ho,(fC h3).1,convert,run_underlying h1,run_underlying h2,Conv.intToInt],lg (qH _ _)⟩
theorem aiF{y:Operand}{y':aJ}{i:Nat}{fs:List I}(ho:o.op=.extract y i)(hy:bK c.P 0 y=some y')(h:ab A y'=.tuple fs)(hi:fs[i]?=some x):dW c A o x :=
 .same fun a w D E hs=>by
  have h3:=ct hs hy;rw[h] at h3;obtain ⟨vs,h4,h5⟩:=h3;have:∀ (fs:List I) (vs:List Value) (i:Nat),aH w D E fs vs→fs[i]?=some x→∃ v,vs[i]?=some v∧aY w D E x v:=by
   intro fs
   induction fs with
   |nil=>intro vs i _ hi;simp at hi
   |cons f fs ih =>
    intro vs i hr hi;simp only[aH] at hr;obtain ⟨v,rest,cs,rfl,k1,k2,k3⟩:=hr;cases i with
    |zero =>
     simp only[List.getElem?_cons_zero,u8] at hi ⊢;subst hi;refine ⟨v,rfl,?_⟩;cases f <;>simp only[aY] <;>first | (simp only[af] at k2;done) | exact ⟨cs,k1,k2⟩
    |succ i=>simpa using ih rest i k3 (by simpa using hi)
  obtain ⟨v,h6,h7⟩:=this fs vs i h5 hi;exact ⟨v,by simp[execOp,ho,h4,Instr.extract,h6],h7⟩
theorem m9{w:World}{D:aR}{E:aZ}{x:I}{v:Value}{cs:List Value}(h1:bL x v cs)(h2:af w D E x cs):aY w D E x v:=by
 cases x <;>simp only[aY] <;>first | (simp only[af] at h2;done) | exact ⟨cs,h1,h2⟩
theorem O5{P:Program}{w:World}{t:TypeId}{s:Option Nat}(h:fY P t=some s):(isAgg t).run P w=.ok s.isSome w:=by
 unfold fY at h;unfold isAgg;cases hu:P.underlying t with
 |none=>simp[hu] at h
 |some d =>
  rw[Sem.run_bind,run_underlying hu w];cases d <;>simp_all <;>(subst h;rfl)
theorem x0{P:Program}{t:TypeId}{n:Nat}(h:fY P t=some (some n)):n=P.cellsOf t:=by
 unfold fY at h;split at h <;>simp_all
theorem xM{P:Program}{t:TypeId}{d:TypeDesc}(h:P.underlying t=some d):∃ i,P.info? t=some i:=by
 unfold Program.underlying at h;cases hi:P.info? t with
 |none=>simp[hi] at h
 |some i=>exact ⟨i,rfl⟩
theorem jw{P:Program}{w:World}{t:TypeId}{i:TypeInfo}(h:P.info? t=some i):(sizeOf t).run P w=.ok (P.cellsOf t) w:=by
 simp[sizeOf,typeInfo,h,Program.cellsOf]
theorem tA{P:Program}{t:TypeId}{s:Option Nat}(h:fY P t=some s):∃ i,P.info? t=some i:=by
 unfold fY at h;split at h
 ·rename_i fs hu;exact xM hu
 ·rename_i n e hu;exact xM hu
 ·rename_i d _ _ hu;exact xM hu
 ·cases h
theorem nB(b off j:Nat):(⟨b,off,none⟩:Addr).add j=⟨b,off+j,none⟩:=by unfold Addr.add;split <;>simp_all
theorem O6{P:Program}{w:World}{D:aR}{E:aZ}{t:TypeId}{s:Option Nat}{b off:Nat}{cs:List Value}{y:I}(hk:fY P t=some s)(hok:b8 s y=true)
  (hcs:∀ j u,cs[j]?=some u→w.cell? ⟨b,off+j,none⟩=some u) (hy:af w D E y cs):∃ v,(loadVar t ⟨b,off,none⟩).run P w=.ok v w∧aY w D E y v:=by
 have hag:=O5 (w:=w) hk;cases s with
 |none =>
  simp only[b8,Bool.not_eq_true'] at hok;have hl:=af.length _ _ hy;have hsz:y.size=1:=by cases y <;>simp_all[I.isAgg,I.size]
  rw[hsz] at hl
  match cs,hl with
  | [v],_ =>
   have:=hcs 0 v rfl;rw[Nat.add_zero] at this;refine ⟨v,?_,LC hok hy⟩;simp only[loadVar,Sem.run_bind,hag,Result.andThen_ok,Option.isSome_none,zz6,if_false,run_load,this]
 |some n =>
  simp only[b8,zz2,beq_iff_eq] at hok;obtain ⟨hag',hsz⟩:=hok;have hn:=x0 hk;obtain ⟨i,hi⟩:=tA hk;have hl:=af.length _ _ hy;refine ⟨.agg cs.toArray,?_,m9 (by simp[bL,hag']) hy⟩;have hlc:=run_loadCells_list (P:=P) w ⟨b,off,none⟩ cs (fun j u hj=>by rw[nB];exact hcs j u hj);rw[hl,hsz,hn] at hlc;simp only[loadVar,Sem.run_bind,hag,Result.andThen_ok,Option.isSome_some,if_true,jw hi,hlc,Sem.run_pure]
theorem aiP{t:TypeId}{y:Operand}{y':aJ}{s:Option Nat}(ho:o.op=.load t y)(hk:fY c.P t=some s)(hy:bK c.P 0 y=some y')(h:cD A (ab A y')=some x)(hok:b8 s x=true):dW c A o x :=
 .same fun a w D E hs=>by
  obtain ⟨b,off,cs,h1,h2,h3⟩:=hs.AX (ct hs hy) h;obtain ⟨v,h4,h5⟩:=O6 hk hok h2 h3;exact ⟨v,by simp[execOp,ho,Instr.loadAt,h1,Instr.sureAddr,h4],h5⟩
theorem ux{w:World}{D:aR}{b off:Nat}{c1 c2 c3:List Value}(h:hJ w D b off (c1++c2++c3)):hJ w D b (off+c1.length) c2:=by
 intro j v hj;have hjl:j<c2.length:=(zy6.1 hj).1;have:=h (c1.length+j) v (by rw[zz5,zw0 (by omega),Nat.add_sub_cancel_left,zy8 (by omega)];exact hj)
 rwa [←Nat.add_assoc] at this
theorem cR.tZ:∀ (p:List Nat) (s:cR) (o i:Nat) (l:List cR),s.off p=some o→s.part p=some (.ep l)→i<l.length→s.off (p++[i])=some (o+cR.sizes (l.take i))
 | [],s,o,i,l,h1,h2,h3=>by
  simp only[cR.part,u8] at h2;subst h2;simp only[cR.off,u8] at h1;subst h1;simp[cR.off,zz9 h3]
 |k::p,.one,o,i,l,h1,h2,h3=>by simp[cR.part] at h2
 |k::p,.ep m,o,i,l,h1,h2,h3=>by
  simp only[cR.off,cR.part,zy0] at *;cases hk:m[k]? with
  |none=>simp[hk] at h2
  |some s =>
   simp only[hk] at h1 h2 ⊢;simp only[zz1] at h1;obtain ⟨o',h4,rfl⟩:=h1;rw[cR.tZ p s o' i l h4 h2 h3];simp[Nat.add_assoc]
theorem ph{esz:Nat} : ∀ (fs:List I) (k:Nat),(∀ f∈fs,f.size=esz)→k≤fs.length→I.sizes (fs.take k)=k*esz:=by
 intro fs k h hk;rw[I.jd _ (fun x hx=>h x (List.mem_of_mem_take hx))];simp[Nat.min_eq_left hk]
theorem rh{n esz:Nat}{fs:List I}(h:iT n esz fs=true):fs.length=n∧∀ f∈fs,f.size=esz:=by
 simp only[iT,zz2,beq_iff_eq,zx2] at h;exact h
theorem O3{P:Program}{w:World}{t:TypeId}{f b off:Nat}{fs:Array Field}{fd:Field}(hu:P.underlying t=some (.struct fs))(hf:fs[f]?=some fd)(hz:¬ P.cellsOf fd.type=0) :
  (Instr.fieldAt t (.pointer (some ⟨b,off,none⟩)) f).run P w=.ok (.pointer (some ⟨b,off+fd.offset,none⟩)) w:=by
 have hi:∃ i,P.info? fd.type=some i:=by
  cases h:P.info? fd.type with
  |none=>simp[Program.cellsOf,h] at hz
  |some i=>exact ⟨i,rfl⟩
 obtain ⟨i,hi⟩:=hi;simp only[Instr.fieldAt,Sem.run_bind,run_underlying hu,Result.andThen_ok,hf,Instr.sureAddr,Sem.run_pure,fieldPlace,jw hi,Sem.run_ite,if_neg hz,nB]
theorem aiH{t:TypeId}{y:Operand}{y':aJ}{f:Nat}{fs:Array Field}{fd:Field}{gs:List I}(ho:o.op=.fieldAddr t y f)(hu:c.P.underlying t=some (.struct fs))(hf:fs[f]?=some fd)(hz:¬ c.P.cellsOf fd.type=0)
  (hy:bK c.P 0 y=some y') (h:ab A y'=.ref (.agg gs)) (hx:gs[f]?=some x) (hoff:I.sizes (gs.take f)=fd.offset):dW c A o (.ref x) :=
 .same fun a w D E hs=>by
  have h1:=ct hs hy;rw[h] at h1;obtain ⟨b,off,cs,h2,h3,h4⟩:=qt h1;simp only[af] at h4;obtain ⟨c1,c2,c3,rfl,k1,_,k2,_⟩:=ni gs cs f x h4 hx;refine ⟨_,by simp only[execOp,ho,h2,Sem.run_bind,O3 hu hf hz];rfl,tN (cs:=c2) ?_ k2⟩;rw[←hoff,←k1];exact ux h3
theorem aiG{t:TypeId}{y:Operand}{y':aJ}{f n:Nat}{p:List Nat}{fs:Array Field}{fd:Field}{gs:List I}(ho:o.op=.fieldAddr t y f)(hu:c.P.underlying t=some (.struct fs))(hf:fs[f]?=some fd)(hz:¬ c.P.cellsOf fd.type=0)
  (hy:bK c.P 0 y=some y') (h:ab A y'=.ptr n p) (hd:cD A (.ptr n p)=some (.agg gs)) (hl:f<gs.length) (hoff:I.sizes (gs.take f)=fd.offset):dW c A o (.ptr n (p++[f])) :=
 .same fun a w D E hs=>by
  have h1:=ct hs hy;rw[h] at h1;obtain ⟨b,aQ,off,h2,h3,h4⟩:=pd h1;obtain ⟨z,b',cs,T,off',c1,c2,c3,k1,k2,_,k3,k4,k5,k6,k7,k8,k9,_⟩:=hs.at hd;rw[k2] at h2;simp only[u8,bW.aA.injEq] at h2;obtain ⟨rfl,rfl⟩:=h2;refine ⟨_,by simp only[execOp,ho,h4,Sem.run_bind,O3 hu hf hz];rfl,?_⟩;refine ⟨_,by simp[bL,I.isAgg];rfl,?_⟩;simp only[af];refine ⟨b',z.aQ,off+fd.offset,k2,?_,rfl⟩;rw[cR.tZ p z.aQ off f _ h3 (nv p z _ k4) (by rw[I.dB];simpa using hl),I.dB,←List.map_take,←I.dB,I.nw,hoff]
theorem O4{P:Program}{w:World}{t e:TypeId}{n b off:Nat}{kk:IntKind}{k:Int}{i:TypeInfo}(hu:P.underlying t=some (.array n e))(hi:P.info? e=some i)(hk:0≤k∧k<n) :
  (Instr.indexAt t (.pointer (some ⟨b,off,none⟩)) (.int kk k)).run P w=.ok (.pointer (some ⟨b,off+k.toNat*P.cellsOf e,none⟩)) w:=by
 simp[Instr.indexAt,asIntOf,run_underlying hu,Instr.sureAddr,hk,jw hi,nB]
theorem zl{P:Program}{w:World}{t e:TypeId}{n b off cap:Nat}{kk:IntKind}{k:Int}{i:TypeInfo}(hu:P.underlying t=some (.slice e))(hi:P.info? e=some i)(hk:0≤k∧k<n) :
  (Instr.indexAt t (.slice (some ⟨b,off,none⟩) n cap) (.int kk k)).run P w=.ok (.pointer (some ⟨b,off+k.toNat*P.cellsOf e,none⟩)) w:=by
 simp[Instr.indexAt,asIntOf,run_underlying hu,hk,jw hi,nB]
theorem aiK{t e:TypeId}{y z:Operand}{y' z':aJ}{n:Nat}{i:TypeInfo}{gs:List I}{kk:IntKind}{k:Int}(ho:o.op=.indexAddr t y z)(hu:c.P.underlying t=some (.array n e))(hi:c.P.info? e=some i)
  (hy:bK c.P 0 y=some y') (hz:bK c.P 0 z=some z') (h:ab A y'=.ref (.agg gs)) (h':ab A z'=.int kk k) (hk:0≤k∧k<n) (hev:iT n (c.P.cellsOf e) gs=true) (hx:gs[k.toNat]?=some x):dW c A o (.ref x) :=
 .same fun a w D E hs=>by
  have h1:=ct hs hy;rw[h] at h1;have h1':=ct hs hz;rw[h'] at h1';obtain ⟨b,off,cs,h2,h3,h4⟩:=qt h1;simp only[af] at h4;obtain ⟨c1,c2,c3,rfl,k1,_,k2,_⟩:=ni gs cs k.toNat x h4 hx;obtain ⟨e1,e2⟩:=rh hev;have hl:k.toNat<gs.length:=(zy6.1 hx).1;refine ⟨_,by simp only[execOp,ho,h2,(fC h1').1,Sem.run_bind,O4 hu hi hk];rfl,tN (cs:=c2) ?_ k2⟩;rw[←ph gs k.toNat e2 (by omega),←k1];exact ux h3
theorem aiJ{t e:TypeId}{y z:Operand}{y' z':aJ}{n m:Nat}{p:List Nat}{i:TypeInfo}{gs:List I}{kk:IntKind}{k:Int}(ho:o.op=.indexAddr t y z)(hu:c.P.underlying t=some (.array n e))(hi:c.P.info? e=some i)
  (hy:bK c.P 0 y=some y') (hz:bK c.P 0 z=some z') (h:ab A y'=.ptr m p) (h':ab A z'=.int kk k) (hk:0≤k∧k<n) (hd:cD A (.ptr m p)=some (.agg gs)) (hev:iT n (c.P.cellsOf e) gs=true):dW c A o (.ptr m (p++[k.toNat])) :=
 .same fun a w D E hs=>by
  have h1:=ct hs hy;rw[h] at h1;have h1':=ct hs hz;rw[h'] at h1';obtain ⟨b,aQ,off,h2,h3,h4⟩:=pd h1;obtain ⟨zz,b',cs,T,off',c1,c2,c3,k1,k2,_,k3,k4,k5,k6,k7,k8,k9,_⟩:=hs.at hd;rw[k2] at h2;simp only[u8,bW.aA.injEq] at h2;obtain ⟨rfl,rfl⟩:=h2;obtain ⟨e1,e2⟩:=rh hev;have hl:k.toNat<gs.length:=by omega
  refine ⟨_,by simp only[execOp,ho,h4,(fC h1').1,Sem.run_bind,O4 hu hi hk];rfl,?_⟩;refine ⟨_,by simp[bL,I.isAgg];rfl,?_⟩;simp only[af];refine ⟨b',zz.aQ,off+k.toNat*c.P.cellsOf e,k2,?_,rfl⟩;rw[cR.tZ p zz.aQ off k.toNat _ h3 (nv p zz _ k4) (by rw[I.dB];simpa using hl),I.dB,←List.map_take,←I.dB,I.nw,ph gs _ e2 (by omega)]
theorem Ea{w:World}{D:aR}{E:aZ}{b off sz k:Nat}{cs:List Value}{es:List I}{x:I}(h1:hJ w D b off cs)(h2:aI w D E es cs)(h3:∀ e∈es,e.size=sz)(hx:es[k]?=some x) :
  ∃ c2,hJ w D b (off+k*sz) c2∧af w D E x c2:=by
 obtain ⟨c1,c2,c3,rfl,k1,_,k2,_⟩:=ni es cs k x h2 hx;have hl:k<es.length:=(zy6.1 hx).1;refine ⟨c2,?_,k2⟩;rw[←ph es k h3 (by omega),←k1];exact ux h1
theorem aiL{t e:TypeId}{y z:Operand}{y' z':aJ}{i:TypeInfo}{es:List I}{kk:IntKind}{k:Int}(ho:o.op=.indexAddr t y z)(hu:c.P.underlying t=some (.slice e))(hi:c.P.info? e=some i)
  (hy:bK c.P 0 y=some y') (hz:bK c.P 0 z=some z') (h:ab A y'=.slice (c.P.cellsOf e) es) (h':ab A z'=.int kk k) (hk:0≤k∧k<es.length) (hx:es[k.toNat]?=some x):dW c A o (.ref x) :=
 .same fun a w D E hs=>by
  have h1:=ct hs hy;rw[h] at h1;have h1':=ct hs hz;rw[h'] at h1';obtain ⟨ad,cap,rfl',h2,h3,h4,h5⟩:=oi h1;rcases h4 with h4 | ⟨b,off,cs,rfl,h6,h7⟩
  ·subst h4;simp at hx
  obtain ⟨c2,k1,k2⟩:=Ea h6 h7 h5 hx;exact ⟨_,by simp only[execOp,ho,rfl',(fC h1').1,Sem.run_bind,zl hu hi hk];rfl,tN k1 k2⟩
theorem aX.amC{a:Act}{w:World}{D:aR}{E:aZ}(h:aX c A a w D E){n sz b cap:Nat}{T:TypeId}{es:List I}(hn:A.o n=some (.bY T sz es))(aw:E n=some (.rw (some (b,cap)) es.length)) :
  aX c A a w (fun b' o=>D b' o∨(b'=b∧o<es.length*sz)) E:=by
 have hrow:=h.bY hn;obtain ⟨aF,k1,k2,k3⟩:=hrow;rw[aw] at k1;simp only[u8,bW.rw.injEq,and_true] at k1;subst k1;obtain ⟨cs,pre,rest,k4,k5,k6,k7,k8,k9,k10,k11⟩:=k3;refine h.PX (fun _ _ hd=>.inl hd) ?_ ?_ ?_ ?_ ?_ ?_
 ·rintro b' o (hd | ⟨rfl,_⟩) hlt
  ·exact h.df _ _ hd hlt
  ·exact absurd k4 hlt
 ·rintro b' o (hd | ⟨rfl,_⟩)
  ·exact h.dv _ _ hd
  ·exact gj k5
 ·rintro m x b' hm hEm o (hd | ⟨rfl,_⟩)
  ·obtain ⟨b2,cs2,T2,q1,q2,q3,q4,q5⟩:=h.box hm;rw[q1] at hEm;simp only[u8,bW.aA.injEq,and_true] at hEm;subst hEm;exact q5 o hd
  ·have:=h.cZ m n _ _ b' hEm aw rfl rfl;subst this;rw[hm] at hn;cases hn
 ·rintro m T' sz' es' b' cap' hm hEm o (hd | ⟨rfl,ho⟩)
  ·obtain ⟨aF,q1,q2,q3⟩:=h.bY hm;rw[hEm] at q1;simp only[u8,bW.rw.injEq,and_true] at q1;subst q1;obtain ⟨cs',pre',rest',q4,q5,q6,q7,q8,q9,q10,q11⟩:=q3;have:=q11 o hd
   rwa [aI.length _ _ q7,I.jd _ q2] at this
  ·have:=h.cZ m n _ _ b' hEm aw rfl rfl;subst this;rw[hm] at hn;simp only[u8,ah.bY.injEq] at hn;obtain ⟨rfl,rfl,rfl⟩:=hn;exact ho
 ·rintro m T' xs b' cap' hm hEm o (hd | ⟨rfl,ho⟩)
  ·obtain ⟨aF,q1,_,q3⟩:=h.sc hm;rw[hEm] at q1;simp only[u8,bW.rw.injEq,and_true] at q1;subst q1;obtain ⟨_,_,_,_,_,_,_,_,q4⟩:=q3;exact q4 o hd
  ·have:=h.cZ m n _ _ b' hEm aw rfl rfl;subst this;rw[hm] at hn;cases hn
 ·rintro m e' b' hE' hoth hblk o (hd | ⟨rfl,_⟩)
  ·exact h.yR hE' hoth hblk o hd
  ·have:=h.cZ m n _ _ b' hE' aw hblk rfl;subst this;rw[hE'] at aw;cases aw;cases hoth
theorem aX.own{a:Act}{w:World}{D:aR}{E:aZ}(h:aX c A a w D E){n sz:Nat}{T:TypeId}{es:List I}{v:Value}(hn:A.o n=some (.bY T sz es))(hv:aY w D E (.own n es.length) v) :
  (es=[]∧E n=some (.rw none 0)∧v=.slice none 0 0) ∨
  ∃ b cap cs pre rest,E n=some (.rw (some (b,cap)) es.length)∧v=.slice (some ⟨b,0,none⟩) es.length cap∧c.fq b∧w.heap[b]?=some (.cells cs T (0,0))∧cs.toList=pre++rest ∧
   aI w D E es pre∧cs.size=cap*sz∧es.length≤cap∧cap≤maxLen∧(∀ o,D b o→o<pre.length):=by
 obtain ⟨cs0,h1,h2⟩:=hv;simp only[af] at h2;obtain ⟨aF,l,h3,h4,_,h5⟩:=h2;obtain ⟨blk',k1,k2,k3⟩:=h.bY hn;rw[k1] at h3;simp only[u8,bW.rw.injEq] at h3;obtain ⟨rfl,rfl⟩:=h3;have h5:=h5 rfl;cases blk' with
 |none =>
  simp only at k3 h5;subst k3;exact .inl ⟨rfl,k1,by simpa[bL,I.isAgg,h5] using h1.symm⟩
 |some bc =>
  obtain ⟨b,cap⟩:=bc;simp only at h5;obtain ⟨cs,pre,rest,k4,k5,k6,k7,k8,k9,k10,k11⟩:=k3;exact .inr ⟨b,cap,cs,pre,rest,k1,by simpa[bL,I.isAgg,h5] using h1.symm,k4,k5,k6,k7,k8,k9,k10,k11⟩
theorem aiM{t e:TypeId}{y z:Operand}{y' z':aJ}{i:TypeInfo}{es:List I}{n:Nat}{kk:IntKind}{k:Int}(ho:o.op=.indexAddr t y z)(hu:c.P.underlying t=some (.slice e))(hi:c.P.info? e=some i)
  (hy:bK c.P 0 y=some y') (hz:bK c.P 0 z=some z') (h:ab A y'=.own n es.length) {T:TypeId} (hn:A.o n=some (.bY T (c.P.cellsOf e) es)) (h':ab A z'=.int kk k) (hk:0≤k∧k<es.length) (hx:es[k.toNat]?=some x):dW c A o (.ref x):=by
 intro a w D E hs;have h1:=ct hs hy;rw[h] at h1;have h1':=ct hs hz;rw[h'] at h1';rcases hs.own hn h1 with ⟨rfl,_⟩ | ⟨b,cap,cs,pre,rest,k1,k2,k3,k4,k5,k6,k7,k8,k9,k10⟩
 ·simp at hx
 ·have hs':=hs.amC hn k1;obtain ⟨aF,q1,q2,_⟩:=hs.bY hn;have hpl:pre.length=es.length*c.P.cellsOf e:=by rw[aI.length _ _ k6,I.jd _ q2]
  have hr:hJ w (fun b' o=>D b' o∨(b'=b∧o<es.length*c.P.cellsOf e)) b 0 pre:=by
   have:=o5 (D:=fun b' o=>D b' o∨(b'=b∧o<es.length*c.P.cellsOf e)) (c1:=[]) k4 (by simpa using k5) (fun o ho=>.inr ⟨rfl,by simp at ho;omega⟩);simpa using this
  have hrc:aI w (fun b' o=>D b' o∨(b'=b∧o<es.length*c.P.cellsOf e)) E es pre :=
   aI.bN ⟨fun _ _ hd=>.inl hd,fun _ _ _ _ h=>h,fun _ _ _ h=>h,fun _ aF l h=>⟨aF,l,h,zz7 _,fun _=>rfl⟩,fun _ _ h=>h,fun _ _ h=>h,fun _ _ _ _ h=>h⟩ es pre k6
  obtain ⟨c2,q3,q4⟩:=Ea hr hrc q2 hx;exact ⟨_,w,_,by simp only[execOp,ho,k2,(fC h1').1,Sem.run_bind,zl hu hi hk];rfl,hs',tN q3 q4⟩
end
section
variable {c:cU} {A:ae} {o:Oper} {x:I}
theorem pc{P:Program}{w:World}{D:aR}{E:aZ}{t:TypeId}{s:Option Nat}{c1 c2 c3:List Value}{y:I}(hk:fY P t=some s)(hok:b8 s y=true)(hy:af w D E y c2) :
  ∃ v,(part t (c1++c2++c3).toArray c1.length).run P w=.ok v w∧aY w D E y v:=by
 have hag:=O5 (w:=w) hk;have hl:=af.length _ _ hy;cases s with
 |none =>
  simp only[b8,Bool.not_eq_true'] at hok;have hsz:y.size=1:=by cases y <;>simp_all[I.isAgg,I.size]
  rw[hsz] at hl
  match c2,hl with
  | [v],_ =>
   refine ⟨v,?_,LC hok hy⟩;simp[part,hag]
 |some n =>
  simp only[b8,zz2,beq_iff_eq] at hok;obtain ⟨hag',hsz⟩:=hok;have hn:=x0 hk;obtain ⟨i,hi⟩:=tA hk;refine ⟨.agg c2.toArray,?_,m9 (by simp[bL,hag']) hy⟩;have e:((c1++c2++c3).toArray.extract c1.length (c1.length+P.cellsOf t))=c2.toArray:=by
   have:P.cellsOf t=c2.length:=by rw[hl,hsz,hn]
   rw[this];simp
  simp only[part,Sem.run_bind,hag,Result.andThen_ok,Option.isSome_some,if_true,jw hi,e,Sem.run_pure]
theorem aiI{t:TypeId}{y:Operand}{y':aJ}{f:Nat}{s:Option Nat}{fs:Array Field}{fd:Field}{gs:List I}(ho:o.op=.field t y f)(hu:c.P.underlying t=some (.struct fs))(hf:fs[f]?=some fd)(hk:fY c.P fd.type=some s)
  (hy:bK c.P 0 y=some y') (h:ab A y'=.agg gs) (hx:gs[f]?=some x) (hoff:I.sizes (gs.take f)=fd.offset) (hok:b8 s x=true):dW c A o x :=
 .same fun a w D E hs=>by
  have h1:=ct hs hy;rw[h] at h1;obtain ⟨cs,h2,h4⟩:=jT h1;obtain ⟨c1,c2,c3,rfl,k1,_,k2,_⟩:=ni gs cs f x h4 hx;obtain ⟨v,k3,k4⟩:=pc (c1:=c1) (c3:=c3) hk hok k2;rw[k1,hoff] at k3;exact ⟨v,by simp only[execOp,ho,h2,Instr.field,Sem.run_bind,run_underlying hu,Result.andThen_ok,hf,asAgg,Sem.run_pure,k3],k4⟩
theorem aiO{t e:TypeId}{y z:Operand}{y' z':aJ}{n:Nat}{s:Option Nat}{gs:List I}{kk:IntKind}{k:Int}(ho:o.op=.index t y z)(hu:c.P.underlying t=some (.array n e))(hk:fY c.P e=some s)
  (hy:bK c.P 0 y=some y') (hz:bK c.P 0 z=some z') (h:ab A y'=.agg gs) (h':ab A z'=.int kk k) (hb:0≤k∧k<n) (hev:iT n (c.P.cellsOf e) gs=true) (hx:gs[k.toNat]?=some x) (hok:b8 s x=true):dW c A o x :=
 .same fun a w D E hs=>by
  have h1:=ct hs hy;rw[h] at h1;have h1':=ct hs hz;rw[h'] at h1';obtain ⟨cs,h2,h4⟩:=jT h1;obtain ⟨c1,c2,c3,rfl,k1,_,k2,_⟩:=ni gs cs k.toNat x h4 hx;obtain ⟨v,k3,k4⟩:=pc (c1:=c1) (c3:=c3) hk hok k2;obtain ⟨e1,e2⟩:=rh hev;obtain ⟨i,hi⟩:=tA hk;have hl:k.toNat<gs.length:=(zy6.1 hx).1;rw[k1,ph gs k.toNat e2 (by omega)] at k3;exact ⟨v,by simp only[execOp,ho,h2,(fC h1').1,Instr.index,Sem.run_bind,asIntOf,run_underlying hu,Result.andThen_ok,Sem.run_ite,if_pos hb,jw hi,Sem.run_pure,k3],k4⟩
theorem yh{n:Nat}(h:n≤maxLen):IntKind.i64.min≤(n:Int)∧(n:Int)≤IntKind.i64.max:=by
 simp only[IntKind.min,IntKind.max,IntKind.bits,IntKind.signed];unfold maxLen at h;simp;omega
theorem pX{ty:TypeId}{y:Operand}{y':aJ}{n:Nat}{d:TypeDesc}(ho:o.op=.call { callee:=.builtin .len,args := #[y],argTypes := #[ty] })(hu:c.P.underlying ty=some d)(hd:(∃ e,d=.slice e)∨d=.string)
  (hy:bK c.P ty y=some y') (h:∀ a w D E,aX c A a w D E→∀ v,aY w D E (ab A y') v→n≤maxLen∧((∃ e,d=.slice e)→∃ ad cap,v=.slice ad n cap)∧(d=.string→∃ s,v=.string s∧s.size=n)):dW c A o (.int .i64 n) :=
 .same fun a w D E hs=>by
  obtain ⟨h0,h1,h2⟩:=h a w D E hs _ (ct hs hy);refine ⟨.int .i64 n,?_,lg (yh h0)⟩;rcases hd with ⟨e,rfl⟩ | rfl
  ·obtain ⟨ad,cap,hv⟩:=h1 ⟨e,rfl⟩;simp[execOp,ho,resolve,invoke,builtin,Builtin.len_,run_underlying hu,hv,goInt]
  ·obtain ⟨s,hv,hs⟩:=h2 rfl;simp[execOp,ho,resolve,invoke,builtin,Builtin.len_,run_underlying hu,hv,goInt,hs]
theorem aiY{t e:TypeId}{y:Operand}{y':aJ}{n:Nat}{i:TypeInfo}{gs:List I}(ho:o.op=.slice t y none none none)(hu:c.P.underlying t=some (.array n e))(hi:c.P.info? e=some i)
  (hy:bK c.P 0 y=some y') (h:ab A y'=.ref (.agg gs)) (hev:iT n (c.P.cellsOf e) gs=true) (hn:n≤maxLen):dW c A o (.slice (c.P.cellsOf e) gs) :=
 .same fun a w D E hs=>by
  have h1:=ct hs hy;rw[h] at h1;obtain ⟨b,off,cs,h2,h3,h4⟩:=qt h1;simp only[af] at h4;obtain ⟨e1,e2⟩:=rh hev;by_cases h0:n=0
  ·exact ⟨.slice (some ⟨b,off,none⟩) 0 0,by simp[execOp,ho,h2,Instr.sliceAt,run_underlying hu,Instr.sureAddr,Instr.sliceBounds,jw hi,h0],tO (by omega) (by omega) (by simp[maxLen]) (.inl (List.eq_nil_of_length_eq_zero (by omega))) e2⟩
  ·exact ⟨.slice (some ⟨b,off,none⟩) n n,by simp[execOp,ho,h2,Instr.sliceAt,run_underlying hu,Instr.sureAddr,Instr.sliceBounds,jw hi,nB],tO e1.symm (zz7 _) hn (.inr ⟨b,off,cs,rfl,h3,h4⟩) e2⟩
theorem aiX{t e:TypeId}{y:Operand}{y':aJ}{n m:Nat}{p:List Nat}{i:TypeInfo}{gs:List I}(ho:o.op=.slice t y none none none)(hu:c.P.underlying t=some (.array n e))(hi:c.P.info? e=some i)
  (hy:bK c.P 0 y=some y') (h:ab A y'=.ptr m p) (hd:cD A (.ptr m p)=some (.agg gs)) (hev:iT n (c.P.cellsOf e) gs=true) (hn:n≤maxLen) (hn0:n≠0):dW c A o (.view m p (c.P.cellsOf e) 0 n) :=
 .same fun a w D E hs=>by
  have h1:=ct hs hy;rw[h] at h1;obtain ⟨b,aQ,off,h2,h3,h4⟩:=pd h1;obtain ⟨zz,b',cs,T,off',c1,c2,c3,k1,k2,_,k3,k4,k5,k6,k7,k8,k9,_⟩:=hs.at hd;rw[k2] at h2;simp only[u8,bW.aA.injEq] at h2;obtain ⟨rfl,rfl⟩:=h2;obtain ⟨e1,e2⟩:=rh hev;refine ⟨.slice (some ⟨b',off,none⟩) n n,by simp[execOp,ho,h4,Instr.sliceAt,run_underlying hu,Instr.sureAddr,Instr.sliceBounds,jw hi,nB],?_⟩;refine ⟨_,by simp[bL,I.isAgg];rfl,?_⟩;simp only[af];refine ⟨b',zz.aQ,off,I.cS gs,k2,h3,nv p zz _ k4,?_,?_,?_,?_⟩
  ·rw[I.dB,zy2,e1];simp
  ·rw[I.dB,zy2,e1];exact hn
  ·rw[I.dB,zy2,e1];omega
  ·rw[I.dB];intro s hs';obtain ⟨f,hf,rfl⟩:=zx9.1 hs';rw[I.mA];exact e2 f hf
theorem al5{w:World}{D:aR}{E:aZ}{b off sz:Nat}{cs:List Value}{es:List I}(h1:hJ w D b off cs)(h2:aI w D E es cs)(h3:∀ e∈es,e.size=sz)(l h:Nat)(hl:l≤h)(hh:h≤es.length) :
  ∃ c2,hJ w D b (off+l*sz) c2∧aI w D E ((es.take h).drop l) c2:=by
 have hspl:∀ (xs ys:List I) (cs:List Value),aI w D E (xs++ys) cs→∃ c1 c2,cs=c1++c2∧aI w D E xs c1∧aI w D E ys c2:=by
  intro xs
  induction xs with
  |nil=>intro ys cs hr;exact ⟨[],cs,rfl,by simp[aI],hr⟩
  |cons x xs ih =>
   intro ys cs hr;simp only[zy0,aI] at hr;obtain ⟨d1,d2,rfl,k1,k2⟩:=hr;obtain ⟨e1,e2,rfl,k3,k4⟩:=ih ys d2 k2;exact ⟨d1++e1,e2,by simp,by simp only[aI];exact ⟨d1,e1,rfl,k1,k3⟩,k4⟩
 have e1:es=es.take l++((es.take h).drop l++es.drop h):=by
  rw[←zz5]
  conv=>lhs;rw[←zx0 h es]
  congr 1
  rw[←List.anc l h es hl]
 rw[e1] at h2;obtain ⟨c1,c',rfl,k1,k2⟩:=hspl _ _ _ h2;obtain ⟨c2,c3,rfl,k3,k4⟩:=hspl _ _ _ k2;refine ⟨c2,?_,k3⟩;rw[←ph es l h3 (by omega),←aI.length _ _ k1];rw[←zz5] at h1;exact ux h1
 where
 List.anc {α:Type} (l h:Nat) (es:List α) (hl:l≤h):es.take h=es.take l++(es.take h).drop l:=by
  conv=>lhs;rw[←zx0 l (es.take h)]
  rw[List.take_take,Nat.min_eq_left hl]
def iY(w:World)(D:aR)(E:aZ)(x:Option I)(v:Option Value):Prop:=match x,v with
 |none,none=>True
 |some x,some v=>aY w D E x v
 |_,_=>False
theorem SA{x:I}{d n:Int}(h:iP (some x) d=some n):∃ k,x=.int k n:=by
 cases x <;>simp[iP] at h
 subst h;exact ⟨_,rfl⟩
theorem rO{w:World}{D:aR}{E:aZ}{x:Option I}{v:Option Value}{d n:Int}(h:iY w D E x v)(hb:iP x d=some n) :
  (x=none∧v=none∧d=n)∨(x.isSome=true∧∃ k,v=some (.int k n)):=by
 cases x with
 |none =>
  cases v with
  |some _=>simp[iY] at h
  |none=>simp only[iP,u8] at hb;exact .inl ⟨rfl,rfl,hb⟩
 |some x =>
  cases v with
  |none=>simp[iY] at h
  |some v =>
   obtain ⟨k,rfl⟩:=SA hb;simp only[iY] at h;exact .inr ⟨rfl,k,by rw[(fC h).1]⟩
theorem zm{P:Program}{w:World}{D:aR}{E:aZ}{t e:TypeId}{i:TypeInfo}{sz:Nat}{es:List I}{lo hi mx:Option I}{vlo vhi vmx:Option Value}{x:I}{ad:Option Addr}{cap:Nat}
  (hu:P.underlying t=some (.slice e)) (hi':P.info? e=some i) (hsz:sz=P.cellsOf e) (hmh:mx.isSome=true→hi.isSome=true)
  (h1:iY w D E lo vlo) (h2:iY w D E hi vhi) (h3:iY w D E mx vmx) (hx:ke sz es lo hi mx=some x)
  (hcap:es.length≤cap) (hcm:cap≤maxLen) (hes:es=[]∨∃ b off cs,ad=some ⟨b,off,none⟩∧hJ w D b off cs∧aI w D E es cs) (hall:∀ e∈es,e.size=sz) :
  ∃ v,(Instr.sliceAt t (.slice ad es.length cap) vlo vhi vmx).run P w=.ok v w∧aY w D E x v:=by
 unfold ke at hx;split at hx
 ·cases hx
 rename_i h hh;split at hx
 ·cases hx
 rename_i m hm;split at hx
 ·cases hx
 rename_i l hl;split at hx
 case isFalse=>cases hx
 rename_i hb;obtain ⟨b1,b2,b3,b4⟩:=hb;have sb:∀ (k:IntKind) (n:Int) (y:Nat) (code:BoundsCode),0≤n→n≤y→(Instr.sliceBound (.int k n) y code).run P w=.ok n.toNat w:=fun k n y code g1 g2=>by
  simp[Instr.sliceBound,asIntOf,g1,g2]
 -- the bounds that the program finds
 have key:∃ m':Nat,es.length≤cap∧m'≤cap∧h.toNat≤m'∧(mx.isSome=true→m'=m.toNat)∧(mx=none→m'=cap) ∧
   (Instr.sliceBounds true es.length cap vlo vhi vmx).run P w=.ok (l.toNat,h.toNat,m') w:=by
  have c1:=rO h1 hl;have c2:=rO h2 hh;have c3:=rO h3 hm;clear h1 h2 h3;rcases c3 with ⟨rfl,rfl,hm3⟩ | ⟨s3,k3,rfl⟩
  ·refine ⟨cap,hcap,zz7 _,by omega,fun e=>(by cases e),fun _=>rfl,?_⟩;rcases c2 with ⟨rfl,rfl,hm2⟩ | ⟨s2,k2,rfl⟩ <;>rcases c1 with ⟨rfl,rfl,hm1⟩ | ⟨s1,k1,rfl⟩
   ·subst hm1 hm2;simp[Instr.sliceBounds]
   ·subst hm2;simp[Instr.sliceBounds,sb k1 l es.length _ b1 (by omega)]
   ·subst hm1;simp[Instr.sliceBounds,sb k2 h cap _ (by omega) (by omega)]
   ·simp[Instr.sliceBounds,sb k2 h cap _ (by omega) (by omega),sb k1 l h.toNat _ b1 (by omega)]
  ·refine ⟨m.toNat,hcap,by omega,by omega,fun _=>rfl,fun e=>(by rw[e] at s3;cases s3),?_⟩;rcases c2 with ⟨rfl,rfl,hm2⟩ | ⟨s2,k2,rfl⟩
   ·simp[s3] at hmh
   ·rcases c1 with ⟨rfl,rfl,hm1⟩ | ⟨s1,k1,rfl⟩
    ·subst hm1;simp[Instr.sliceBounds,sb k3 m cap _ (by omega) (by omega),sb k2 h m.toNat _ (by omega) (by omega)]
    ·simp[Instr.sliceBounds,sb k3 m cap _ (by omega) (by omega),sb k2 h m.toNat _ (by omega) (by omega),sb k1 l h.toNat _ b1 (by omega)]
 obtain ⟨m',g1,g2,g3,g4,g5,hsb⟩:=key;have hrun:(Instr.sliceAt t (.slice ad es.length cap) vlo vhi vmx).run P w =
   .ok (.slice (if m'=l.toNat then ad else ad.map (·.add (l.toNat*P.cellsOf e))) (h.toNat-l.toNat) (m'-l.toNat)) w:=by
  simp only[Instr.sliceAt,Instr.slice,Sem.run_bind,run_underlying hu,Result.andThen_ok,hsb,jw hi',Sem.run_pure]
 refine ⟨_,hrun,?_⟩;split at hx
 ·rename_i hc;simp only[u8] at hx;subst hx;have e1:m'=l.toNat:=by rw[g4 hc.1,hc.2]
  have e2:h.toNat-l.toNat=0:=by omega
  rw[if_pos e1,e2,e1,Nat.sub_self];exact ⟨_,by simp[bL,I.isAgg];rfl,by simp only[af];exact ⟨ad,rfl⟩⟩
 ·simp only[u8] at hx;subst hx;have hlen:((es.take h.toNat).drop l.toNat).length=h.toNat-l.toNat:=by simp;omega
  refine tO hlen.symm (by omega) (by omega) ?_ (fun y hy=>hall y (List.mem_of_mem_take (List.mem_of_mem_drop hy)));by_cases hz:h.toNat=l.toNat
  ·left;exact List.eq_nil_of_length_eq_zero (by omega)
  ·right
   rw[if_neg (by omega)];rcases hes with rfl | ⟨b,off,cs,rfl,q1,q2⟩
   ·simp at b4 g3;omega
   ·obtain ⟨c2,q3,q4⟩:=al5 q1 q2 hall l.toNat h.toNat (by omega) (by omega);exact ⟨b,off+l.toNat*sz,c2,by simp[nB,hsz],q3,q4⟩
theorem xB{t e:TypeId}{y:Operand}{y':aJ}{lo hi mx:Option Operand}{lo' hi' mx':Option aJ}{i:TypeInfo}{es:List I}(ho:o.op=.slice t y lo hi mx)(hu:c.P.underlying t=some (.slice e))(hi0:c.P.info? e=some i)
  (hy:bK c.P 0 y=some y') (h1:jh c.P lo=some lo') (h2:jh c.P hi=some hi') (h3:jh c.P mx=some mx') (hmh:mx'.isSome=true→hi'.isSome=true)
  (h:ab A y'=.slice (c.P.cellsOf e) es∨(ab A y'=.nils (c.P.cellsOf e)∧es=[])∨(ab A y'=.c0 (c.P.cellsOf e)∧es=[])) (hx:ke (c.P.cellsOf e) es (lo'.map (ab A)) (hi'.map (ab A)) (mx'.map (ab A))=some x):dW c A o x :=
 .same fun a w D E hs=>by
  have opt:∀ {q:Option Operand} {q':Option aJ},jh c.P q=some q'→iY w D E (q'.map (ab A)) (q.map a.eval):=by
   intro q q' hq;cases q with
   |none=>simp only[jh,u8] at hq;subst hq;simp[iY]
   |some z =>
    simp only[jh,zz1] at hq;obtain ⟨z',hz,rfl⟩:=hq;simpa[iY] using ct hs hz
  have h0:=ct hs hy;have hmh':(mx'.map (ab A)).isSome=true→(hi'.map (ab A)).isSome=true:=by simpa using hmh
  rcases h with h | ⟨h,rfl⟩ | ⟨h,rfl⟩
  ·rw[h] at h0;obtain ⟨ad,cap,e1,e2,e3,e4,e5⟩:=oi h0;obtain ⟨v,k1,k2⟩:=zm hu hi0 rfl hmh' (opt h1) (opt h2) (opt h3) hx e2 e3 e4 e5;exact ⟨v,by simp only[execOp,ho,e1,Sem.run_bind,k1];rfl,k2⟩
  ·rw[h] at h0;obtain ⟨cs,q1,q2⟩:=h0;simp only[af] at q2;have e1:a.eval y=.slice none ([]:List I).length 0:=by simpa[bL,I.isAgg,q2] using q1.symm
   obtain ⟨v,k1,k2⟩:=zm (ad:=none) (cap:=0) hu hi0 rfl hmh' (opt h1) (opt h2) (opt h3) hx (by simp) (by simp[maxLen]) (.inl rfl) (by simp);exact ⟨v,by simp only[execOp,ho,e1,Sem.run_bind,k1];rfl,k2⟩
  ·rw[h] at h0;obtain ⟨cs,q1,q2⟩:=h0;simp only[af] at q2;obtain ⟨ad,q2⟩:=q2;have e1:a.eval y=.slice ad ([]:List I).length 0:=by simpa[bL,I.isAgg,q2] using q1.symm
   obtain ⟨v,k1,k2⟩:=zm (ad:=ad) (cap:=0) hu hi0 rfl hmh' (opt h1) (opt h2) (opt h3) hx (by simp) (by simp[maxLen]) (.inl rfl) (by simp);exact ⟨v,by simp only[execOp,ho,e1,Sem.run_bind,k1];rfl,k2⟩
end
inductive gb {α β:Type} (R:α→β→Prop):List α→List β→Prop where
 |nil:gb R [] []
 |cons {x:α} {y:β} {xs:List α} {ys:List β} : R x y→gb R xs ys→gb R (x::xs) (y::ys)
section
variable {c:cU} {A:ae} {o:Oper} {x:I}
theorem al4{w:World}{D:aR}{E:aZ}{xs:List I}{cs ds:List Value}{i:Nat}{x y:I}(h:aI w D E xs cs)(hx:xs[i]?=some x)(hy:af w D E y ds)(hs:y.size=x.size) :
  I.sizes (xs.take i)+ds.length≤cs.length∧aI w D E (xs.set i y) (cs.take (I.sizes (xs.take i))++ds++cs.drop (I.sizes (xs.take i)+ds.length)):=by
 obtain ⟨c1,c2,c3,rfl,h1,h2,h3,h4⟩:=ni xs cs i x h hx;have hi:i<xs.length:=(zy6.1 hx).1;have hl:ds.length=c2.length:=by rw[af.length _ _ hy,af.length _ _ h3,hs]
 refine ⟨by simp only[zz3,h1];omega,?_⟩;have e1:xs.set i y=xs.take i++y::xs.drop (i+1):=by rw[List.set_eq_take_append_cons_drop];simp[hi]
 have e2:(c1++c2++c3).take (I.sizes (xs.take i))++ds++(c1++c2++c3).drop (I.sizes (xs.take i)+ds.length)=c1++(ds++c3):=by
  rw[←h1,hl,zz5 c1 c2 c3,List.take_left,List.drop_length_add_append,List.drop_left,zz5]
 rw[e1,e2];refine kG _ _ _ _ h2 ?_;simp only[aI];exact ⟨ds,c3,rfl,hy,h4⟩
theorem aaJ(off:Nat)(l:List Value)(cs:Array Value)(h:off+l.length≤cs.size) :
  ((l.zipIdx 0).foldl (fun cs (x:Value×Nat)=>cs.setIfInBounds (off+x.2) x.1) cs).toList=cs.toList.take off++l++cs.toList.drop (off+l.length):=by
 obtain ⟨h1,h2⟩:=Great.foldl_set off l 0 cs;apply List.ext_getElem?;intro k;rw[zv3,h2 k];simp only[Nat.add_zero,zz5];by_cases hk:k<off
 ·rw[if_neg (by omega),zy8 (by simp;omega)];simp[hk]
 ·rw[zw0 (by simp;omega)];simp only[zy7,zv0,Nat.min_eq_left (show off≤cs.size by omega)];by_cases hk2:k<off+l.length
  ·rw[if_pos ⟨by omega,by omega,by omega⟩,zy8 (by omega)]
  ·rw[if_neg (by omega),zw0 (by omega)];simp only[List.getElem?_drop,zv3]
   congr 1
   omega
theorem wg{w:World}{D:aR}{E:aZ}(pl:Nat→Option (Nat×Nat)):∀ (ps:List (Nat×I)) (vs:List (Nat×Value)) (zs zs':List I) (cells:Array Value),
  (∀ i z,zs[i]?=some z→pl i=some (I.sizes (zs.take i),z.size))→aI w D E zs cells.toList→dZ zs ps=some zs' →
  gb (fun (p:Nat×I) (v:Nat×Value)=>p.1=v.1∧aY w D E p.2 v.2) ps vs →
  ∃ cells',Instr.fill pl cells vs=some cells'∧aI w D E zs' cells'.toList
 | [],vs,zs,zs',cells,hp,hr,hs,hf=>by
  cases hf;simp only[dZ,u8] at hs;subst hs;exact ⟨cells,rfl,hr⟩
 |(i,y)::ps,vs,zs,zs',cells,hp,hr,hs,hf=>by
  cases hf with
  |cons h1 h2 =>
   rename_i v vs;obtain ⟨j,u⟩:=v;simp only at h1;obtain ⟨rfl,hv⟩:=h1;simp only[dZ] at hs;split at hs
   ·rename_i z hz;split at hs
    ·rename_i hsz;obtain ⟨hval,hsz⟩:=hsz;obtain ⟨ds,k1,k2⟩:∃ ds,bL y u ds∧af w D E y ds:=by
      cases y <;>simp[I.cm] at hval <;>exact hv
     have hcells:=k1.cells k2;have hds:u.cells.size=z.size:=by rw[←zv0,hcells,af.length _ _ k2,hsz]
     obtain ⟨k3,k4⟩:=al4 hr hz k2 hsz;have hcl:cells.toList.length=cells.size:=zv0;have hl:ds.length=u.cells.size:=by rw[←hcells,zv0]
     have hp':∀ k z',(zs.set i y)[k]?=some z'→pl k=some (I.sizes ((zs.set i y).take k),z'.size):=by
      intro k z' hk;have hil:i<zs.length:=(zy6.1 hz).1;have hsizes:∀ k,I.sizes ((zs.set i y).take k)=I.sizes (zs.take k):=by
       intro k;have gen:∀ (zs:List I) (i k:Nat) (z:I),zs[i]?=some z→z.size=y.size→I.sizes ((zs.set i y).take k)=I.sizes (zs.take k):=by
        intro zs
        induction zs with
        |nil=>intro i k z hz _;simp at hz
        |cons q qs ih =>
         intro i k z hz he;cases k with
         |zero=>simp
         |succ k =>
          cases i with
          |zero =>
           simp only[List.getElem?_cons_zero,u8] at hz;subst hz;simp[I.sizes,he]
          |succ i =>
           simp only[List.set_cons_succ,List.take_succ_cons,I.sizes,ih i k z (by simpa using hz) he]
       exact gen zs i k z hz hsz.symm
      rw[hsizes];rw[List.getElem?_set] at hk;split at hk
      ·rename_i hik;subst hik;simp only[u8] at hk;subst hk;rw[hp i z hz,hsz]
      ·exact hp k z' hk
     have hfold:=aaJ (I.sizes (zs.take i)) u.cells.toList cells (by rw[hcells];omega);rw[hcells] at hfold;obtain ⟨cells',k5,k6⟩:=wg pl ps vs (zs.set i y) zs' ((u.cells.toList.zipIdx 0).foldl (fun cs (x:Value×Nat)=>cs.setIfInBounds (I.sizes (zs.take i)+x.2) x.1) cells) hp'
      (by rw[hcells,hfold];exact k4) hs h2
     refine ⟨cells',?_,k6⟩;unfold Instr.fill;simp only[hp i z hz];rw[if_neg (by simp[hds];omega)];rw[←k5]
     congr 1
     rw[←Array.foldl_toList,Array.toList_zipIdx]
    ·cases hs
   ·cases hs
theorem Mv{a:Act}{w:World}{D:aR}{E:aZ}(hs:aX c A a w D E){P:Program} : ∀ (ps:List (Nat×Operand)) (qs:List (Nat×aJ)),lL P ps=some qs →
  gb (fun (p:Nat×I) (v:Nat×Value)=>p.1=v.1∧aY w D E p.2 v.2) (qs.map fun p=>(p.1,ab A p.2)) (ps.map fun p=>(p.1,a.eval p.2))
 | [],qs,h=>by simp[lL] at h;subst h;exact .nil
 |(i,x)::ps,qs,h=>by
  simp only[lL,List.mapM_cons,Option.bind_eq_bind,Option.pure_def,Option.bind_eq_some_iff,zz1,u8] at h;obtain ⟨_,⟨y,hy,rfl⟩,qs',hq,rfl⟩:=h;exact .cons ⟨rfl,ct hs hy⟩ (Mv hs ps qs' hq)
theorem KH{t:TypeId}{parts:Array (Nat×Operand)}{ps:List (Nat×aJ)}{zs zs':List I}(ho:o.op=.build t parts)(hz:gq c.P t=some (.agg zs))(hp:lL c.P parts.toList=some ps)
  (hpl:(∃ fs,c.P.underlying t=some (.struct fs)∧(fs.toList.map fun f=>(f.offset,c.P.cellsOf f.type))=mj 0 zs∧(fs.all fun f=>(c.P.info? f.type).isSome)=true) ∨
   (∃ n e,c.P.underlying t=some (.array n e)∧zs.length=n∧(zs.all fun z=>z.size==c.P.cellsOf e)=true∧(c.P.info? e).isSome=true))
  (h:dZ zs (ps.map fun p=>(p.1,ab A p.2))=some zs'):dW c A o (.agg zs') :=
 .same fun a w D E hs=>by
  obtain ⟨i,z,hi,hzv,hzr⟩:=mF hz;have hzr:=hzr w D E;simp only[af] at hzr;have hparts:=Mv hs parts.toList ps hp;have hmap:(parts.map fun (q:Nat×Operand)=>(q.1,a.eval q.2)).toList=parts.toList.map fun p=>(p.1,a.eval p.2):=by simp
  rcases hpl with ⟨fs,hu,hoffs,hinfo⟩ | ⟨n,e,hu,hn,hev,hinfo⟩
  ·have hpl:∀ i z,zs[i]?=some z→(mj 0 zs)[i]?=some (I.sizes (zs.take i),z.size):=by
    intro i z hiz;rw[MA,hiz];simp
   obtain ⟨cells',k1,k2⟩:=wg ((mj 0 zs)[·]?) _ _ zs zs' z.cells hpl hzr h hparts;have hm:fs.toList.mapM (fun f=>(c.P.info? f.type).map fun i=>(f.offset,i.size))=some (mj 0 zs):=by
    rw[←hoffs];have hall:∀ f∈fs.toList,(c.P.info? f.type).isSome=true:=fun f hf=>by
     have:=(Array.all_eq_true_iff_forall_mem.1 hinfo) f (by simpa using hf);exact this
    revert hall;generalize fs.toList=l;intro hall
    induction l with
    |nil=>rfl
    |cons f l ih =>
     obtain ⟨j,hj⟩:=zw4.1 (hall f (by simp));simp only[List.mapM_cons,Option.bind_eq_bind,hj,zy5,Option.bind_some,ih (fun g hg=>hall g (by simp[hg])),Option.pure_def,zz8,Program.cellsOf,Option.getD_some]
   have hb:c.P.built t (parts.map fun (q:Nat×Operand)=>(q.1,a.eval q.2)).toList=some cells':=by
    unfold Program.built;simp only[hi,hu,hzv,hm];rw[hmap,←k1]
    congr 1
    funext k
    simp
   exact ⟨.agg cells',by simp only[execOp,ho,Sem.run_bind,run_build w t _ _ hb];rfl,by have:=LB k2;simpa using this⟩
  ·obtain ⟨ie,hie⟩:=zw4.1 hinfo;have hev':∀ z∈zs,z.size=ie.size:=fun z hz=>by
    have:=zx2.1 hev z hz;simpa[Program.cellsOf,hie] using this
   have hpl:∀ i z,zs[i]?=some z→(fun i=>some (i*ie.size,ie.size)) i=some (I.sizes (zs.take i),z.size):=by
    intro i z hiz;have hl:i<zs.length:=(zy6.1 hiz).1;rw[ph zs i hev' (by omega),hev' z (List.mem_of_getElem? hiz)]
   obtain ⟨cells',k1,k2⟩:=wg (fun i=>some (i*ie.size,ie.size)) _ _ zs zs' z.cells hpl hzr h hparts;have hb:c.P.built t (parts.map fun (q:Nat×Operand)=>(q.1,a.eval q.2)).toList=some cells':=by
    unfold Program.built;simp only[hi,hu,hzv,hie];rw[hmap,←k1]
   exact ⟨.agg cells',by simp only[execOp,ho,Sem.run_bind,run_build w t _ _ hb];rfl,by have:=LB k2;simpa using this⟩
theorem pG{a:Act}{w:World}{D:aR}{E:aZ}(hs:aX c A a w D E){P:Program} : ∀ (xs:List Operand) (ts:List TypeId) (ys:List aJ),mO P xs ts=some ys →
  gb (aY w D E) (ys.map (ab A)) (xs.map a.eval)
 | [],_,ys,h=>by simp[mO] at h;subst h;exact .nil
 |x::xs,ts,ys,h=>by
  simp only[mO] at h;split at h
  ·rename_i y ys' h1 h2;simp only[u8] at h;subst h;exact .cons (ct hs h1) (pG hs xs _ ys' h2)
  ·cases h
theorem nq{w:World}{D:aR}{E:aZ} : ∀ (xs:List I) (vs:List Value),gb (aY w D E) xs vs→(∀ x∈xs,x.cm=true)→aH w D E xs vs
 | [],vs,h,_=>by cases h;simp[aH]
 |x::xs,vs,h,hv=>by
  cases h with
  |cons h1 h2 =>
   rename_i v vs;have hx:=hv x (by simp);obtain ⟨cs,k1,k2⟩:∃ cs,bL x v cs∧af w D E x cs:=by
    cases x <;>simp[I.cm] at hx <;>exact h1
   simp only[aH];exact ⟨v,vs,cs,rfl,k1,k2,nq xs vs h2 (fun y hy=>hv y (by simp[hy]))⟩
theorem rm{aA:Bool}{B:ae} : ∀ {xs ys:List I},ca aA B xs=some ys→∀ x∈xs,x.cm=true
 | [],ys,_,x,hx=>by simp at hx
 |y::xs,ys,h,x,hx=>by
  simp only[ca] at h;split at h
  ·rename_i z zs h1 h2;rcases zx6.1 hx with rfl | hx
   ·cases x <;>simp_all[bl,I.cm]
   ·exact rm h2 x hx
  ·cases h
theorem aiR{f:FuncId}{caps:Array Operand}{ys:List aJ}(ho:o.op=.makeFunc (.func f) #[] caps)(hc:mO c.P caps.toList []=some ys)(hv:∀ y∈ys,(ab A y).cm=true):dW c A o (.func f (ys.map (ab A))) :=
 .same fun a w D E hs=>by
  have h:=nq _ _ (pG hs caps.toList [] ys hc) (by simpa using hv);have e:caps.map a.eval=(caps.toList.map a.eval).toArray:=by apply Array.ext';simp
  refine ⟨.func (.func f) #[] (caps.toList.map a.eval).toArray,by simp[execOp,ho,Instr.makeFunc,e],⟨_,by simp[bL,I.isAgg];rfl,?_⟩⟩;simp only[af];exact ⟨_,rfl,h⟩
theorem O9{w:World}{D:aR}{E:aZ} : ∀ (xs:List I) (vs:List Value),aH w D E xs vs→aI w D E xs (vs.flatMap fun v=>v.cells.toList)∧vs.length=xs.length∧∀ (sz:Nat),(∀ x∈xs,x.size=sz)→∀ v∈vs,v.cells.size=sz
 | [],vs,h=>by simp only[aH] at h;subst h;simp[aI]
 |x::xs,vs,h=>by
  simp only[aH] at h;obtain ⟨v,rest,cs,rfl,h1,h2,h3⟩:=h;obtain ⟨k1,k2,k3⟩:=O9 xs rest h3;have hc:=h1.cells h2;refine ⟨?_,by simp[k2],fun sz hsz u hu =>?_⟩
  ·simp only[List.flatMap_cons,aI];exact ⟨_,_,rfl,by rw[hc];exact h2,k1⟩
  ·rcases zx6.1 hu with rfl | hu
   ·rw[←zv0,hc,af.length _ _ h2,hsz x (by simp)]
   ·exact k3 sz (fun y hy=>hsz y (by simp[hy])) u hu
def pb(A:ae)(D:aR)(E:aZ):aR:=fun b o=>D b o∨∃ n T sz es cap,A.o n=some (.bY T sz es)∧E n=some (.rw (some (b,cap)) es.length)∧o<es.length*sz
theorem aX.pg{a:Act}{w:World}{D:aR}{E:aZ}(h:aX c A a w D E):aX c A a w (pb A D E) E∧iM false A D E (pb A D E):=by
 have hblk:∀ {n T sz es b cap},A.o n=some (.bY T sz es)→E n=some (.rw (some (b,cap)) es.length)→c.fq b∧b<w.heap.size:=by
  intro n T sz es b cap hn aw;obtain ⟨aF,k1,k2,k3⟩:=h.bY hn;rw[aw] at k1;simp only[u8,bW.rw.injEq,and_true] at k1;subst k1;obtain ⟨cs,pre,rest,k4,k5,_⟩:=k3;exact ⟨k4,gj k5⟩
 refine ⟨h.PX (fun _ _ hd=>.inl hd) ?_ ?_ ?_ ?_ ?_ ?_,⟨fun _ _ hd=>.inl hd,fun n T sz es b cap hn aw o ho=>.inr ⟨n,T,sz,es,cap,hn,aw,ho⟩,(fun hb=>by cases hb),fun hb=>by cases hb⟩⟩
 ·rintro b o (hd | ⟨n,T,sz,es,cap,hn,aw,ho⟩) hlt
  ·exact h.df _ _ hd hlt
  ·exact absurd (hblk hn aw).1 hlt
 ·rintro b o (hd | ⟨n,T,sz,es,cap,hn,aw,ho⟩)
  ·exact h.dv _ _ hd
  ·exact (hblk hn aw).2
 ·rintro m x b hm hEm o (hd | ⟨n,T,sz,es,cap,hn,aw,ho⟩)
  ·obtain ⟨b2,cs2,T2,q1,q2,q3,q4,q5⟩:=h.box hm;rw[q1] at hEm;simp only[u8,bW.aA.injEq,and_true] at hEm;subst hEm;exact q5 o hd
  ·have:=h.cZ m n _ _ b hEm aw rfl rfl;subst this;rw[hm] at hn;cases hn
 ·rintro m T' sz' es' b cap' hm hEm o (hd | ⟨n,T,sz,es,cap,hn,aw,ho⟩)
  ·obtain ⟨aF,q1,q2,q3⟩:=h.bY hm;rw[hEm] at q1;simp only[u8,bW.rw.injEq,and_true] at q1;subst q1;obtain ⟨cs',pre',rest',q4,q5,q6,q7,q8,q9,q10,q11⟩:=q3;have:=q11 o hd
   rwa [aI.length _ _ q7,I.jd _ q2] at this
  ·have:=h.cZ m n _ _ b hEm aw rfl rfl;subst this;rw[hm] at hn;simp only[u8,ah.bY.injEq] at hn;obtain ⟨rfl,rfl,rfl⟩:=hn;exact ho
 ·rintro m T' xs b cap' hm hEm o (hd | ⟨n,T,sz,es,cap,hn,aw,ho⟩)
  ·obtain ⟨aF,q1,_,q3⟩:=h.sc hm;rw[hEm] at q1;simp only[u8,bW.rw.injEq,and_true] at q1;subst q1;obtain ⟨_,_,_,_,_,_,_,_,q4⟩:=q3;exact q4 o hd
  ·have:=h.cZ m n _ _ b hEm aw rfl rfl;subst this;rw[hm] at hn;cases hn
 ·rintro m e' b hE' hoth hblk o (hd | ⟨n,T,sz,es,cap,hn,aw,ho⟩)
  ·exact h.yR hE' hoth hblk o hd
  ·have:=h.cZ m n _ _ b hE' aw hblk rfl;subst this;rw[hE'] at aw;cases aw;cases hoth
theorem Mw{a:Act}{w:World}{D:aR}{E:aZ}(hs:aX c A a w D E){P:Program} : ∀ (ps:List (Nat×Operand)) (qs:List (Nat×aJ)),lL P ps=some qs →
  gb (aY w D E) ((qs.map (·.2)).map (ab A)) (ps.map fun p=>a.eval p.2)∧qs.map (·.1)=ps.map (·.1)
 | [],qs,h=>by simp[lL] at h;subst h;exact ⟨.nil,rfl⟩
 |(i,x)::ps,qs,h=>by
  simp only[lL,List.mapM_cons,Option.bind_eq_bind,Option.pure_def,Option.bind_eq_some_iff,zz1,u8] at h;obtain ⟨_,⟨y,hy,rfl⟩,qs',hq,rfl⟩:=h;obtain ⟨h1,h2⟩:=Mw hs ps qs' hq;exact ⟨.cons (ct hs hy) h1,by simp[h2]⟩
theorem aX.newRow{a:Act}{w:World}{D:aR}{E:aZ}(h:aX c A a w D E)(o:Obj):aX c A a (w.alloc o) (fun b k=>D b k∨b=w.heap.size) E:=by
 refine h.grow (sL w o) (fun _ _ hd=>.inl hd) ?_ ?_
 ·rintro b k (hd | rfl) hlt
  ·exact hd
  ·omega
 ·rintro b k (hd | rfl)
  ·have:=h.dv _ _ hd;simp;omega
  ·simp
theorem anE{α:Type}(ps:List (Nat×α))(h:ps.map (·.1)=List.range ps.length):ps=((ps.map (·.2)).zipIdx 0).map fun x=>(x.2,x.1):=by
 apply List.ext_getElem?;intro k;rw[zw6,List.getElem?_zipIdx,zw6];cases hk:ps[k]? with
 |none=>simp
 |some p =>
  have hl:k<ps.length:=(zy6.1 hk).1;have:=congrArg (·[k]?) h;simp only[zw6,hk,zy5,List.getElem?_range hl,u8] at this;simp[←this]
theorem aiz{t e:TypeId}{len:Nat}{parts:Array (Nat×Operand)}{ps:List (Nat×aJ)}{es:List I}(ho:o.op=.buildSlice t len parts)(hu:c.P.underlying t=some (.slice e))(hp:lL c.P parts.toList=some ps)
  (hr:ps.map (·.1)=List.range len) (h0:0<c.P.cellsOf e) (hlen:0<len) (hsm:len*c.P.cellsOf e≤16777216) (hz:((c.P.info? e).bind (·.zero)).isSome=true)
  (hes:ca false A ((ps.map (·.2)).map (ab A))=some es) (hev:∀ x∈es,x.size=c.P.cellsOf e) (hcl:I.bZ es=true):dW c A o (.slice (c.P.cellsOf e) es):=by
 intro a w D E hs;obtain ⟨hfor,hidx⟩:=Mw hs parts.toList ps hp;obtain ⟨hs1,hw⟩:=hs.pg;have hrv:=mX (E':=E) hs (fun _ _ h=>h) hw _ es _ (nq _ _ hfor (rm hes)) hes;obtain ⟨k1,k2,k3⟩:=O9 es _ hrv;have k3:=k3 _ hev;have hl:parts.toList.length=len:=by
  have:=congrArg List.length hidx;rw[hr] at this;simpa using this.symm
 have hesl:es.length=len:=by rw[←k2];simp[hl]
 obtain ⟨z,hz⟩:=zw4.1 hz;obtain ⟨ie,hie,hzz⟩:=Option.bind_eq_some_iff.1 hz;have hsz:ie.size=c.P.cellsOf e:=by simp[Program.cellsOf,hie]
 -- the literal's cells
 have hfill:Instr.fill (fun i=>some (i*ie.size,ie.size)) ((Array.range (len*ie.size)).map (z.cells[· % z.cells.size]!)) (parts.map fun (q:Nat×Operand)=>(q.1,a.eval q.2)).toList =
   some ((parts.toList.map fun p=>a.eval p.2).flatMap fun v=>v.cells.toList).toArray:=by
  have hpz:(parts.map fun (q:Nat×Operand)=>(q.1,a.eval q.2)).toList=((parts.toList.map fun p=>a.eval p.2).zipIdx 0).map fun x=>(x.2,x.1):=by
   have:=anE (parts.toList.map fun (q:Nat×Operand)=>(q.1,a.eval q.2)) (by simp only[List.map_map,zy2];rw[hl,←hr,hidx];rfl);rw[Array.toList_map,this,List.map_map];rfl
  rw[hpz,hsz];exact Great.fill_whole h0 _ _ (fun v hv=>k3 v hv) (by simp[hl])
 have hrun:=run_buildSlice (P:=c.P) w t e len (parts.map fun (q:Nat×Operand)=>(q.1,a.eval q.2)) _ ie z hu hie hzz (by rw[hsz];omega) (by rw[hsz];exact Nat.ne_of_gt (Nat.mul_pos hlen h0)) hfill;generalize hcells:((parts.toList.map fun p=>a.eval p.2).flatMap fun v=>v.cells.toList)=cells at *;have hs2:=hs1.newRow (.cells cells.toArray e);refine ⟨_,_,_,by simp only[execOp,ho,Sem.run_bind];rw[hrun];rfl,hs2,tO hesl.symm (zz7 _) ?_ (.inr ⟨w.heap.size,0,cells,rfl,?_,?_⟩) hev⟩
 ·unfold maxLen;have:len≤len*c.P.cellsOf e:=Nat.le_mul_of_pos_right _ h0;omega
 ·intro j v hj;refine ⟨?_,.inr rfl⟩;rw[zz4];have:=World.cell?_alloc_new w cells.toArray e j;rw[this];simpa using hj
 ·refine aI.bN ?_ es cells k1;exact dX.grow (sL w _) (fun _ _ hd=>.inl hd)
end
mutual
theorem pQ:∀ (ty:cN) (x y:I) (r:Bool),cv ty x y=some r→x.size=ty.size∧y.size=ty.size
 | .i k,x,y,r,h=>by
  simp only[cv] at h;split at h
  ·simp[I.size,cN.size]
  ·cases h
 | .b,x,y,r,h=>by
  simp only[cv] at h;split at h
  ·simp[I.size,cN.size]
  ·cases h
 | .s,x,y,r,h=>by
  simp only[cv] at h;split at h
  ·simp[I.size,cN.size]
  ·cases h
 | .br l,x,y,r,h=>by
  simp only[cv] at h;split at h
  ·simp only[I.size,cN.size];exact Ed l _ _ r h
  ·cases h
 | .kO n e,x,y,r,h=>by
  simp only[cv] at h;split at h
  ·rename_i fs gs;split at h
   ·rename_i hl;simp only[I.size,cN.size];have:∀ (fs gs:List I) (r:Bool),fs.length=gs.length→(fs.zip gs).foldr (fun p acc=>iN (cv e p.1 p.2) acc) (some true)=some r→I.sizes fs=fs.length*e.size∧I.sizes gs=fs.length*e.size:=by
     intro fs
     induction fs with
     |nil=>intro gs r hl _;cases gs with | nil=>simp[I.sizes] | cons _ _=>simp at hl
     |cons f fs ih =>
      intro gs r hl h;cases gs with
      |nil=>simp at hl
      |cons g gs =>
       simp only[List.zip_cons_cons,List.foldr_cons] at h;unfold iN at h;split at h
       ·rename_i a b h1 h2;obtain ⟨k1,k2⟩:=ih gs b (by simpa using hl) h2;obtain ⟨k3,k4⟩:=pQ e f g a h1;simp only[I.sizes,List.length_cons,k1,k2,k3,k4,zu4,Nat.one_mul];omega
       ·cases h
    obtain ⟨k1,k2⟩:=this fs gs r (by omega) h;rw[k1,k2,hl.1];exact ⟨rfl,rfl⟩
   ·cases h
  ·cases h
theorem Ed:∀ (l:List cN) (xs ys:List I) (r:Bool),jk l xs ys=some r→I.sizes xs=cN.sizes l∧I.sizes ys=cN.sizes l
 | [],xs,ys,r,h=>by
  simp only[jk] at h;split at h
  ·simp[I.sizes,cN.sizes]
  ·cases h
 |t::ts,xs,ys,r,h=>by
  simp only[jk] at h;split at h
  ·rename_i f fs g gs;unfold iN at h;split at h
   ·rename_i a b h1 h2;obtain ⟨k1,k2⟩:=pQ t f g a h1;obtain ⟨k3,k4⟩:=Ed ts fs gs b h2;simp only[I.sizes,cN.sizes,k1,k2,k3,k4];exact ⟨trivial,trivial⟩
   ·cases h
  ·cases h
end
section
variable {P:Program} {w:World} {D:aR} {E:aZ}
theorem vX{d:Nat}{t:TypeId}{ty:cN}(h:gS P d t=some ty)(hs:ty.size=P.cellsOf t){x y:I}{r:Bool}(hr:cv ty x y=some r):∃ s,fY P t=some s∧b8 s x=true∧b8 s y=true:=by
 have hsz:=pQ ty x y r hr;cases d with
 |zero=>simp[gS] at h
 |succ d =>
  simp only[gS] at h;split at h
  ·rename_i k hu;simp only[u8] at h;subst h;simp only[cv] at hr;split at hr
   ·exact ⟨none,by simp[fY,hu],by simp[b8,I.isAgg],by simp[b8,I.isAgg]⟩
   ·cases hr
  ·rename_i hu;simp only[u8] at h;subst h;simp only[cv] at hr;split at hr
   ·exact ⟨none,by simp[fY,hu],by simp[b8,I.isAgg],by simp[b8,I.isAgg]⟩
   ·cases hr
  ·rename_i hu;simp only[u8] at h;subst h;simp only[cv] at hr;split at hr
   ·exact ⟨none,by simp[fY,hu],by simp[b8,I.isAgg],by simp[b8,I.isAgg]⟩
   ·cases hr
  ·rename_i fs hu;split at h
   ·simp only[zz1] at h;obtain ⟨l,_,rfl⟩:=h;simp only[cv] at hr;split at hr
    ·exact ⟨some (P.cellsOf t),by simp[fY,hu],by simp[b8,I.isAgg,hsz.1,hs],by simp[b8,I.isAgg,hsz.2,hs]⟩
    ·cases hr
   ·cases h
  ·rename_i n e hu;split at h
   ·split at h
    ·simp only[u8] at h;subst h;simp only[cv] at hr;split at hr
     ·exact ⟨some (P.cellsOf t),by simp[fY,hu],by simp[b8,I.isAgg,hsz.1,hs],by simp[b8,I.isAgg,hsz.2,hs]⟩
     ·cases hr
    ·cases h
   ·cases h
  ·cases h
theorem Ef{k:Nat}{g:Field→Option cN}(hg:∀ (f:Field) (ty:cN),g f=some ty→ty.size=P.cellsOf f.type∧∃ d,gS P d f.type=some ty ∧
   ∀ (x y:I) (u v:Value) (r:Bool),aY w D E x u→aY w D E y v→cv ty x y=some r→(Op.equalIn k f.type u v).run P w=.ok r w) :
  ∀ (fs : List Field) (l : List cN) (xs ys : List I) (r : Bool) (c1 c2 d1 d2 : List Value), fs.mapM g = some l → (∀ f ∈ fs, f.name ≠ "_") → qj P c1.length fs = true → c1.length = d1.length →
   aI w D E xs c2→aI w D E ys d2→jk l xs ys=some r→(Op.eqFields k (c1++c2).toArray (d1++d2).toArray fs).run P w=.ok r w
 | [],l,xs,ys,r,c1,c2,d1,d2,hm,_,_,_,_,_,h=>by
  simp at hm;subst hm;simp only[jk] at h;split at h
  ·simp only[u8] at h;subst h;simp[Op.eqFields]
  ·cases h
 |f::fs,l,xs,ys,r,c1,c2,d1,d2,hm,hn,ho,hl,hx,hy,h=>by
  simp only[List.mapM_cons,Option.bind_eq_bind,Option.pure_def,Option.bind_eq_some_iff,u8] at hm;obtain ⟨ty,hty,tys,htys,rfl⟩:=hm;simp only[jk] at h;split at h
  case h_2=>cases h
  rename_i x xs y ys;unfold iN at h;split at h
  case h_2=>cases h
  rename_i ra rb h1 h2;simp only[u8] at h;subst h;simp only[aI] at hx hy;obtain ⟨e1,e2,rfl,k1,k2⟩:=hx;obtain ⟨f1,f2,rfl,k3,k4⟩:=hy;obtain ⟨hsz,dd,hd,heq⟩:=hg f ty hty;obtain ⟨s,q1,q2,q3⟩:=vX hd hsz h1;obtain ⟨u,p1,p2⟩:=pc (c1:=c1) (c3:=e2) q1 q2 k1;obtain ⟨v,p3,p4⟩:=pc (c1:=d1) (c3:=f2) q1 q3 k3;simp only[qj,zz2,beq_iff_eq] at ho;have hsx:=pQ ty x y ra h1;have hle:e1.length=P.cellsOf f.type:=by rw[af.length _ _ k1,hsx.1,hsz]
  have hlf:f1.length=P.cellsOf f.type:=by rw[af.length _ _ k3,hsx.2,hsz]
  have ih:=Ef hg fs tys xs ys rb (c1++e1) e2 (d1++f1) f2 htys (fun g hg=>hn g (by simp[hg])) (by simp only[zz3,hle];exact ho.2) (by simp[hl,hle,hlf]) k2 k4 h2;rw[zz5] at p1 p3;rw[zz5,zz5] at ih;rw[←ho.1] at p1;rw[←hl,←ho.1] at p3;simp only[Op.eqFields,hn f (by simp),ne_eq,not_false_eq_true,if_true,Sem.run_bind,p1,Result.andThen_ok,p3,heq x y u v ra p2 p4 h1];cases ra
  ·simp
  ·simpa using ih
theorem Eg{d:Nat}{e:TypeId}{ty:cN}{dd:Nat}(hty:gS P dd e=some ty)(hsz:ty.size=P.cellsOf e)
  (heq:∀ (x y:I) (u v:Value) (r:Bool),aY w D E x u→aY w D E y v→cv ty x y=some r→(Op.equalIn d e u v).run P w=.ok r w) :
  ∀ (m k:Nat) (xs ys:List I) (c1 c2 d1 d2:List Value) (r:Bool),xs.length=m→ys.length=m→c1.length=k*P.cellsOf e→d1.length=k*P.cellsOf e→aI w D E xs c2→aI w D E ys d2 →
   (xs.zip ys).foldr (fun p acc=>iN (cv ty p.1 p.2) acc) (some true)=some r→(Op.eqItems d e (P.cellsOf e) (c1++c2).toArray (d1++d2).toArray (List.range' k m)).run P w=.ok r w
 |0,k,xs,ys,c1,c2,d1,d2,r,hx,hy,_,_,_,_,h=>by
  have e1:=List.eq_nil_of_length_eq_zero hx;subst e1;simp only[List.zip_nil_left,List.foldr_nil,u8] at h;subst h;simp[Op.eqItems]
 |m+1,k,xs,ys,c1,c2,d1,d2,r,hx,hy,hc,hd,hrx,hry,h=>by
  cases xs with
  |nil=>simp at hx
  |cons x xs =>
  cases ys with
  |nil=>simp at hy
  |cons y ys =>
  simp only[List.zip_cons_cons,List.foldr_cons] at h;unfold iN at h;split at h
  case h_2=>cases h
  rename_i ra rb h1 h2;simp only[u8] at h;subst h;simp only[aI] at hrx hry;obtain ⟨e1,e2,rfl,k1,k2⟩:=hrx;obtain ⟨f1,f2,rfl,k3,k4⟩:=hry;obtain ⟨s,q1,q2,q3⟩:=vX hty hsz h1;obtain ⟨u,p1,p2⟩:=pc (c1:=c1) (c3:=e2) q1 q2 k1;obtain ⟨v,p3,p4⟩:=pc (c1:=d1) (c3:=f2) q1 q3 k3;have hsx:=pQ ty x y ra h1;have hle:e1.length=P.cellsOf e:=by rw[af.length _ _ k1,hsx.1,hsz]
  have hlf:f1.length=P.cellsOf e:=by rw[af.length _ _ k3,hsx.2,hsz]
  have ih:=Eg hty hsz heq m (k+1) xs ys (c1++e1) e2 (d1++f1) f2 rb (by simpa using hx) (by simpa using hy) (by simp only[zz3,hle,hc,zu4,Nat.one_mul]) (by simp only[zz3,hlf,hd,zu4,Nat.one_mul]) k2 k4 h2;rw[zz5] at p1 p3;rw[zz5,zz5] at ih;rw[hc] at p1;rw[hd] at p3;simp only[List.range'_succ,Op.eqItems,Sem.run_bind,p1,Result.andThen_ok,p3,heq x y u v ra p2 p4 h1];cases ra
  ·simp
  ·simpa using ih
theorem s8:∀ (d:Nat) (t:TypeId) (ty:cN),gS P d t=some ty→∀ (x y:I) (u v:Value) (r:Bool),aY w D E x u→aY w D E y v→cv ty x y=some r→∀ dep,d≤dep→(Op.equalIn dep t u v).run P w=.ok r w
 |0,t,ty,h,_,_,_,_,_,_,_,_,_,_=>by simp[gS] at h
 |d+1,t,ty,h,x,y,u,v,r,hx,hy,hr,dep,hdep=>by
  obtain ⟨k,rfl⟩:∃ k,dep=k+1:=⟨dep-1,by omega⟩
  simp only[gS] at h;split at h
  ·rename_i kk hu;simp only[u8] at h;subst h;simp only[cv] at hr;split at hr
   ·split at hr
    ·simp only[u8] at hr;subst hr;rw[(fC hx).1,(fC hy).1];rename_i hk;rw[hk.1,hk.2];exact run_equalIn_int w k t kk kk _ _ hu
    ·cases hr
   ·cases hr
  ·rename_i hu;simp only[u8] at h;subst h;simp only[cv] at hr;split at hr
   ·simp only[u8] at hr;subst hr;rw[mz hx,mz hy];exact run_equalIn_bool' w k t _ _ hu
   ·cases hr
  ·rename_i hu;simp only[u8] at h;subst h;simp only[cv] at hr;split at hr
   ·simp only[u8] at hr;subst hr;rw[(oj hx).1,(oj hy).1];exact run_equalIn_string w k t _ _ hu
   ·cases hr
  ·rename_i fs hu;split at h
   ·rename_i hc;simp only[zz1] at h;obtain ⟨l,hl,rfl⟩:=h;simp only[cv] at hr;split at hr
    ·obtain ⟨cs,rfl,h1⟩:=jT hx;obtain ⟨ds,rfl,h2⟩:=jT hy;have hf:P.fieldsOf t=fs:=by simp[Program.fieldsOf,hu]
     rw[run_equalIn_struct w k t _ _ (by rw[hf];exact hu) hc.1,hf];refine Ef (g:=fun f=>match gS P d f.type with | some ty=>if ty.size=P.cellsOf f.type then some ty else none | none=>none) (fun f ty hg =>?_) fs.toList l _ _ r [] cs [] ds hl (fun f hf =>?_) hc.2.2 rfl h1 h2 hr
     ·split at hg
      ·rename_i ty' hty;split at hg
       ·rename_i hs;simp only[u8] at hg;subst hg;exact ⟨hs,d,hty,fun x y u v r hx hy hr=>s8 d f.type _ hty x y u v r hx hy hr k (by omega)⟩
       ·cases hg
      ·cases hg
     ·have:=zx2.1 hc.2.1 f hf;simpa using this
    ·cases hr
   ·cases h
  ·rename_i n e hu;split at h
   ·rename_i ty' hty;split at h
    ·rename_i hc;simp only[u8] at h;subst h;simp only[cv] at hr;split at hr
     ·split at hr
      ·rename_i hl;obtain ⟨cs,rfl,h1⟩:=jT hx;obtain ⟨ds,rfl,h2⟩:=jT hy;obtain ⟨i,hi⟩:=zw4.1 hc.2;rw[run_equalIn_array w k _ _ hu hi,List.range_eq_range'];exact Eg hty hc.1 (fun x y u v r hx hy hr=>s8 d e _ hty x y u v r hx hy hr k (by omega)) n 0 _ _ [] cs [] ds r hl.1 hl.2 (by simp) (by simp) h1 h2 hr
      ·cases hr
     ·cases hr
    ·cases h
   ·cases h
  ·cases h
end
section
variable {c:cU} {A:ae} {o:Oper} {x:I}
theorem amv{P:Program}{w:World}{D:aR}{E:aZ}(op:BinOp)(t:TypeId)(x y:Operand){a b:I}{ty:cN}{r:Bool}{u v:Value}(hr:cv ty a b=some r)(hx:aY w D E a u)(hm:P.eqGuardType P.depth t=false) :
  (eqGuard op t x y u v).run P w=.ok () w:=by
 have:u.oneCell'=true∧u≠.nilIface∨∃ cs,u=.agg cs:=by
  cases ty <;>simp only[cv] at hr <;>split at hr <;>first
   |(cases hr;done)
   |(left;rw[(fC hx).1];exact ⟨rfl,by simp⟩)
   |(left;rw[mz hx];exact ⟨rfl,by simp⟩)
   |(left;rw[(oj hx).1];exact ⟨rfl,by simp⟩)
   |(right;obtain ⟨cs,h,_⟩:=jT hx;exact ⟨_,h⟩)
 rcases this with ⟨h1,h2⟩ | ⟨cs,rfl⟩
 ·exact zk op t x y h1 h2
 ·cases op <;>cases v <;>simp[eqGuard,run_program,hm]
theorem R6{P:Program}{w:World}{D:aR}{E:aZ}{neg:Bool}{t:TypeId}{a b:I}{ty:cN}{r:Bool}{u v:Value}(hr:cv ty a b=some r)(hx:aY w D E a u)(hy:aY w D E b v){dt:Nat}(hdt:dt≤10000)(hty:gS P dt t=some ty) :
  (binOp (if neg then .neq else .eql) t u v).run P w=.ok (.bool (if neg then !r else r)) w:=by
 have he:=s8 (w:=w) (D:=D) (E:=E) dt t ty hty a b u v r hx hy hr 10000 hdt;cases ty <;>simp only[cv] at hr <;>split at hr <;>first | (cases hr;done) | skip
 ·rw[(fC hx).1,(fC hy).1] at *;split at hr
  ·rename_i hk;simp only[u8] at hr;subst hr;rw[hk.1,hk.2];cases neg <;>simp[binOp,Op.intCmp,bne]
  ·cases hr
 ·have e1:=mz hx;have e2:=mz hy;subst e1 e2;cases neg <;>simp only[binOp,if_true,zz6,if_false] <;>simp[Op.equal,Op.maxDepth,he]
 ·rw[(oj hx).1,(oj hy).1] at *;simp only[u8] at hr;subst hr;cases neg <;>simp[binOp,Op.stringOp]
 ·obtain ⟨cs,rfl,_⟩:=jT hx;obtain ⟨ds,rfl,_⟩:=jT hy;cases neg <;>simp only[if_true,zz6,if_false]
  ·rw[run_eql_struct,he];rfl
  ·rw[run_neq_struct,he];rfl
 ·obtain ⟨cs,rfl,_⟩:=jT hx;obtain ⟨ds,rfl,_⟩:=jT hy;cases neg <;>simp only[if_true,zz6,if_false]
  ·rw[run_eql_struct,he];rfl
  ·rw[run_neq_struct,he];rfl
theorem aiE{neg:Bool}{t yt:TypeId}{y z:Operand}{y' z':aJ}{ty:cN}{r:Bool}(ho:o.op=.binOp (if neg then .neq else .eql) t y z yt)(hy:bK c.P 0 y=some y')(hz:bK c.P 0 z=some z')(hg:c.P.eqGuardType c.P.depth t=false)
  (hty:gS c.P 12 t=some ty) (h:cv ty (ab A y') (ab A z')=some r):dW c A o (.bool (if neg then !r else r)) :=
 .same fun a w D E hs=>by
  have h1:=ct hs hy;have h2:=ct hs hz;refine ⟨_,?_,oV _⟩;simp only[execOp,ho,Sem.run_bind,amv _ t y z h h1 hg,Result.andThen_ok,R6 h h1 h2 (dt:=12) (by omega) hty];rfl
theorem xA{neg:Bool}{t yt e:TypeId}{y z:Operand}{y':aJ}{sz:Nat}{r:Bool}(ho:o.op=.binOp (if neg then .neq else .eql) t y z yt)(hu:c.P.underlying t=some (.slice e))(hy:bK c.P 0 y=some y')(hz:bK c.P 0 z=some (.c (.nils sz)))
  (h:(∃ s,ab A y'=.nils s∧r=true)∨(∃ s es,ab A y'=.slice s es∧es≠[]∧r=false)∨(∃ n p s lo k,ab A y'=.view n p s lo k∧r=false)):dW c A o (.bool (if neg then !r else r)) :=
 .same fun a w D E hs=>by
  have h1:=ct hs hy;have h2:aY w D E (.nils sz) (a.eval z):=ct hs hz;have hv:a.eval z=.slice none 0 0:=by
   obtain ⟨cs,q1,q2⟩:=h2;simp only[af] at q2;simpa[bL,I.isAgg,q2] using q1.symm
  have hu':(∃ ad n cp,a.eval y=.slice ad n cp∧r=ad.isNone):=by
   rcases h with ⟨s,h,rfl⟩ | ⟨s,es,h,hne,rfl⟩ | ⟨n,p,s,lo,k,h,rfl⟩
   ·rw[h] at h1;obtain ⟨cs,q1,q2⟩:=h1;simp only[af] at q2;exact ⟨none,0,0,by simpa[bL,I.isAgg,q2] using q1.symm,rfl⟩
   ·rw[h] at h1;obtain ⟨ad,cap,e1,_,_,e4,_⟩:=oi h1;rcases e4 with e4 | ⟨b,off,cs,rfl,_,_⟩
    ·exact absurd e4 hne
    ·exact ⟨_,_,_,e1,rfl⟩
   ·rw[h] at h1;obtain ⟨cs,q1,q2⟩:=h1;simp only[af] at q2;obtain ⟨b,aQ,off,l,_,_,_,q2,_⟩:=q2;exact ⟨_,_,_,by simpa[bL,I.isAgg,q2] using q1.symm,rfl⟩
  obtain ⟨ad,n,cp,hyv,rfl⟩:=hu';have he:∀ d,(Op.equalIn (d+1) t (.slice ad n cp) (.slice none 0 0)).run c.P w=.ok ad.isNone w:=fun d=>by
   cases ad <;>simp[Op.equalIn,run_underlying hu]
  refine ⟨.bool (if neg then !ad.isNone else ad.isNone),?_,oV _⟩;cases neg <;>simp only[execOp,ho,hyv,hv,if_true,zz6,if_false,Sem.run_bind,eqGuard] <;>simp[binOp,Op.equal,Op.maxDepth,he]
end
def jf(c:cU)(A:ae)(o:Oper)(B:ae):Prop :=
 ∀ a w D E,aX c A a w D E→∃ w',((∃ v,(execOp a.eval o).run c.P w=.ok (.value v) w'∧cA c B (a.put o.dst v) w')∨((execOp a.eval o).run c.P w=.ok .skip w'∧cA c B (a.put o.dst undef) w'))
section
variable {c:cU} {A:ae} {o:Oper} {x:I}
theorem dW.does(h:dW c A o x)(hd:∀ k,o.dst=some k→k<c.n):jf c A o (A.aP o.dst x):=by
 intro a w D E hs;obtain ⟨v,w',D',h1,h2,h3⟩:=h a w D E hs;exact ⟨w',.inl ⟨v,h1,D',E,h2.aP hd h3⟩⟩
theorem ZI{t:TypeId}{z:I}{d:Nat}(ho:o.op=.alloc t)(hz:gq c.P t=some z)(hd:o.dst=some d)(hn:d<c.n)(hf:A.o d=none):jf c A o ((A.aS d (.box z)).put d (.ptr d [])):=by
 intro a w D E hs;obtain ⟨i,zv,hi,hzv,hzr⟩:=mF hz;have h1:=hs.rK (T:=t) (.inl hn) hf (hzr w D E);have h2:=h1.put (x:=.ptr d []) (v:=.pointer (some ⟨w.heap.size,0,none⟩)) hn ⟨_,by simp[bL,I.isAgg];rfl,by
  simp only[af,if_true];exact ⟨w.heap.size,z.aQ,0,rfl,by cases z.aQ <;>simp[cR.off],rfl⟩⟩
 exact ⟨w.alloc (.cells zv.cells t),.inl ⟨.pointer (some ⟨w.heap.size,0,none⟩),by simp[execOp,ho,Instr.alloc,zeroValue,typeInfo,hi,hzv,newVar,newRow],D,_,by rw[hd];exact h2⟩⟩
theorem ZN{t:TypeId}{y:Operand}{y':aJ}{d:Nat}(ho:o.op=.box t y)(hy:bK c.P t y=some y')(hv:(ab A y').cm=true)(hd:o.dst=some d)(hn:d<c.n)(hf:A.o d=none) :
  jf c A o ((A.aS d (.box (ab A y'))).put d (.ptr d [])):=by
 intro a w D E hs;obtain ⟨cs,k1,k2⟩:∃ cs,bL (ab A y') (a.eval y) cs∧af w D E (ab A y') cs:=by
  have h:=ct hs hy;generalize ab A y'=z at *;cases z <;>simp[I.cm] at hv <;>exact h
 have hc:=k1.cells k2;rw[←hc] at k2;have h1:=hs.rK (T:=t) (.inl hn) hf k2;have h2:=h1.put (x:=.ptr d []) (v:=.pointer (some ⟨w.heap.size,0,none⟩)) hn ⟨_,by simp[bL,I.isAgg];rfl,by
  simp only[af,if_true];exact ⟨w.heap.size,(ab A y').aQ,0,rfl,by cases (ab A y').aQ <;>simp[cR.off],rfl⟩⟩
 exact ⟨w.alloc (.cells (a.eval y).cells t),.inl ⟨.pointer (some ⟨w.heap.size,0,none⟩),by simp[execOp,ho,Instr.box,newVar,newRow],D,_,by rw[hd];exact h2⟩⟩
theorem ZT{t:TypeId}{y z:Operand}{y' z':aJ}{s:Option Nat}{n:Nat}{p:List Nat}{b old:I}(ho:o.op=.store t y z)(hk:fY c.P t=some s)(hk1:s.isSome=true∨c.P.cellsOf t=1)(hy:bK c.P 0 y=some y')(hz:bK c.P t z=some z')
  (hp:ab A y'=.ptr n p) (hb:A.o n=some (.box b)) (hat:b.at p=some old) (hv:(ab A z').cm=true) (hok:b8 s (ab A z')=true) (hsh:(ab A z').aQ=old.aQ) (hd:o.dst=none) :
  jf c A o (A.aS n (.box (b.dO p (ab A z')))):=by
 intro a w D E hs;have h1:=ct hs hy;rw[hp] at h1;obtain ⟨bb,aQ,off,h2,h3,h4⟩:=pd h1;obtain ⟨b',cs,T,k1,k2,k3,k4,k5⟩:=hs.box hb;rw[k1] at h2;simp only[u8,bW.aA.injEq] at h2;obtain ⟨rfl,rfl⟩:=h2;obtain ⟨ds,q1,q2⟩:∃ ds,bL (ab A z') (a.eval z) ds∧af w D E (ab A z') ds:=by
  have h:=ct hs hz;generalize ab A z'=zz at *;cases zz <;>simp[I.cm] at hv <;>exact h
 have hc:=q1.cells q2;obtain ⟨off',p1,p2,p3,p4⟩:=ur p b old _ _ ds k4 hat q2 hsh;rw[h3,u8] at p1;subst p1;have hl:=af.length _ _ q2;obtain ⟨i,hi⟩:=tA hk;have hsz:ds.length=c.P.cellsOf t:=by
  cases s with
  |none =>
   simp only[b8,Bool.not_eq_true'] at hok;have:(ab A z').size=1:=by generalize ab A z'=zz at *;cases zz <;>simp_all[I.isAgg,I.size]
   rw[hl,this];rcases hk1 with h | h
   ·cases h
   ·exact h.symm
  |some m =>
   simp only[b8,zz2,beq_iff_eq] at hok;rw[hl,hok.2,x0 hk]
 have hcs:(a.eval z).cells.size=ds.length:=by rw[←hc,zv0]
 have hrun:=run_storeCells_at c.P b' off T ds 0 cs w k3 (by rw[zv0] at p2;omega) (af.nd _ _ q2);simp only[Nat.add_zero] at hrun;have hs2:=hs.Pg (y:=b.dO p (ab A z')) (cs':=(cs.toList.take off++ds++cs.toList.drop (off+ds.length)).toArray) hb k1 p4 (by simpa using p3);refine ⟨w.setRow b' (cs.toList.take off++ds++cs.toList.drop (off+ds.length)).toArray,.inr ⟨?_,D,E,?_⟩⟩
 ·have e:(a.eval z).cells.toList=ds:=hc;have hg:¬ (a.eval z).cells.size≠c.P.cellsOf t:=by rw[hcs,hsz];simp
  simp only[execOp,ho,h4,Instr.storeAt,Instr.sureAddr,storeVar,Sem.run_bind,Sem.run_pure,Result.andThen_ok,jw hi,Sem.run_ite,if_neg hg,e,hrun]
 ·rw[hd];exact hs2
end
section
variable {c:cU} {A:ae} {a:Act} {w:World} {D:aR} {E:aZ}
theorem aX.EK(h:aX c A a w D E){n:Nat}{T:TypeId}{sz cap:Nat}{es ys:List I}{pre news rest:List Value}{cs:Array Value}{aF:Option (Nat×Nat)}(hn:A.o n=some (.bY T sz es))(aw:E n=some (.rw aF es.length))(hes:aI w D E es pre)
  (hys:aI w D E ys news) (hysz:∀ e∈ys,e.size=sz) (hne:ys≠[]) (hcs:cs.toList=(pre++news)++rest) (hsize:cs.size=cap*sz) (hlen:es.length+ys.length≤cap) (hcap:cap≤maxLen) :
  aX c (A.aS n (.bY T sz (es++ys))) a (w.drew.alloc (.cells cs T)) D (fun m=>if m=n then some (.rw (some (w.heap.size,cap)) (es.length+ys.length)) else E m):=by
 have hlast:0<ys.length:=List.length_pos_iff.2 hne;have hheap:∀ b,b<w.heap.size→(w.drew.alloc (.cells cs T)).heap[b]?=w.heap[b]?:=fun b hb=>Below.heap_alloc w.drew _ b hb;have hl:dX w D E (w.drew.alloc (.cells cs T)) D (fun m=>if m=n then some (.rw (some (w.heap.size,cap)) (es.length+ys.length)) else E m):=by
  have eE:∀ {m:Nat} {e:bW},E m=some e→e.eX=true→(if m=n then some (.rw (some (w.heap.size,cap)) (es.length+ys.length)) else E m)=some e:=fun {m e} he hfx=>by
   have:m≠n:=fun e=>by rw[e,aw] at he;cases he;cases hfx
   rw[if_neg this];exact he
  refine ⟨fun _ _ h=>h,fun b o v _ hv =>?_,fun m b aQ he=>eE he rfl,fun m blk' l he =>?_,fun m b he=>eE he rfl,fun m b he=>eE he rfl,fun b es ck _ hm=>(hheap b (gj hm)).trans hm⟩
  ·rw[World.cell?_of_block (hheap b (World.block_lt_of_cell? w _ hv))];exact hv
  ·by_cases hm:m=n
   ·subst hm;rw[aw] at he;simp only[u8,bW.rw.injEq] at he;exact ⟨_,_,if_pos rfl,by omega,fun e=>by omega⟩
   ·exact ⟨blk',l,by simp only[if_neg hm];exact he,zz7 _,fun _=>rfl⟩
 have hown:=h.bS n;rw[hn] at hown;obtain ⟨blk1,hb1,hb2,_⟩:=hown;refine ⟨h.sz,h.e8.mono fun B _ hB=>(hheap B (zw2.1 hB).1).trans hB,fun t=>aY.bN hl (h.eA t),h.eb.trans ⟨rfl,rfl,rfl,by simp,fun k hk=>hheap k (h.old hk)⟩,h.df,fun b o hd'=>by have:=h.dv b o hd';simp;omega,fun m =>?_,?_,fun m e hm =>?_,h.fj,h.cM,h.fp,h.lA hl⟩
 ·simp only[ae.aS];by_cases hm:m=n
  ·subst hm;simp only[if_true,dc];refine ⟨some (w.heap.size,cap),by simp,fun e he =>?_,?_⟩
   ·rcases zy4.1 he with he | he
    ·exact hb2 e he
    ·exact hysz e he
   ·refine ⟨cs,pre++news,rest,.inl h.eb.size,heap_alloc_new w.drew _,hcs,?_,hsize,by simpa using hlen,hcap,fun o ho=>absurd (h.dv _ o ho) (Nat.lt_irrefl _)⟩;exact aI.bN hl _ _ (kG _ _ _ _ hes hys)
  ·simp only[if_neg hm];exact (h.bS m).bN hl (by simp only[if_neg hm]) fun e b he hb=>⟨hheap b (h.gh he hb),fun _ ho=>ho⟩
 ·intro m m' e e' b h1 h2 h3 h4;by_cases hm:m=n <;>by_cases hm':m'=n
  ·rw[hm,hm']
  ·simp only[if_pos hm,u8] at h1;simp only[if_neg hm'] at h2;subst h1;simp only[bW.aF,u8] at h3;have:=h.gh h2 h4;omega
  ·simp only[if_neg hm] at h1;simp only[if_pos hm',u8] at h2;subst h2;simp only[bW.aF,u8] at h4;have:=h.gh h1 h3;omega
  ·simp only[if_neg hm] at h1;simp only[if_neg hm'] at h2;exact h.cZ m m' e e' b h1 h2 h3 h4
 ·by_cases hmn:m=n
  ·subst hmn;rcases h.ed _ _ hm with k | ⟨e',k,hle⟩
   ·rw[aw] at k;cases k
   ·rw[aw] at k;cases k;exact .inr ⟨_,if_pos rfl,hle.trans (.inr ⟨_,_,_,_,rfl,rfl,by omega,fun e=>by omega⟩)⟩
  ·simp only[if_neg hmn];exact h.ed _ _ hm
theorem aX.alv(h:aX c A a w D E){n:Nat}{T:TypeId}{sz b cap:Nat}{es ys:List I}{pre news rest:List Value}{cs:Array Value}(hn:A.o n=some (.bY T sz es))(aw:E n=some (.rw (some (b,cap)) es.length))(hb:w.heap[b]?=some (.cells cs T (0,0)))
  (hcs:cs.toList=pre++rest) (hes:aI w D E es pre) (hys:aI w D E ys news) (hysz:∀ e∈ys,e.size=sz) (hne:ys≠[]) (hsize:cs.size=cap*sz) (hlen:es.length+ys.length≤cap) (hcap:cap≤maxLen) (hD:∀ o,D b o→o<pre.length) (hbase:c.fq b) :
  aX c (A.aS n (.bY T sz (es++ys))) a (w.setRow b (pre++news++rest.drop news.length).toArray) D (fun m=>if m=n then some (.rw (some (b,cap)) (es.length+ys.length)) else E m):=by
 have hlast:0<ys.length:=List.length_pos_iff.2 hne;have hown:=h.bS n;rw[hn] at hown;obtain ⟨blk1,hb1,hb2,_⟩:=hown;have hnl:news.length=ys.length*sz:=by rw[aI.length _ _ hys,I.jd _ hysz]
 have hpl:pre.length=es.length*sz:=by rw[aI.length _ _ hes,I.jd _ hb2]
 have hl:dX w D E (w.setRow b (pre++news++rest.drop news.length).toArray) D (fun m=>if m=n then some (.rw (some (b,cap)) (es.length+ys.length)) else E m):=by
  have eE:∀ {m:Nat} {e:bW},E m=some e→e.eX=true→(if m=n then some (.rw (some (b,cap)) (es.length+ys.length)) else E m)=some e:=fun {m e} he hfx=>by
   have:m≠n:=fun e=>by rw[e,aw] at he;cases he;cases hfx
   rw[if_neg this];exact he
  refine ⟨fun _ _ h=>h,fun b1 o v hd hv =>?_,fun m b aQ he=>eE he rfl,fun m blk' l he =>?_,fun m b he=>eE he rfl,fun m b he=>eE he rfl,fun b1 es ck _ hm=>(setRow_other w b b1 _ (fun e=>by rw[e,hb] at hm;cases hm)).trans hm⟩
  ·by_cases hbb:b1=b
   ·subst hbb;have ho:=hD o hd;have h1:=setRow_heap w b1 cs (pre++news++rest.drop news.length).toArray T _ hb;rw[cell_of_row _ b1 o _ T (0,0) h1];rw[cell_of_row _ b1 o _ T (0,0) hb] at hv;have e1:cs[o]?=pre[o]?:=by rw[←zv3,hcs,zy8 ho]
    rw[←hv,e1];simp only[List.getElem?_toArray,zz5];rw[zy8 ho]
   ·rw[vK _ _ _ _ hbb];exact hv
  ·by_cases hm:m=n
   ·subst hm;rw[aw] at he;simp only[u8,bW.rw.injEq] at he;exact ⟨_,_,if_pos rfl,by omega,fun e=>by omega⟩
   ·exact ⟨blk',l,by simp only[if_neg hm];exact he,zz7 _,fun _=>rfl⟩
 refine ⟨h.sz,h.e8.mono fun B _ hB=>(setRow_other w b B _ (fun e=>by rw[e,hb] at hB;cases hB)).trans hB,fun t=>aY.bN hl (h.eA t),xZ h.eb hbase _,h.df,fun b1 o hd=>by have:=h.dv b1 o hd;simpa[World.setRow] using this,fun m =>?_,?_,fun m e hm =>?_,h.fj,h.cM,h.fp,h.lA hl⟩
 ·simp only[ae.aS];by_cases hm:m=n
  ·subst hm;simp only[if_true,dc];refine ⟨some (b,cap),by simp,fun e he =>?_,?_⟩
   ·rcases zy4.1 he with he | he
    ·exact hb2 e he
    ·exact hysz e he
   ·refine ⟨_,pre++news,rest.drop news.length,hbase,setRow_heap w b cs _ T _ hb,by simp,aI.bN hl _ _ (kG _ _ _ _ hes hys),?_,by simpa using hlen,hcap,fun o ho =>?_⟩
    ·have e1:cs.size=pre.length+rest.length:=by rw[←zv0,hcs,zz3]
     have e2:news.length+pre.length≤cs.size:=by
      rw[hsize,hnl,hpl,←zu4];exact Nat.mul_le_mul_right _ (by omega)
     simp only[List.size_toArray,zz3,zy9];omega
    ·have:=hD o ho;rw[zz3];omega
  ·simp only[if_neg hm];refine (h.bS m).bN hl (by simp only[if_neg hm]) fun e b1 he hb'=>⟨setRow_other w b b1 _ (fun e1=>hm (h.cZ m n e _ b he aw (by rw[hb',e1]) rfl)),fun _ ho=>ho⟩
 ·intro m m' e e' b' h1 h2 h3 h4;by_cases hm:m=n <;>by_cases hm':m'=n
  ·rw[hm,hm']
  ·simp only[if_pos hm,u8] at h1;simp only[if_neg hm'] at h2;subst h1;exact absurd (h.cZ m' n e' _ b' h2 aw h4 h3) hm'
  ·simp only[if_neg hm] at h1;simp only[if_pos hm',u8] at h2;subst h2;exact absurd (h.cZ m n e _ b' h1 aw h3 h4) hm
  ·simp only[if_neg hm] at h1;simp only[if_neg hm'] at h2;exact h.cZ m m' e e' b' h1 h2 h3 h4
 ·by_cases hmn:m=n
  ·subst hmn;rcases h.ed _ _ hm with k | ⟨e',k,hle⟩
   ·rw[aw] at k;cases k
   ·rw[aw] at k;cases k;exact .inr ⟨_,if_pos rfl,hle.trans (.inr ⟨_,_,_,_,rfl,rfl,by omega,fun e=>by omega⟩)⟩
  ·simp only[if_neg hmn];exact h.ed _ _ hm
theorem P3(n:Nat):(Builtin.zeroCells #[Value.int .i64 0] n).toList=(List.replicate n (0:Int)).map (Value.int .i64):=by
 simp only[Builtin.zeroCells,List.size_toArray,List.length_singleton,Nat.mul_one,Nat.mod_one,List.map_replicate];apply List.ext_getElem?;intro k;simp[List.getElem?_replicate];by_cases h:k<n
 ·rw[if_pos h,List.getElem?_range h];rfl
 ·rw[if_neg h,List.getElem?_eq_none (by simpa using h)];rfl
theorem OK{w:World}{D:aR}{E:aZ} : ∀ {xs:List Int} {cs:List Value},aI w D E (xs.map (I.int .i64)) cs→cs=xs.map (Value.int .i64)∧∀ x∈xs,IntKind.i64.min≤x∧x≤IntKind.i64.max
 | [],cs,h=>by
  simp only[zx1,aI] at h;subst h;exact ⟨rfl,by simp⟩
 |x::xs,cs,h=>by
  simp only[zz8,aI] at h;obtain ⟨c1,c2,rfl,h1,h2⟩:=h;obtain ⟨rfl,h3⟩:=OK h2;have h1':c1=[.int .i64 x]∧IntKind.i64.min≤x∧x≤IntKind.i64.max:=h1;obtain ⟨rfl,h4⟩:=h1';refine ⟨rfl,fun y hy =>?_⟩;rcases zx6.1 hy with rfl | hy
  ·exact h4
  ·exact h3 y hy
theorem aX.EL(h:aX c A a w D E){n:Nat}{T:TypeId}{cap m':Nat}{es ys:List Int}{cs:Array Value}{aF:Option (Nat×Nat)}(hn:A.o n=some (.cT T es))(aw:E n=some (.rw aF es.length))(hr:∀ x∈es++ys,IntKind.i64.min≤x∧x≤IntKind.i64.max)
  (hne:ys≠[]) (hcs:cs.toList=(es++ys++List.replicate m' 0).map (Value.int .i64)) (hlen:es.length+ys.length+m'=cap) (hcap:cap≤maxLen) :
  aX c (A.aS n (.cT T (es++ys))) a (w.drew.alloc (.cells cs T)) D (fun m=>if m=n then some (.rw (some (w.heap.size,cap)) (es.length+ys.length)) else E m):=by
 have hlast:0<ys.length:=List.length_pos_iff.2 hne;have hheap:∀ b,b<w.heap.size→(w.drew.alloc (.cells cs T)).heap[b]?=w.heap[b]?:=fun b hb=>Below.heap_alloc w.drew _ b hb;have hl:dX w D E (w.drew.alloc (.cells cs T)) D (fun m=>if m=n then some (.rw (some (w.heap.size,cap)) (es.length+ys.length)) else E m):=by
  have eE:∀ {m:Nat} {e:bW},E m=some e→e.eX=true→(if m=n then some (.rw (some (w.heap.size,cap)) (es.length+ys.length)) else E m)=some e:=fun {m e} he hfx=>by
   have:m≠n:=fun e=>by rw[e,aw] at he;cases he;cases hfx
   rw[if_neg this];exact he
  refine ⟨fun _ _ h=>h,fun b o v _ hv =>?_,fun m b aQ he=>eE he rfl,fun m blk' l he =>?_,fun m b he=>eE he rfl,fun m b he=>eE he rfl,fun b es ck _ hm=>(hheap b (gj hm)).trans hm⟩
  ·rw[World.cell?_of_block (hheap b (World.block_lt_of_cell? w _ hv))];exact hv
  ·by_cases hm:m=n
   ·subst hm;rw[aw] at he;simp only[u8,bW.rw.injEq] at he;exact ⟨_,_,if_pos rfl,by omega,fun e=>by omega⟩
   ·exact ⟨blk',l,by simp only[if_neg hm];exact he,zz7 _,fun _=>rfl⟩
 refine ⟨h.sz,h.e8.mono fun B _ hB=>(hheap B (zw2.1 hB).1).trans hB,fun t=>aY.bN hl (h.eA t),h.eb.trans ⟨rfl,rfl,rfl,by simp,fun k hk=>hheap k (h.old hk)⟩,h.df,fun b o hd'=>by have:=h.dv b o hd';simp;omega,fun m =>?_,?_,fun m e hm =>?_,h.fj,h.cM,h.fp,h.lA hl⟩
 ·simp only[ae.aS];by_cases hm:m=n
  ·subst hm;simp only[if_true,dc];exact ⟨some (w.heap.size,cap),by simp,hr,cs,m',.inl h.eb.size,heap_alloc_new w.drew _,hcs,by simp[hne],by simp only[zz3];exact hlen,hcap,fun o ho=>absurd (h.dv _ o ho) (Nat.lt_irrefl _)⟩
  ·simp only[if_neg hm];exact (h.bS m).bN hl (by simp only[if_neg hm]) fun e b he hb=>⟨hheap b (h.gh he hb),fun _ ho=>ho⟩
 ·intro m m' e e' b h1 h2 h3 h4;by_cases hm:m=n <;>by_cases hm':m'=n
  ·rw[hm,hm']
  ·simp only[if_pos hm,u8] at h1;simp only[if_neg hm'] at h2;subst h1;simp only[bW.aF,u8] at h3;have:=h.gh h2 h4;omega
  ·simp only[if_neg hm] at h1;simp only[if_pos hm',u8] at h2;subst h2;simp only[bW.aF,u8] at h4;have:=h.gh h1 h3;omega
  ·simp only[if_neg hm] at h1;simp only[if_neg hm'] at h2;exact h.cZ m m' e e' b h1 h2 h3 h4
 ·by_cases hmn:m=n
  ·subst hmn;rcases h.ed _ _ hm with k | ⟨e',k,hle⟩
   ·rw[aw] at k;cases k
   ·rw[aw] at k;cases k;exact .inr ⟨_,if_pos rfl,hle.trans (.inr ⟨_,_,_,_,rfl,rfl,by omega,fun e=>by omega⟩)⟩
  ·simp only[if_neg hmn];exact h.ed _ _ hm
theorem aX.alw(h:aX c A a w D E){n:Nat}{T:TypeId}{b cap m':Nat}{es ys:List Int}{cs:Array Value}(hn:A.o n=some (.cT T es))(aw:E n=some (.rw (some (b,cap)) es.length))(hb:w.heap[b]?=some (.cells cs T (0,0)))
  (hr:∀ x∈es++ys,IntKind.i64.min≤x∧x≤IntKind.i64.max) (hne:ys≠[]) (hlen:es.length+ys.length+m'=cap) (hcap:cap≤maxLen) (hD:∀ o,¬ D b o) (hbase:c.fq b) :
  aX c (A.aS n (.cT T (es++ys))) a (w.setRow b ((es++ys++List.replicate m' 0).map (Value.int .i64)).toArray) D (fun m=>if m=n then some (.rw (some (b,cap)) (es.length+ys.length)) else E m):=by
 have hlast:0<ys.length:=List.length_pos_iff.2 hne;have hl:dX w D E (w.setRow b ((es++ys++List.replicate m' 0).map (Value.int .i64)).toArray) D (fun m=>if m=n then some (.rw (some (b,cap)) (es.length+ys.length)) else E m):=by
  have eE:∀ {m:Nat} {e:bW},E m=some e→e.eX=true→(if m=n then some (.rw (some (b,cap)) (es.length+ys.length)) else E m)=some e:=fun {m e} he hfx=>by
   have:m≠n:=fun e=>by rw[e,aw] at he;cases he;cases hfx
   rw[if_neg this];exact he
  refine ⟨fun _ _ h=>h,fun b1 o v hd hv =>?_,fun m b aQ he=>eE he rfl,fun m blk' l he =>?_,fun m b he=>eE he rfl,fun m b he=>eE he rfl,fun b1 es ck _ hm=>(setRow_other w b b1 _ (fun e=>by rw[e,hb] at hm;cases hm)).trans hm⟩
  ·by_cases hbb:b1=b
   ·subst hbb;exact absurd hd (hD o)
   ·rw[vK _ _ _ _ hbb];exact hv
  ·by_cases hm:m=n
   ·subst hm;rw[aw] at he;simp only[u8,bW.rw.injEq] at he;exact ⟨_,_,if_pos rfl,by omega,fun e=>by omega⟩
   ·exact ⟨blk',l,by simp only[if_neg hm];exact he,zz7 _,fun _=>rfl⟩
 refine ⟨h.sz,h.e8.mono fun B _ hB=>(setRow_other w b B _ (fun e=>by rw[e,hb] at hB;cases hB)).trans hB,fun t=>aY.bN hl (h.eA t),xZ h.eb hbase _,h.df,fun b1 o hd=>by have:=h.dv b1 o hd;simpa[World.setRow] using this,fun m =>?_,?_,fun m e hm =>?_,h.fj,h.cM,h.fp,h.lA hl⟩
 ·simp only[ae.aS];by_cases hm:m=n
  ·subst hm;simp only[if_true,dc];exact ⟨some (b,cap),by simp,hr,_,m',hbase,setRow_heap w b cs _ T _ hb,by simp,by simp[hne],by simp only[zz3];exact hlen,hcap,hD⟩
  ·simp only[if_neg hm];refine (h.bS m).bN hl (by simp only[if_neg hm]) fun e b1 he hb'=>⟨setRow_other w b b1 _ (fun e1=>hm (h.cZ m n e _ b he aw (by rw[hb',e1]) rfl)),fun _ ho=>ho⟩
 ·intro m m' e e' b' h1 h2 h3 h4;by_cases hm:m=n <;>by_cases hm':m'=n
  ·rw[hm,hm']
  ·simp only[if_pos hm,u8] at h1;simp only[if_neg hm'] at h2;subst h1;exact absurd (h.cZ m' n e' _ b' h2 aw h4 h3) hm'
  ·simp only[if_neg hm] at h1;simp only[if_pos hm',u8] at h2;subst h2;exact absurd (h.cZ m n e _ b' h1 aw h3 h4) hm
  ·simp only[if_neg hm] at h1;simp only[if_neg hm'] at h2;exact h.cZ m m' e e' b' h1 h2 h3 h4
 ·by_cases hmn:m=n
  ·subst hmn;rcases h.ed _ _ hm with k | ⟨e',k,hle⟩
   ·rw[aw] at k;cases k
   ·rw[aw] at k;cases k;exact .inr ⟨_,if_pos rfl,hle.trans (.inr ⟨_,_,_,_,rfl,rfl,by omega,fun e=>by omega⟩)⟩
  ·simp only[if_neg hmn];exact h.ed _ _ hm
end
section
variable {c:cU} {A:ae} {o:Oper}
theorem ZJ{t e:TypeId}{s x:Operand}{s' x':aJ}{n k sz:Nat}{es ys:List I}{z:I}(ho:o.op=.call { callee:=.builtin .append,args := #[s,x],argTypes := #[t,t] })(ht:c.P.underlying t=some (.slice e))(hs':bK c.P t s=some s')(hx':bK c.P t x=some x')
  (hz:gq c.P e=some z) (hzs:z.size=c.P.cellsOf e) (hpos:0<c.P.cellsOf e) (hs:ab A s'=.own n k) (hn:A.o n=some (.bY e (c.P.cellsOf e) es)) (hk:k=es.length) (hx:ab A x'=.slice sz ys) (hsz:sz=c.P.cellsOf e) (hne:ys≠[])
  (h63:es.length+ys.length≤maxLen) (hby:(es.length+ys.length)*c.P.bytesOf e≤140737488355328) (hd:∀ k,o.dst=some k→k<c.n) :
  jf c A o ((A.aS n (.bY e (c.P.cellsOf e) (es++ys))).aP o.dst (.own n (es.length+ys.length))):=by
 intro a w D E hsim;obtain ⟨i,zv,hi,hzv,hzr⟩:=mF hz;have hci:c.P.cellsOf e=i.size:=by simp[Program.cellsOf,hi]
 have hbi:c.P.bytesOf e=i.bytes:=by simp[Program.bytesOf,hi]
 have hzc:zv.cells.size=i.size:=by
  have:=af.length _ _ (hzr w D E);rw[zv0] at this;rw[this,hzs,hci]
 subst hk;have v1:=ct hsim hs';rw[hs] at v1;have v2:=ct hsim hx';rw[hx] at v2;obtain ⟨ad,cp,hxv,hc1,hc2,hc3,hc4⟩:=oi v2;obtain ⟨b2,off2,news,rfl,hr2,hys⟩:=hc3.resolve_left hne;have hobj:=hsim.bS n;rw[hn] at hobj;obtain ⟨aF,aw,hesz,hblk⟩:=hobj;have hnl:news.length=ys.length*i.size:=by rw[aI.length _ _ hys,I.jd _ hc4,hsz,hci]
 have hysz:∀ y∈ys,y.size=c.P.cellsOf e:=fun y hy=>by rw[hc4 y hy,hsz]
 have hnews:∀ j v,news[j]?=some v→w.cell? ((⟨b2,off2,none⟩:Addr).add j)=some v:=fun j v hj=>by
  rw[Addr.add_lit];exact (hr2 j v hj).1
 have h1:=aI.nd _ _ hys;have hsv:match aF with | none=>a.eval s=.slice none 0 0 | some (b,cap)=>a.eval s=.slice (some ⟨b,0,none⟩) es.length cap:=by
  obtain ⟨cs,q1,q2⟩:=v1;simp only[af] at q2;obtain ⟨blk',l,q3,q4,q5,q6⟩:=q2;rw[aw] at q3;simp only[u8,bW.rw.injEq] at q3;obtain ⟨rfl,rfl⟩:=q3;have q7:=q6 rfl;simp only[bL,I.isAgg] at q1;cases aF with
  |none=>simp only at q7 ⊢;rw[q7] at q1;simpa using q1.symm
  |some bc=>simp only at q7 ⊢;rw[q7] at q1;simpa using q1.symm
 have hl0:0<ys.length:=List.length_pos_iff.2 hne;have h63':=h63;simp only[maxLen] at h63';have run:∀ v' w',(Builtin.append_ #[t,t] o.type #[a.eval s,.slice (some ⟨b2,off2,none⟩) ys.length cp]).run c.P w=.ok v' w'→(execOp a.eval o).run c.P w=.ok (.value v') w':=by
  intro v' w' hr;unfold execOp;simp only[ho,resolve,invoke,builtin,Sem.run_bind,Sem.run_pure,Result.andThen_ok,List.map_toArray,zz8,zx1,hxv,hr]
 have put:∀ (w':World) (b cap:Nat) (v':Value),v'=.slice (some ⟨b,0,none⟩) (es.length+ys.length) cap→aX c (A.aS n (.bY e (c.P.cellsOf e) (es++ys))) a w' D (fun m=>if m=n then some (.rw (some (b,cap)) (es.length+ys.length)) else E m) →
   cA c ((A.aS n (.bY e (c.P.cellsOf e) (es++ys))).aP o.dst (.own n (es.length+ys.length))) (a.put o.dst v') w':=by
  rintro w' b cap v' rfl hs2;refine ⟨D,_,hs2.aP hd ⟨_,by simp[bL,I.isAgg];rfl,?_⟩⟩;simp only[af,if_true];exact ⟨some (b,cap),es.length+ys.length,rfl,zz7 _,⟨_,_,_,rfl⟩,fun _=>rfl⟩
 cases aF with
 |none =>
  simp only at hblk hsv;subst hblk;have hr:=run_append_nil (P:=c.P) w t o.type e i zv ht hi hzv ⟨b2,off2,none⟩ ys.length cp news hnl hnews hl0 (by simp at h63';omega) (by rw[hbi] at hby;simp at hby;omega);rw[←hsv] at hr;have hge:=grownCap_ge w ys.length 0 e;refine ⟨_,.inl ⟨_,run _ _ hr,put _ w.heap.size (grownCap w ys.length 0 e) _ (by simp) ?_⟩⟩;refine hsim.EK (pre:=[]) (news:=news) (rest:=(Builtin.zeroCells zv.cells (grownCap w ys.length 0 e-ys.length)).toList) hn aw (by simp[aI]) hys hysz hne (by simp) ?_ (by simpa using hge) (grownCap_le_maxLen w ys.length 0 e (by simpa using h63));simp only[Array.size_append,List.size_toArray,size_zeroCells,hzc,hnl,hci,←zu4]
  congr 1
  omega
 |some bc =>
  obtain ⟨b,cap⟩:=bc;simp only at hblk hsv;obtain ⟨cs,pre,rest,k1,k2,k3,k4,k5,k6,k7,k8⟩:=hblk;have hpl:pre.length=es.length*i.size:=by rw[aI.length _ _ k4,I.jd _ hesz,hci]
  by_cases hroom:es.length+ys.length≤cap
  ·have hfit:es.length*i.size+news.length≤cs.size:=by rw[hnl,k5,hci,←zu4];exact Nat.mul_le_mul_right _ hroom
   have hr:=run_append_room (P:=c.P) w t o.type e i ht hi b es.length cap cs k2 ⟨b2,off2,none⟩ ys.length cp news hnl hnews h1 hroom hfit;rw[←hsv] at hr;refine ⟨_,.inl ⟨_,run _ _ hr,put _ b cap _ rfl ?_⟩⟩;have e1:cs.toList.take (es.length*i.size)=pre:=by rw[k3,←hpl];exact List.take_left
   have e2:cs.toList.drop (es.length*i.size+news.length)=rest.drop news.length:=by rw[k3,←hpl,←List.drop_drop,List.drop_left]
   rw[e1,e2];exact hsim.alv hn aw k2 k3 k4 hys hysz hne k5 hroom k7 k8 k1
  ·have holds:∀ j v,pre[j]?=some v→w.cell? ((⟨b,0,none⟩:Addr).add j)=some v:=fun j v hj=>by
    rw[Addr.add_lit,zz4,cell_of_row w b j cs e (0,0) k2,←zv3,k3];have:j<pre.length:=(zy6.1 hj).1;rw[zy8 this];exact hj
   have hr:=run_append_grow (P:=c.P) w t o.type e i zv ht hi hzv ⟨b,0,none⟩ es.length cap pre hpl holds ⟨b2,off2,none⟩ ys.length cp news hnl hnews (by omega) (by omega) (growslice_fits (by omega) (by rw[←hbi];exact hby));rw[←hsv] at hr;have hge:=grownCap_ge w (es.length+ys.length) cap e;refine ⟨_,.inl ⟨_,run _ _ hr,put _ w.heap.size (grownCap w (es.length+ys.length) cap e) _ rfl ?_⟩⟩;refine hsim.EK (pre:=pre) (news:=news) (rest:=(Builtin.zeroCells zv.cells (grownCap w (es.length+ys.length) cap e-(es.length+ys.length))).toList) hn aw k4 hys hysz hne (by simp) ?_ hge (grownCap_le_maxLen w _ cap e h63);simp only[Array.size_append,List.size_toArray,size_zeroCells,hzc,hnl,hpl,hci,←zu4]
   congr 1
   omega
theorem ZK{t e:TypeId}{s x:Operand}{s' x':aJ}{n k sz:Nat}{es ys:List Int}(ho:o.op=.call { callee:=.builtin .append,args := #[s,x],argTypes := #[t,t] })(ht:c.P.underlying t=some (.slice e))(hs':bK c.P t s=some s')(hx':bK c.P t x=some x')
  (hz:gq c.P e=some (.int .i64 0)) (h1c:c.P.cellsOf e=1) (hs:ab A s'=.own n k) (hn:A.o n=some (.cT e es)) (hk:k=es.length) (hx:ab A x'=.slice sz (ys.map (.int .i64))) (hne:ys≠[])
  (h63:es.length+ys.length≤maxLen) (hby:(es.length+ys.length)*c.P.bytesOf e≤140737488355328) (hd:∀ k,o.dst=some k→k<c.n) :
  jf c A o ((A.aS n (.cT e (es++ys))).aP o.dst (.own n (es.length+ys.length))):=by
 intro a w D E hsim;obtain ⟨i,zv,hi,hzv,hzr⟩:=mF hz;have hci:c.P.cellsOf e=i.size:=by simp[Program.cellsOf,hi]
 have hi1:i.size=1:=hci.symm.trans h1c;have hbi:c.P.bytesOf e=i.bytes:=by simp[Program.bytesOf,hi]
 have hzv2:zv.cells = #[Value.int .i64 0]:=by
  have:zv.cells.toList=[Value.int .i64 0]:=(hzr w D E).1;exact Array.toList_inj.1 this
 subst hk;have v1:=ct hsim hs';rw[hs] at v1;have v2:=ct hsim hx';rw[hx] at v2;obtain ⟨ad,cp,hxv,hc1,hc2,hc3,hc4⟩:=oi v2;obtain ⟨b2,off2,news,rfl,hr2,hys⟩:=hc3.resolve_left (by simpa using hne);rw[zy2] at hxv;obtain ⟨aF,aw,hesr,hblk⟩:=hsim.sc hn;obtain ⟨hnw,hyr⟩:=OK hys;have hnl0:news.length=ys.length:=by rw[hnw,zy2]
 have hnl:news.length=ys.length*i.size:=by rw[hi1,Nat.mul_one,hnl0]
 have hrr:∀ x∈es++ys,IntKind.i64.min≤x∧x≤IntKind.i64.max:=fun x hx=>by
  rcases zy4.1 hx with h | h
  ·exact hesr x h
  ·exact hyr x h
 have hnews:∀ j v,news[j]?=some v→w.cell? ((⟨b2,off2,none⟩:Addr).add j)=some v:=fun j v hj=>by
  rw[Addr.add_lit];exact (hr2 j v hj).1
 have h1:=aI.nd _ _ hys;have hsv:match aF with | none=>a.eval s=.slice none 0 0 | some (b,cap)=>a.eval s=.slice (some ⟨b,0,none⟩) es.length cap:=by
  obtain ⟨cs,q1,q2⟩:=v1;simp only[af] at q2;obtain ⟨blk',l,q3,q4,q5,q6⟩:=q2;rw[aw] at q3;simp only[u8,bW.rw.injEq] at q3;obtain ⟨rfl,rfl⟩:=q3;have q7:=q6 rfl;simp only[bL,I.isAgg] at q1;cases aF with
  |none=>simp only at q7 ⊢;rw[q7] at q1;simpa using q1.symm
  |some bc=>simp only at q7 ⊢;rw[q7] at q1;simpa using q1.symm
 have hl0:0<ys.length:=List.length_pos_iff.2 hne;have h63':=h63;simp only[maxLen] at h63';have run:∀ v' w',(Builtin.append_ #[t,t] o.type #[a.eval s,.slice (some ⟨b2,off2,none⟩) ys.length cp]).run c.P w=.ok v' w'→(execOp a.eval o).run c.P w=.ok (.value v') w':=by
  intro v' w' hr;unfold execOp;simp only[ho,resolve,invoke,builtin,Sem.run_bind,Sem.run_pure,Result.andThen_ok,List.map_toArray,zz8,zx1,hxv,hr]
 have put:∀ (w':World) (b cap:Nat) (v':Value),v'=.slice (some ⟨b,0,none⟩) (es.length+ys.length) cap→aX c (A.aS n (.cT e (es++ys))) a w' D (fun m=>if m=n then some (.rw (some (b,cap)) (es.length+ys.length)) else E m) →
   cA c ((A.aS n (.cT e (es++ys))).aP o.dst (.own n (es.length+ys.length))) (a.put o.dst v') w':=by
  rintro w' b cap v' rfl hs2;refine ⟨D,_,hs2.aP hd ⟨_,by simp[bL,I.isAgg];rfl,?_⟩⟩;simp only[af,if_true];exact ⟨some (b,cap),es.length+ys.length,rfl,zz7 _,⟨_,_,_,rfl⟩,fun _=>rfl⟩
 cases aF with
 |none =>
  simp only at hblk hsv;subst hblk;have hr:=run_append_nil (P:=c.P) w t o.type e i zv ht hi hzv ⟨b2,off2,none⟩ ys.length cp news hnl hnews hl0 (by simp at h63';omega) (by rw[hbi] at hby;simp at hby;omega);rw[←hsv] at hr;have hge:=grownCap_ge w ys.length 0 e;refine ⟨_,.inl ⟨_,run _ _ hr,put _ w.heap.size (grownCap w ys.length 0 e) _ (by simp) ?_⟩⟩;refine hsim.EL (m':=grownCap w ys.length 0 e-ys.length) hn aw hrr hne ?_ (by simp;omega) (grownCap_le_maxLen w ys.length 0 e (by simpa using h63));rw[hzv2];simp only[Array.toList_append,P3,zy3,zx5,hnw]
 |some bc =>
  obtain ⟨b,cap⟩:=bc;simp only at hblk hsv;obtain ⟨cs,m,k1,k2,k3,k4,k5,k6,k7⟩:=hblk;have hcz:cs.size=cap:=by rw[←zv0,k3];simp;omega
  by_cases hroom:es.length+ys.length≤cap
  ·have hfit:es.length*i.size+news.length≤cs.size:=by rw[hnl,hi1];omega
   have hr:=run_append_room (P:=c.P) w t o.type e i ht hi b es.length cap cs k2 ⟨b2,off2,none⟩ ys.length cp news hnl hnews h1 hroom hfit;rw[←hsv] at hr;refine ⟨_,.inl ⟨_,run _ _ hr,put _ b cap _ rfl ?_⟩⟩;have e0:cs.toList.take (es.length*i.size)++news++cs.toList.drop (es.length*i.size+news.length)=(es++ys++List.replicate (m-ys.length) 0).map (Value.int .i64):=by
    rw[hi1,Nat.mul_one,hnl0,k3,hnw,←List.map_take,←List.map_drop,List.take_left,←List.drop_drop,List.drop_left];simp only[zx5,List.drop_replicate]
   rw[e0];exact hsim.alw (m':=m-ys.length) hn aw k2 hrr hne (by omega) k6 k7 k1
  ·have hpl:(es.map (Value.int .i64)).length=es.length*i.size:=by rw[hi1];simp
   have holds:∀ j v,(es.map (Value.int .i64))[j]?=some v→w.cell? ((⟨b,0,none⟩:Addr).add j)=some v:=fun j v hj=>by
    rw[Addr.add_lit,zz4,cell_of_row w b j cs e (0,0) k2,←zv3,k3];have:j<(es.map (Value.int .i64)).length:=(zy6.1 hj).1;rw[zx5,zy8 this];exact hj
   have hr:=run_append_grow (P:=c.P) w t o.type e i zv ht hi hzv ⟨b,0,none⟩ es.length cap (es.map (Value.int .i64)) hpl holds ⟨b2,off2,none⟩ ys.length cp news hnl hnews (by omega) (by omega) (growslice_fits (by omega) (by rw[←hbi];exact hby));rw[←hsv] at hr;have hge:=grownCap_ge w (es.length+ys.length) cap e;refine ⟨_,.inl ⟨_,run _ _ hr,put _ w.heap.size (grownCap w (es.length+ys.length) cap e) _ rfl ?_⟩⟩;refine hsim.EL (m':=grownCap w (es.length+ys.length) cap e-(es.length+ys.length)) hn aw hrr hne ?_ (by omega) (grownCap_le_maxLen w _ cap e h63);rw[hzv2];simp only[Array.toList_append,P3,zx5,hnw]
end
mutual
def I.only(p:Nat→Bool):I→Bool
 | .agg fs | .tuple fs=>I.bT p fs
 | .slice _ es=>I.bT p es
 | .ref x=>x.only p
 | .func _ caps=>I.bT p caps
 | .iface _ v=>v.only p
 | .ptr n _ | .own n _ | .view n _ _ _ _ | .mref n | .dC n=>p n
 | .cX ks vs=>I.bT p ks&&I.bT p vs
 |_=>true
def I.bT(p:Nat→Bool):List I→Bool
 | []=>true
 |x::xs=>x.only p&&I.bT p xs
end
mutual
theorem nf(p:Nat→Bool):∀ x:I,x.bD=true→x.only p=true
 | .agg fs,h=>by simp only[I.bD,I.only] at *;exact kc p fs h
 | .slice _ es,h=>by simp only[I.bD,I.only] at *;exact kc p es h
 | .ref x,h=>by simp only[I.bD,I.only] at *;exact nf p x h
 | .func _ caps,h=>by simp only[I.bD,I.only] at *;exact kc p caps h
 | .iface _ v,h=>by simp only[I.bD,I.only] at *;exact nf p v h
 | .bool _,_ | .int _ _,_ | .c7 _,_ | .nilp,_ | .dw,_ | .ea,_ | .raw _,_ | .nils _,_ | .c0 _,_=>by simp[I.only]
 | .cX ks vs,h=>by simp only[I.bD,I.only,zz2] at *;exact ⟨kc p ks h.1,kc p vs h.2⟩
 | .ptr _ _,h | .own _ _,h | .view _ _ _ _ _,h | .mref _,h | .dC _,h | .undef,h | .du,h | .tuple _,h=>by simp[I.bD] at h
theorem kc(p:Nat→Bool):∀ xs:List I,I.bZ xs=true→I.bT p xs=true
 | [],_=>rfl
 |x::xs,h=>by
  simp only[I.bZ,I.bT,zz2] at *;exact ⟨nf p x h.1,kc p xs h.2⟩
end
mutual
theorem af.dJ{w:World}{D:aR}{E E':aZ}{p:Nat→Bool}(aw:∀ n,p n=true→E' n=E n):∀ (x:I) (cs:List Value),x.only p=true→af w D E x cs→af w D E' x cs
 | .agg fs,cs,ho,hr=>by simp only[af,I.only] at *;exact aI.dJ aw fs cs ho hr
 | .bool b,cs,_,hr=>by simpa only[af] using hr
 | .int k n,cs,_,hr=>by simpa only[af] using hr
 | .c7 s,cs,_,hr=>by simpa only[af] using hr
 | .nilp,cs,_,hr=>by simpa only[af] using hr
 | .dw,cs,_,hr=>by simpa only[af] using hr
 | .ea,cs,_,hr=>by simpa only[af] using hr
 | .raw _,cs,_,hr=>by simpa only[af] using hr
 | .nils _,cs,_,hr=>by simpa only[af] using hr
 | .c0 _,cs,_,hr=>by simpa only[af] using hr
 | .slice sz es,cs,ho,hr=>by
  simp only[af,I.only] at *;obtain ⟨a,cap,h1,h2,h3,h4,h5⟩:=hr;refine ⟨a,cap,h1,h2,h3,?_,h5⟩;rcases h4 with h4 | ⟨b,off,cs',h6,h7,h8⟩
  ·exact .inl h4
  ·exact .inr ⟨b,off,cs',h6,h7,aI.dJ aw es cs' ho h8⟩
 | .ref x,cs,ho,hr=>by
  simp only[af,I.only] at *;obtain ⟨b,off,cs',h1,h2,h3⟩:=hr;exact ⟨b,off,cs',h1,h2,af.dJ aw x cs' ho h3⟩
 | .func f caps,cs,ho,hr=>by
  simp only[af,I.only] at *;obtain ⟨vs,h1,h2⟩:=hr;exact ⟨vs,h1,aH.dJ aw caps vs ho h2⟩
 | .iface t v,cs,ho,hr=>by
  simp only[af,I.only] at *;obtain ⟨u,cs',h1,h2,h3⟩:=hr;exact ⟨u,cs',h1,h2,af.dJ aw v cs' ho h3⟩
 | .ptr n p,cs,ho,hr=>by
  simp only[af,I.only] at *;obtain ⟨b,aQ,off,h1,h2⟩:=hr;exact ⟨b,aQ,off,(aw n ho).trans h1,h2⟩
 | .own n k,cs,ho,hr=>by
  simp only[af,I.only] at *;obtain ⟨aF,l,h1,h2⟩:=hr;exact ⟨aF,l,(aw n ho).trans h1,h2⟩
 | .view n p _ _ _,cs,ho,hr=>by
  simp only[af,I.only] at *;obtain ⟨b,aQ,off,l,h1,h2⟩:=hr;exact ⟨b,aQ,off,l,(aw n ho).trans h1,h2⟩
 | .mref n,cs,ho,hr=>by
  simp only[af,I.only] at *;obtain ⟨b,h1,h2⟩:=hr;exact ⟨b,(aw n ho).trans h1,h2⟩
 | .dC n,cs,ho,hr=>by
  simp only[af,I.only] at *;obtain ⟨b,h1,h2⟩:=hr;exact ⟨b,(aw n ho).trans h1,h2⟩
 | .cX ks vs,cs,ho,hr=>by
  simp only[af,I.only,zz2] at *;obtain ⟨b,es,ck,h1,h2,h3,h4⟩:=hr;exact ⟨b,es,ck,h1,h2,aH.dJ aw ks _ ho.1 h3,aH.dJ aw vs _ ho.2 h4⟩
 | .undef,_,_,hr=>by simp only[af] at hr
 | .du,_,_,hr=>by simp only[af] at hr
 | .tuple _,_,_,hr=>by simp only[af] at hr
theorem aI.dJ{w:World}{D:aR}{E E':aZ}{p:Nat→Bool}(aw:∀ n,p n=true→E' n=E n):∀ (xs:List I) (cs:List Value),I.bT p xs=true→aI w D E xs cs→aI w D E' xs cs
 | [],cs,_,hr=>by simpa only[aI] using hr
 |x::xs,cs,ho,hr=>by
  simp only[aI,I.bT,zz2] at *;obtain ⟨c1,c2,h1,h2,h3⟩:=hr;exact ⟨c1,c2,h1,af.dJ aw x c1 ho.1 h2,aI.dJ aw xs c2 ho.2 h3⟩
theorem aH.dJ{w:World}{D:aR}{E E':aZ}{p:Nat→Bool}(aw:∀ n,p n=true→E' n=E n):∀ (xs:List I) (vs:List Value),I.bT p xs=true→aH w D E xs vs→aH w D E' xs vs
 | [],vs,_,hr=>by simpa only[aH] using hr
 |x::xs,vs,ho,hr=>by
  simp only[aH,I.bT,zz2] at *;obtain ⟨v,rest,cs,h1,h2,h3,h4⟩:=hr;exact ⟨v,rest,cs,h1,h2,af.dJ aw x cs ho.1 h3,aH.dJ aw xs rest ho.2 h4⟩
end
theorem aY.dJ{w:World}{D:aR}{E E':aZ}{p:Nat→Bool}(aw:∀ n,p n=true→E' n=E n){x:I}{v:Value}(ho:x.only p=true)(hr:aY w D E x v):aY w D E' x v:=by
 cases x <;>simp only[aY] at * <;>first
  |exact hr
  |(obtain ⟨vs,h1,h2⟩:=hr;exact ⟨vs,h1,aH.dJ aw _ _ (by simpa[I.only] using ho) h2⟩)
  |(obtain ⟨cs,h1,h2⟩:=hr;exact ⟨cs,h1,af.dJ aw _ _ ho h2⟩)
def ah.only(p:Nat→Bool):ah→Bool
 | .box x=>x.only p
 | .bY _ _ es=>I.bT p es
 | .dU _=>true
 | .cT _ _=>true
 | .cB ks vs | .it ks vs _ _=>I.bT p ks&&I.bT p vs
def bA:List (Nat×Nat)→Nat→Nat
 | [],n=>n
 |(a,b)::r,n=>if n=a then b else bA r n
mutual
def I.aN(ρ:Nat→Nat):I→I
 | .agg fs=>.agg (I.cQ ρ fs)
 | .tuple fs=>.tuple (I.cQ ρ fs)
 | .slice sz es=>.slice sz (I.cQ ρ es)
 | .ref x=>.ref (x.aN ρ)
 | .func f caps=>.func f (I.cQ ρ caps)
 | .iface t v=>.iface t (v.aN ρ)
 | .ptr n p=>.ptr (ρ n) p
 | .own n k=>.own (ρ n) k
 | .view n p sz lo k=>.view (ρ n) p sz lo k
 | .mref n=>.mref (ρ n)
 | .dC n=>.dC (ρ n)
 | .cX ks vs=>.cX (I.cQ ρ ks) (I.cQ ρ vs)
 | .undef=>.undef | .du=>.du | .bool b=>.bool b | .int k n=>.int k n | .c7 s=>.c7 s
 | .nilp=>.nilp | .dw=>.dw | .ea=>.ea | .raw u=>.raw u | .nils z=>.nils z | .c0 z=>.c0 z
def I.cQ(ρ:Nat→Nat):List I→List I
 | []=>[]
 |x::xs=>x.aN ρ::I.cQ ρ xs
end
def ah.aN(ρ:Nat→Nat):ah→ah
 | .box x=>.box (x.aN ρ)
 | .bY T sz es=>.bY T sz (I.cQ ρ es)
 | .dU x=>.dU x
 | .cT T xs=>.cT T xs
 | .cB ks vs=>.cB (I.cQ ρ ks) (I.cQ ρ vs)
 | .it ks vs left cur=>.it (I.cQ ρ ks) (I.cQ ρ vs) left cur
mutual
theorem rY(ρ:Nat→Nat):∀ x:I,(x.aN ρ).size=x.size
 | .agg fs=>by simp only[I.aN,I.size];exact OU ρ fs
 | .undef | .du | .bool _ | .int _ _ | .c7 _ | .nilp | .dw | .ea | .raw _ | .nils _ | .c0 _ | .slice _ _ | .tuple _ | .ref _ | .func _ _ | .iface _ _ | .ptr _ _ | .own _ _ | .view _ _ _ _ _ | .mref _ | .dC _ | .cX _ _=>by simp only[I.aN,I.size]
theorem OU(ρ:Nat→Nat):∀ xs:List I,I.sizes (I.cQ ρ xs)=I.sizes xs
 | []=>rfl
 |x::xs=>by simp only[I.cQ,I.sizes,rY ρ x,OU ρ xs]
end
mutual
theorem zc(ρ:Nat→Nat):∀ x:I,(x.aN ρ).aQ=x.aQ
 | .agg fs=>by simp only[I.aN,I.aQ,cR.ep.injEq];exact OT ρ fs
 | .undef | .du | .bool _ | .int _ _ | .c7 _ | .nilp | .dw | .ea | .raw _ | .nils _ | .c0 _ | .slice _ _ | .tuple _ | .ref _ | .func _ _ | .iface _ _ | .ptr _ _ | .own _ _ | .view _ _ _ _ _ | .mref _ | .dC _ | .cX _ _=>by simp only[I.aN,I.aQ]
theorem OT(ρ:Nat→Nat):∀ xs:List I,I.cS (I.cQ ρ xs)=I.cS xs
 | []=>rfl
 |x::xs=>by simp only[I.cQ,I.cS,zc ρ x,OT ρ xs]
end
theorem amb(ρ:Nat→Nat)(x:I):(x.aN ρ).isAgg=x.isAgg:=by cases x <;>simp[I.aN,I.isAgg]
theorem o9(ρ:Nat→Nat)(xs:List I):I.cQ ρ xs=xs.map (I.aN ρ):=by
 induction xs with
 |nil=>rfl
 |cons x xs ih=>simp[I.cQ,ih]
theorem rZ(ρ:Nat→Nat)(xs:List I):(I.cQ ρ xs).length=xs.length:=by rw[o9];simp
theorem OP(ρ:Nat→Nat)(x:I)(v:Value)(cs:List Value):bL (x.aN ρ) v cs=bL x v cs:=by simp only[bL,amb]
mutual
/-- A value,its names put for others that stand for the same. -/
theorem af.aN{w:World}{D:aR}{E E':aZ}{p:Nat→Bool}{ρ:Nat→Nat}(aw:∀ n,p n=true→E' (ρ n)=E n):∀ (x:I) (cs:List Value),x.only p=true→(af w D E' (x.aN ρ) cs↔af w D E x cs)
 | .agg fs,cs,ho=>by simp only[af,I.aN,I.only] at *;exact aI.aN aw fs cs ho
 | .bool b,cs,_ | .int k n,cs,_ | .c7 s,cs,_ | .nilp,cs,_ | .dw,cs,_ | .ea,cs,_ | .raw _,cs,_ | .nils _,cs,_ | .c0 _,cs,_ | .undef,cs,_ | .du,cs,_ | .tuple _,cs,_=>by simp only[af,I.aN]
 | .slice sz es,cs,ho=>by
  simp only[af,I.aN,I.only,rZ] at *;have e1:(I.cQ ρ es=[])↔es=[]:=by rw[←zv1,rZ,zv1]
  have e2:(∀ e∈I.cQ ρ es,e.size=sz)↔∀ e∈es,e.size=sz:=by
   rw[o9];constructor
   ·intro h e he;rw[←rY ρ e];exact h _ (zx9.2 ⟨e,he,rfl⟩)
   ·intro h e he;obtain ⟨e',he',rfl⟩:=zx9.1 he;rw[rY];exact h _ he'
  simp only[e1,e2];constructor
  ·rintro ⟨a,cap,h1,h2,h3,h4,h5⟩;refine ⟨a,cap,h1,h2,h3,?_,h5⟩;rcases h4 with h4 | ⟨b,off,cs',h6,h7,h8⟩
   ·exact .inl h4
   ·exact .inr ⟨b,off,cs',h6,h7,(aI.aN aw es cs' ho).1 h8⟩
  ·rintro ⟨a,cap,h1,h2,h3,h4,h5⟩;refine ⟨a,cap,h1,h2,h3,?_,h5⟩;rcases h4 with h4 | ⟨b,off,cs',h6,h7,h8⟩
   ·exact .inl h4
   ·exact .inr ⟨b,off,cs',h6,h7,(aI.aN aw es cs' ho).2 h8⟩
 | .ref x,cs,ho=>by
  simp only[af,I.aN,I.only] at *;constructor
  ·rintro ⟨b,off,cs',h1,h2,h3⟩;exact ⟨b,off,cs',h1,h2,(af.aN aw x cs' ho).1 h3⟩
  ·rintro ⟨b,off,cs',h1,h2,h3⟩;exact ⟨b,off,cs',h1,h2,(af.aN aw x cs' ho).2 h3⟩
 | .func f caps,cs,ho=>by
  simp only[af,I.aN,I.only] at *;constructor
  ·rintro ⟨vs,h1,h2⟩;exact ⟨vs,h1,(aH.aN aw caps vs ho).1 h2⟩
  ·rintro ⟨vs,h1,h2⟩;exact ⟨vs,h1,(aH.aN aw caps vs ho).2 h2⟩
 | .iface t v,cs,ho=>by
  simp only[af,I.aN,I.only,OP] at *;constructor
  ·rintro ⟨u,cs',h1,h2,h3⟩;exact ⟨u,cs',h1,h2,(af.aN aw v cs' ho).1 h3⟩
  ·rintro ⟨u,cs',h1,h2,h3⟩;exact ⟨u,cs',h1,h2,(af.aN aw v cs' ho).2 h3⟩
 | .ptr n p,cs,ho=>by simp only[af,I.aN,I.only] at *;rw[aw n ho]
 | .own n k,cs,ho=>by simp only[af,I.aN,I.only] at *;rw[aw n ho]
 | .view n p _ _ _,cs,ho=>by simp only[af,I.aN,I.only] at *;rw[aw n ho]
 | .mref n,cs,ho=>by simp only[af,I.aN,I.only] at *;rw[aw n ho]
 | .dC n,cs,ho=>by simp only[af,I.aN,I.only] at *;rw[aw n ho]
 | .cX ks vs,cs,ho=>by
  simp only[af,I.aN,I.only,zz2] at *;constructor
  ·rintro ⟨b,es,ck,h1,h2,h3,h4⟩;exact ⟨b,es,ck,h1,h2,(aH.aN aw ks _ ho.1).1 h3,(aH.aN aw vs _ ho.2).1 h4⟩
  ·rintro ⟨b,es,ck,h1,h2,h3,h4⟩;exact ⟨b,es,ck,h1,h2,(aH.aN aw ks _ ho.1).2 h3,(aH.aN aw vs _ ho.2).2 h4⟩
theorem aI.aN{w:World}{D:aR}{E E':aZ}{p:Nat→Bool}{ρ:Nat→Nat}(aw:∀ n,p n=true→E' (ρ n)=E n):∀ (xs:List I) (cs:List Value),I.bT p xs=true→(aI w D E' (I.cQ ρ xs) cs↔aI w D E xs cs)
 | [],cs,_=>by simp only[aI,I.cQ]
 |x::xs,cs,ho=>by
  simp only[aI,I.cQ,I.bT,zz2] at *;constructor
  ·rintro ⟨c1,c2,h1,h2,h3⟩;exact ⟨c1,c2,h1,(af.aN aw x c1 ho.1).1 h2,(aI.aN aw xs c2 ho.2).1 h3⟩
  ·rintro ⟨c1,c2,h1,h2,h3⟩;exact ⟨c1,c2,h1,(af.aN aw x c1 ho.1).2 h2,(aI.aN aw xs c2 ho.2).2 h3⟩
theorem aH.aN{w:World}{D:aR}{E E':aZ}{p:Nat→Bool}{ρ:Nat→Nat}(aw:∀ n,p n=true→E' (ρ n)=E n):∀ (xs:List I) (vs:List Value),I.bT p xs=true→(aH w D E' (I.cQ ρ xs) vs↔aH w D E xs vs)
 | [],vs,_=>by simp only[aH,I.cQ]
 |x::xs,vs,ho=>by
  simp only[aH,I.cQ,I.bT,zz2,OP] at *;constructor
  ·rintro ⟨v,rest,cs,h1,h2,h3,h4⟩;exact ⟨v,rest,cs,h1,h2,(af.aN aw x cs ho.1).1 h3,(aH.aN aw xs rest ho.2).1 h4⟩
  ·rintro ⟨v,rest,cs,h1,h2,h3,h4⟩;exact ⟨v,rest,cs,h1,h2,(af.aN aw x cs ho.1).2 h3,(aH.aN aw xs rest ho.2).2 h4⟩
end
theorem aY.aN{w:World}{D:aR}{E E':aZ}{p:Nat→Bool}{ρ:Nat→Nat}(aw:∀ n,p n=true→E' (ρ n)=E n){x:I}{v:Value}(ho:x.only p=true):aY w D E' (x.aN ρ) v↔aY w D E x v:=by
 cases x <;>first
  |(simp only[aY,I.aN];done)
  |(simp only[aY,I.aN,I.only] at ho ⊢
    constructor
    ·rintro ⟨vs,h1,h2⟩;exact ⟨vs,h1,(aH.aN aw _ _ ho).1 h2⟩
    ·rintro ⟨vs,h1,h2⟩;exact ⟨vs,h1,(aH.aN aw _ _ ho).2 h2⟩)
  |(have key:=fun x cs=>af.aN (w:=w) (D:=D) aw x cs
    refine exists_congr fun cs=>and_congr ?_ ?_
    ·first | exact Iff.rfl | simp only[bL,I.aN,I.isAgg]
    ·first | exact key _ cs ho | (have h:=key _ cs ho;simpa only[I.aN] using h))
mutual
/-- Values that read no memory: but they may name objects. -/
def I.c6:I→Bool
 | .agg fs | .tuple fs=>I.jq fs
 | .func _ caps=>I.jq caps
 | .iface _ v=>v.c6
 | .slice _ es=>es.isEmpty
 | .ref _ | .cX _ _=>false
 |_=>true
def I.jq:List I→Bool
 | []=>true
 |x::xs=>x.c6&&I.jq xs
end
def ah.c6:ah→Bool
 | .box x=>x.c6
 | .bY _ _ es=>I.jq es
 | .cT _ _=>true
 | .dU _=>true
 | .cB ks vs=>I.jq ks&&I.jq vs
 | .it .. =>false
mutual
theorem af.c6{w w':World}{D D':aR}{E:aZ} : ∀ (x:I) (cs:List Value),x.c6=true→af w D E x cs→af w' D' E x cs
 | .agg fs,cs,hf,hr=>by simp only[af,I.c6] at *;exact aI.c6 fs cs hf hr
 | .bool b,cs,_,hr | .int k n,cs,_,hr | .c7 s,cs,_,hr | .nilp,cs,_,hr | .dw,cs,_,hr | .ea,cs,_,hr | .raw _,cs,_,hr | .nils _,cs,_,hr | .c0 _,cs,_,hr
 | .ptr _ _,cs,_,hr | .own _ _,cs,_,hr | .view _ _ _ _ _,cs,_,hr | .mref _,cs,_,hr | .dC _,cs,_,hr=>by simpa only[af] using hr
 | .func f caps,cs,hf,hr=>by
  simp only[af,I.c6] at *;obtain ⟨vs,h1,h2⟩:=hr;exact ⟨vs,h1,aH.c6 caps vs hf h2⟩
 | .iface t v,cs,hf,hr=>by
  simp only[af,I.c6] at *;obtain ⟨u,cs',h1,h2,h3⟩:=hr;exact ⟨u,cs',h1,h2,af.c6 v cs' hf h3⟩
 | .slice sz es,cs,hf,hr=>by
  simp only[af,I.c6,List.isEmpty_iff] at *;subst hf;obtain ⟨a,cap,h1,h2,h3,_,h5⟩:=hr;exact ⟨a,cap,h1,h2,h3,.inl rfl,h5⟩
 | .ref _,_,hf,_ | .cX _ _,_,hf,_=>by simp[I.c6] at hf
 | .undef,_,_,hr | .du,_,_,hr | .tuple _,_,_,hr=>by simp only[af] at hr
theorem aI.c6{w w':World}{D D':aR}{E:aZ} : ∀ (xs:List I) (cs:List Value),I.jq xs=true→aI w D E xs cs→aI w' D' E xs cs
 | [],cs,_,hr=>by simpa only[aI] using hr
 |x::xs,cs,hf,hr=>by
  simp only[aI,I.jq,zz2] at *;obtain ⟨c1,c2,h1,h2,h3⟩:=hr;exact ⟨c1,c2,h1,af.c6 x c1 hf.1 h2,aI.c6 xs c2 hf.2 h3⟩
theorem aH.c6{w w':World}{D D':aR}{E:aZ} : ∀ (xs:List I) (vs:List Value),I.jq xs=true→aH w D E xs vs→aH w' D' E xs vs
 | [],vs,_,hr=>by simpa only[aH] using hr
 |x::xs,vs,hf,hr=>by
  simp only[aH,I.jq,zz2] at *;obtain ⟨v,rest,cs,h1,h2,h3,h4⟩:=hr;exact ⟨v,rest,cs,h1,h2,af.c6 x cs hf.1 h3,aH.c6 xs rest hf.2 h4⟩
end
theorem aY.c6{w w':World}{D D':aR}{E:aZ}{x:I}{v:Value}(hf:x.c6=true)(hr:aY w D E x v):aY w' D' E x v:=by
 cases x <;>simp only[aY] at * <;>first
  |exact hr
  |(obtain ⟨vs,h1,h2⟩:=hr;exact ⟨vs,h1,aH.c6 _ _ (by simpa[I.c6] using hf) h2⟩)
  |(obtain ⟨cs,h1,h2⟩:=hr;exact ⟨cs,h1,af.c6 _ _ hf h2⟩)
def dI(ρ:List (Nat×Nat))(os:List (Nat×ah)):List (Nat×ah):=os.map fun q=>(bA ρ q.1,q.2.aN (bA ρ))
def pre(ρ:List (Nat×Nat))(os:List (Nat×ah))(n:Nat):Option Nat:=(os.find? fun q=>bA ρ q.1==n).map (·.1)
theorem xU{os:List (Nat×ah)}{m:Nat} : al os m=true↔∃ q∈os,q.1=m:=by
 induction os with
 |nil=>simp[al,aj]
 |cons q os ih =>
  obtain ⟨k,v⟩:=q;simp only[al,aj] at *;by_cases h:m=k
  ·subst h;simp
  ·simp only[if_neg h,ih,zx6,Prod.exists,exists_and_right,exists_eq_right];constructor
   ·rintro ⟨a,b⟩;exact ⟨a,.inr b⟩
   ·rintro ⟨a,b | b⟩
    ·cases b;exact absurd rfl h
    ·exact ⟨a,b⟩
theorem mn{ρ:List (Nat×Nat)}{os:List (Nat×ah)}{n m:Nat}(h:pre ρ os n=some m):al os m=true∧bA ρ m=n:=by
 simp only[pre,zz1] at h;obtain ⟨q,hq,rfl⟩:=h;exact ⟨xU.2 ⟨q,List.mem_of_find?_eq_some hq,rfl⟩,by simpa using List.find?_some hq⟩
theorem yU{ρ:List (Nat×Nat)}{os:List (Nat×ah)}{n m:Nat}(h:pre ρ os n=none)(hm:al os m=true):bA ρ m≠n:=by
 simp only[pre,Option.map_eq_none_iff,List.find?_eq_none] at h;obtain ⟨q,hq,rfl⟩:=xU.1 hm;simpa using h q hq
theorem rG(ρ:List (Nat×Nat))(os os0:List (Nat×ah))(n:Nat):aj (dI ρ os++os0) n=match pre ρ os n with
  |some m=>(aj os m).map (ah.aN (bA ρ))
  |none=>aj os0 n:=by
 induction os with
 |nil=>simp[dI,pre]
 |cons q os ih =>
  obtain ⟨k,v⟩:=q;simp only[dI,zz8,zy0,aj,pre,List.find?_cons] at *;by_cases h:bA ρ k=n
  ·subst h;simp
  ·rw[if_neg (Ne.symm h)];have hb:(bA ρ k==n)=false:=by simpa using h
   rw[hb,ih];simp only;cases hf:os.find? (fun q=>bA ρ q.1==n) with
   |none=>rfl
   |some q =>
    simp only[zy5];have hq:=List.find?_some hf;have hne:q.1≠k:=fun e=>h (by rw[←e];simpa using hq);rw[if_neg hne]
def aw(ρ:List (Nat×Nat))(os:List (Nat×ah))(E:aZ):aZ:=fun n=>if al os n then E (bA ρ n) else none
structure fT (ρ:List (Nat×Nat)) (os os0:List (Nat×ah)):Prop where
 bF:∀ m x,aj os m=some x→aj os0 (bA ρ m)=some (x.aN (bA ρ))∧x.only (al os)=true∧x.eX=true
 inj:∀ m m',al os m=true→al os m'=true→bA ρ m=bA ρ m'→m=m'
structure eh (aA:Bool) (ρ:List (Nat×Nat)) (os os0:List (Nat×ah)) (r:I) (os':List (Nat×ah)):Prop where
 bF:∀ m x,aj os' m=some x→x.only (al os')=true∧x.eX=true∧(aA=true→x.c6=true)
 inj:∀ m m',al os' m=true→al os' m'=true→bA ρ m=bA ρ m'→m=m'
 old:∀ m,al os m=true→al os' m=true
 qd:∀ m,al os' m=true→al os m=false→aj os0 (bA ρ m)=none∧bA ρ m<1000000
 zd:r.only (al os')=true∧(aA=true→r.c6=true)
section
variable {c:cU} {a:Act} {w:World} {D:aR} {E:aZ} {ts:List (Nat×I)} {os0 os:List (Nat×ah)} {ρ:List (Nat×Nat)}
theorem aX.given(hs:aX c (au ts os0) a w D E)(hg:fT ρ os os0){m:Nat}(hm:al os m=true):∃ x e,aj os m=some x∧aw ρ os E m=some e∧E (bA ρ m)=some e∧dc (fun _=>True) w D (aw ρ os E) m (some x) ∧
  ∀ b,e.aF=some b→c.fq b∧(∃ o,w.heap[b]?=some o∧yw o=true)∧b<w.heap.size∧(e.eX=true→∀ o,¬ D b o):=by
 cases hx:aj os m with
 |none=>simp[al,hx] at hm
 |some x =>
  obtain ⟨h1,h2,h3⟩:=hg.bF m x hx;have ho:=hs.bS (bA ρ m);simp only[au] at ho;rw[h1] at ho;have hEm:aw ρ os E m=E (bA ρ m):=by simp only[aw,hm,if_true]
  have hin:∀ n,al os n=true→E (bA ρ n)=aw ρ os E n:=fun n hn=>by simp only[aw,hn,if_true]
  cases x with
  |bY T sz es =>
   obtain ⟨aF,k1,k2,k3⟩:=ho;rw[rZ] at k1;have h2':I.bT (al os) es=true:=h2;have k2':∀ e∈es,e.size=sz:=fun e he=>by rw[←rY (bA ρ) e];exact k2 _ (by rw[o9];exact zx9.2 ⟨e,he,rfl⟩)
   refine ⟨_,_,rfl,hEm.trans k1,k1,⟨aF,hEm.trans k1,k2',?_⟩,fun b hb =>?_⟩
   ·cases aF with
    |none=>simp only[o9,List.map_eq_nil_iff] at k3;exact k3
    |some bc =>
     obtain ⟨b,cap⟩:=bc;obtain ⟨cs,pr,rest,q1,q2,q3,q4,q5,q6,q7,q8⟩:=k3;rw[rZ] at q6;exact ⟨cs,pr,rest,trivial,q2,q3,(aI.aN (p:=al os) hin es _ h2').1 q4,q5,q6,q7,q8⟩
   ·cases aF with
    |none=>cases hb
    |some bc =>
     obtain ⟨b',cap⟩:=bc;cases hb;obtain ⟨cs,pr,rest,q1,q2,_⟩:=k3;exact ⟨q1,⟨_,q2,rfl⟩,gj q2,fun h=>by cases h⟩
  |box y =>
   obtain ⟨b,cs,T,k1,k2,k3,k4,k5⟩:=ho;rw[zc] at k1;refine ⟨_,_,rfl,hEm.trans k1,k1,⟨b,cs,T,hEm.trans k1,trivial,k3,?_,k5⟩,fun b' hb =>?_⟩
   ·exact (af.aN (p:=al os) hin y _ (by simpa[ah.only] using h2)).1 k4
   ·cases hb;exact ⟨k2,⟨_,k3,rfl⟩,gj k3,fun _=>k5⟩
  |dU o =>
   obtain ⟨b,k1,k2,k3,k4,k5⟩:=ho;exact ⟨_,_,rfl,hEm.trans k1,k1,⟨b,hEm.trans k1,trivial,k3,k4,k5⟩,fun b' hb=>by cases hb;exact ⟨k2,⟨_,k3,akm k4⟩,gj k3,fun _=>k5⟩⟩
  |cB ks vs =>
   obtain ⟨b,es,ck,k1,k2,k3,k4,k5,k6,k7⟩:=ho;simp only[ah.only,zz2] at h2;exact ⟨_,_,rfl,hEm.trans k1,k1,⟨b,es,ck,hEm.trans k1,trivial,k3,k4,(aH.aN (p:=al os) hin ks _ h2.1).1 k5,(aH.aN (p:=al os) hin vs _ h2.2).1 k6,k7⟩,
    fun b' hb=>by cases hb;exact ⟨k2,⟨_,k3,rfl⟩,gj k3,fun _=>k7⟩⟩
  |it ks vs left cur=>cases h3
  |cT T xs =>
   obtain ⟨aF,k1,k2,k3⟩:=ho;refine ⟨_,_,rfl,hEm.trans k1,k1,⟨aF,hEm.trans k1,k2,?_⟩,fun b hb =>?_⟩
   ·cases aF with
    |none=>exact k3
    |some bc =>
     obtain ⟨b,cap⟩:=bc;obtain ⟨cs,r,q1,q2⟩:=k3;exact ⟨cs,r,trivial,q2⟩
   ·cases aF with
    |none=>cases hb
    |some bc =>
     obtain ⟨b',cap⟩:=bc;cases hb;obtain ⟨cs,r,q1,q2,_⟩:=k3;exact ⟨q1,⟨_,q2,rfl⟩,gj q2,fun h=>by cases h⟩
theorem aX.tr(hs:aX c (au ts os0) a w D E)(hg:fT ρ os os0){b:Nat}(hb:dD (aw ρ os E) b):∃ m e,al os m=true∧E (bA ρ m)=some e∧e.aF=some b∧c.fq b∧(∃ o,w.heap[b]?=some o∧yw o=true)∧b<w.heap.size:=by
 obtain ⟨m,e,h1,h2⟩:=hb;by_cases hm:al os m=true
 ·obtain ⟨x,e',k1,k2,k3,k4,k5⟩:=hs.given hg hm;rw[k2,u8] at h1;subst h1;obtain ⟨q1,q2,q3,_⟩:=k5 b h2;exact ⟨m,_,hm,k3,h2,q1,q2,q3⟩
 ·simp[aw,hm] at h1
theorem aX.KO(hs:aX c (au ts os0) a w D E)(hg:fT ρ os os0){D1:aR}(hD:∀ b o,D b o→D1 b o)(hown:∀ b o,D1 b o→dD (aw ρ os E) b→D b o):lE (fun _=>True) w D1 (aw ρ os E) (aj os):=by
 refine ⟨fun n =>?_,fun n m e e' b h1 h2 h3 h4 =>?_⟩
 ·cases hx:aj os n with
  |none=>simp[dc,aw,al,hx]
  |some x =>
   have hm:al os n=true:=by simp[al,hx]
   obtain ⟨y,e,k1,k2,k3,k4,k5⟩:=hs.given hg hm;rw[hx,u8] at k1;subst k1;refine k4.bN (E':=aw ρ os E) ⟨hD,fun _ _ _ _ h=>h,fun _ _ _ h=>h,fun _ aF l h=>⟨aF,l,h,zz7 _,fun _=>rfl⟩,fun _ _ h=>h,fun _ _ h=>h,fun _ _ _ _ h=>h⟩ rfl fun e' b' he hb'=>⟨rfl,fun o ho =>?_⟩
   exact hown b' o ho ⟨n,e',he,hb'⟩
 ·have hn:al os n=true:=by
   by_cases h:al os n=true;· exact h
   ·simp[aw,h] at h1
  have hm:al os m=true:=by
    by_cases h:al os m=true;· exact h
    ·simp[aw,h] at h2
  simp only[aw,hn,hm,if_true] at h1 h2;exact hg.inj n m hn hm (hs.cZ _ _ e e' b h1 h2 h3 h4)
theorem aX.pI(hs:aX c (au ts os0) a w D E)(hg:fT ρ os os0){aA:Bool}{D1:aR}(hD:∀ b o,D b o→D1 b o)(hbx:aA=false→∀ b o,D1 b o→D b o){w':World}{D':aR}{E':aZ}{v:Value}{r:I}{os':List (Nat×ah)}
  (hb:eh aA ρ os os0 r os') (hr:aY w' D' E' r v) (hh:lE (fun b=>w.heap.size≤b∨dD (aw ρ os E) b) w' D' E' (aj os')) (hk:fU (fun b=>w.heap.size≤b∨dD (aw ρ os E) b) w w')
  (hlive:∀ b o,D' b o→b<w'.heap.size) (hup:∀ b o,D1 b o→D' b o) (hst:iL w D1 w') (hold:∀ b o,D' b o→b<w.heap.size→¬ dD (aw ρ os E) b→D1 b o) (hbox:∀ n e,aw ρ os E n=some e→al os' n=true→∃ e',E' n=some e'∧e.le e') :
  ∃ D2 E2,aX c (au ts (dI ρ os'++os0)) a w' D2 E2∧aY w' D2 E2 (r.aN (bA ρ)) v∧∀ m e,aw ρ os E m=some e→al os' m=true→∃ e',E2 (bA ρ m)=some e'∧e.le e':=by
 obtain ⟨M1,hM1⟩:∃ M1:Nat→Prop,M1=fun b=>w.heap.size≤b∨dD (aw ρ os E) b:=⟨_,rfl⟩
 rw[←hM1] at hh hk;obtain ⟨D2,hD2⟩:∃ D2:aR,D2=fun b o=>D b o∨(M1 b∧D' b o):=⟨_,rfl⟩
 obtain ⟨E2,hE2⟩:∃ E2:aZ,E2=fun n=>match pre ρ os' n with | some m=>E' m | none=>E n:=⟨_,rfl⟩
 have m8:∀ b,M1 b→c.fq b:=fun b hb'=>by
  rw[hM1] at hb';rcases hb' with h | h
  ·exact .inl (zu1 hs.eb.size h)
  ·obtain ⟨m,e,_,_,_,h3,_⟩:=hs.tr hg h;exact h3
 have upD:∀ b o,D b o→D' b o:=fun b o hd=>hup b o (hD b o hd);have E2m:∀ m,al os' m=true→E2 (bA ρ m)=E' m:=fun m hm=>by
  rw[hE2];simp only;cases hp:pre ρ os' (bA ρ m) with
  |none=>exact absurd rfl (yU hp hm)
  |some m' =>
   obtain ⟨h1,h2⟩:=mn hp;rw[hb.inj m' m h1 hm h2]
 have E2o:∀ n,pre ρ os' n=none→E2 n=E n:=fun n hn=>by rw[hE2];simp only[hn]
 -- a name that has a new meaning: one that was handed over,or one that was free
 have cas:∀ n m,pre ρ os' n=some m→(al os m=true∧∃ e e',E n=some e∧E' m=some e'∧e.le e')∨(al os m=false∧E n=none∧c.dS n=none):=fun n m hp=>by
  obtain ⟨h1,h2⟩:=mn hp;cases hm:al os m with
  |true =>
   obtain ⟨y,e,k1,k2,k3,_⟩:=hs.given hg hm;rw[h2] at k3;obtain ⟨e',q1,q2⟩:=hbox m e k2 h1;exact .inl ⟨rfl,e,e',k3,q1,q2⟩
  |false =>
   obtain ⟨k1,k2⟩:=hb.qd m h1 hm;rw[h2] at k1 k2;have ho:=hs.bS n;simp only[au,k1] at ho;exact .inr ⟨rfl,ho,hs.ku (.inr k2)⟩
 have hl:dX w D E w' D2 E2:=by
  have fX:∀ n e,E n=some e→∃ e',E2 n=some e'∧e.le e':=fun n e he=>by
   cases hp:pre ρ os' n with
   |none=>exact ⟨e,by rw[E2o n hp];exact he,.refl e⟩
   |some m =>
    rw[hE2];simp only[hp];rcases cas n m hp with ⟨_,e1,e2,k1,k2,k3⟩ | ⟨_,k1,_⟩
    ·rw[he] at k1;cases k1;exact ⟨e2,k2,k3⟩
    ·rw[he] at k1;cases k1
  have keepf:∀ n e,E n=some e→e.eX=true→E2 n=some e:=fun n e he hf=>by
   obtain ⟨e',k1,k2⟩:=fX n e he;rw[k1,k2.eq hf]
  refine ⟨fun b o h=>by rw[hD2];exact .inl h,fun b o v' hd hv=>hst.cell b o v' (hD b o hd) hv,fun n b aQ he=>keepf n _ he rfl,fun n aF l he =>?_,fun n b he=>keepf n _ he rfl,fun n b he=>keepf n _ he rfl,fun b es ck hd hm=>hst.jL b es ck (hD b 0 hd) hm⟩;obtain ⟨e',k1,k2⟩:=fX n _ he;rcases k2 with rfl | ⟨_,_,blk',l',e,rfl,k3,k4⟩
  ·exact ⟨aF,l,k1,zz7 _,fun _=>rfl⟩
  ·cases e;exact ⟨blk',l',k1,k3,k4⟩
 -- blocks of names that were not handed over
 have other:∀ n e b,pre ρ os' n=none→E n=some e→e.aF=some b→¬ M1 b:=fun n e b hp he hb' hm=>by
  rw[hM1] at hm;rcases hm with h | h
  ·exact absurd (hs.gh he hb') (by omega)
  ·obtain ⟨m,e',h1,h2,h3,_⟩:=hs.tr hg h;have:=hs.cZ n (bA ρ m) e _ b he h2 hb' h3;exact yU hp (hb.old m h1) this.symm
 have toD2:∀ {x:I} {cs:List Value},(aA=true→x.c6=true)→af w' D' E2 x cs→af w' D2 E2 x cs:=fun {x cs} hx h=>by
  cases hbb:aA with
  |true=>exact af.c6 x cs (hx hbb) h
  |false =>
   refine af.bN (E:=E2) ⟨fun b o hd =>?_,fun _ _ _ _ h=>h,fun _ _ _ h=>h,fun _ aF l h=>⟨aF,l,h,zz7 _,fun _=>rfl⟩,fun _ _ h=>h,fun _ _ h=>h,fun _ _ _ _ h=>h⟩ x cs h;rw[hD2];by_cases hm:M1 b
   ·exact .inr ⟨hm,hd⟩
   ·rw[hM1] at hm;exact .inl (hbx hbb b o (hold b o hd (Nat.lt_of_not_le fun h=>hm (.inl h)) fun h=>hm (.inr h)))
 have toD2c:∀ {xs:List I} {cs:List Value},I.bT (al os') xs=true→(aA=true→I.jq xs=true)→aI w' D' E' xs cs→aI w' D2 E2 (I.cQ (bA ρ) xs) cs:=fun {xs cs} ho hx h=>by
  cases hbb:aA with
  |true=>exact (aI.aN (w:=w') (D:=D2) (p:=al os') (ρ:=bA ρ) (E:=E') (E':=E2) (fun n hn=>E2m n hn) xs cs ho).2 (aI.c6 xs cs (hx hbb) h)
  |false =>
   have h2:=(aI.aN (w:=w') (D:=D') (p:=al os') (ρ:=bA ρ) (E:=E') (E':=E2) (fun n hn=>E2m n hn) xs cs ho).2 h;refine aI.bN (E:=E2) ⟨fun b o hd =>?_,fun _ _ _ _ h=>h,fun _ _ _ h=>h,fun _ aF l h=>⟨aF,l,h,zz7 _,fun _=>rfl⟩,fun _ _ h=>h,fun _ _ h=>h,fun _ _ _ _ h=>h⟩ _ cs h2;rw[hD2];by_cases hm:M1 b
   ·exact .inr ⟨hm,hd⟩
   ·rw[hM1] at hm;exact .inl (hbx hbb b o (hold b o hd (Nat.lt_of_not_le fun h=>hm (.inl h)) fun h=>hm (.inr h)))
 have toD2s:∀ {xs:List I} {cs:List Value},I.bT (al os') xs=true→(aA=true→I.jq xs=true)→aH w' D' E' xs cs→aH w' D2 E2 (I.cQ (bA ρ) xs) cs:=fun {xs cs} ho hx h=>by
  cases hbb:aA with
  |true=>exact (aH.aN (w:=w') (D:=D2) (p:=al os') (ρ:=bA ρ) (E:=E') (E':=E2) (fun n hn=>E2m n hn) xs cs ho).2 (aH.c6 xs cs (hx hbb) h)
  |false =>
   have h2:=(aH.aN (w:=w') (D:=D') (p:=al os') (ρ:=bA ρ) (E:=E') (E':=E2) (fun n hn=>E2m n hn) xs cs ho).2 h;refine aH.bN (E:=E2) ⟨fun b o hd =>?_,fun _ _ _ _ h=>h,fun _ _ _ h=>h,fun _ aF l h=>⟨aF,l,h,zz7 _,fun _=>rfl⟩,fun _ _ h=>h,fun _ _ h=>h,fun _ _ _ _ h=>h⟩ _ cs h2;rw[hD2];by_cases hm:M1 b
   ·exact .inr ⟨hm,hd⟩
   ·rw[hM1] at hm;exact .inl (hbx hbb b o (hold b o hd (Nat.lt_of_not_le fun h=>hm (.inl h)) fun h=>hm (.inr h)))
 refine ⟨D2,E2,⟨hs.sz,hs.e8.mono fun B _ hB =>?_,fun t=>aY.bN hl (hs.eA t),hs.eb.trans ⟨hk.os,hk.tape,hk.output,hk.size,fun k hk'=>hk.block k fun h=>hk' (m8 k h)⟩,fun b o hd hm =>?_,fun b o hd =>?_,fun n =>?_,?_,fun n e hn =>?_,hs.fj,
  fun b o hd=>hl.df b o (hs.cM b o hd),hs.fp,hs.lA hl⟩,?_,fun m e k1 k3=>by rw[E2m m k3];exact hbox m e k1 k3⟩
 ·refine (hk.block B fun hm =>?_).trans hB;rw[hM1] at hm;rcases hm with h | h
  ·exact absurd (zw2.1 hB).1 (by omega)
  ·obtain ⟨m,e,_,_,_,_,⟨o,h4,h5⟩,_⟩:=hs.tr hg h;rw[hB] at h4;cases h4;cases h5
 ·rw[hD2] at hd;rcases hd with hd | ⟨h1,_⟩
  ·exact hs.df b o hd hm
  ·exact absurd (m8 b h1) hm
 ·rw[hD2] at hd;rcases hd with hd | ⟨_,h1⟩
  ·exact Nat.lt_of_lt_of_le (hs.dv b o hd) hk.size
  ·exact hlive b o h1
 ·simp only[au,rG];cases hp:pre ρ os' n with
  |none =>
   simp only;refine (hs.bS n).bN hl (E2o n hp) fun e b he hb'=>⟨hk.block b (other n e b hp he hb'),fun o ho =>?_⟩
   rw[hD2] at ho;rcases ho with ho | ⟨h1,_⟩
   ·exact ho
   ·exact absurd h1 (other n e b hp he hb')
  |some m =>
   simp only;obtain ⟨h1,h2⟩:=mn hp;cases hx:aj os' m with
   |none=>simp[al,hx] at h1
   |some x =>
    obtain ⟨k1,kf,k2⟩:=hb.bF m x hx;have ho:=hh.bS m;rw[hx] at ho;have noD:∀ b,(∀ o,¬ D' b o)→∀ o,¬ D2 b o:=fun b hno o ho=>by
     rw[hD2] at ho;rcases ho with ho | ⟨_,ho⟩
     ·exact hno o (upD b o ho)
     ·exact hno o ho
    cases x with
    |bY T sz es =>
     obtain ⟨aF,q1,q2,q3⟩:=ho;simp only[zy5,ah.aN,dc,rZ];refine ⟨aF,by rw[←h2,E2m m h1];exact q1,fun e he =>?_,?_⟩
     ·rw[o9] at he;obtain ⟨e',he',rfl⟩:=zx9.1 he;rw[rY];exact q2 e' he'
     ·cases aF with
      |none=>simp only at q3 ⊢;rw[q3];rfl
      |some bc =>
       obtain ⟨b,cap⟩:=bc;obtain ⟨cs,pr,rest,g1,g2,g3,g4,g5,g6,g7,g8⟩:=q3;refine ⟨cs,pr,rest,m8 b g1,g2,g3,toD2c (by simpa[ah.only] using k1) (fun h=>by simpa[ah.c6] using k2 h) g4,g5,g6,g7,fun o ho =>?_⟩;rw[hD2] at ho;rcases ho with ho | ⟨_,ho⟩
       ·exact g8 o (upD b o ho)
       ·exact g8 o ho
    |cT T xs =>
     obtain ⟨aF,q1,q2,q3⟩:=ho;simp only[zy5,ah.aN,dc];refine ⟨aF,by rw[←h2,E2m m h1];exact q1,q2,?_⟩;cases aF with
     |none=>exact q3
     |some bc =>
      obtain ⟨b,cap⟩:=bc;obtain ⟨cs,r,g1,g2,g3,g4,g5,g6,g7⟩:=q3;exact ⟨cs,r,m8 b g1,g2,g3,g4,g5,g6,noD b g7⟩
    |dU x =>
     obtain ⟨b,q1,q2,q3,q4,q5⟩:=ho;simp only[zy5,ah.aN,dc];exact ⟨b,by rw[←h2,E2m m h1];exact q1,m8 b q2,q3,q4,noD b q5⟩
    |it ks vs left cur=>cases kf
    |cB ks vs =>
     obtain ⟨b,es,ck,q1,q2,q3,q4,q5,q6,q7⟩:=ho;simp only[zy5,ah.aN,dc];simp only[ah.only,zz2] at k1;simp only[ah.c6,zz2] at k2;exact ⟨b,es,ck,by rw[←h2,E2m m h1];exact q1,m8 b q2,q3,q4,toD2s k1.1 (fun h=>(k2 h).1) q5,toD2s k1.2 (fun h=>(k2 h).2) q6,noD b q7⟩
    |box y =>
     obtain ⟨b,cs,T,q1,q2,q3,q4,q5⟩:=ho;simp only[zy5,ah.aN,dc];refine ⟨b,cs,T,by rw[zc,←h2,E2m m h1];exact q1,m8 b q2,q3,?_,noD b q5⟩;have h3:=(af.aN (w:=w') (D:=D') (p:=al os') (ρ:=bA ρ) (E:=E') (E':=E2) (fun n hn=>E2m n hn) y cs.toList (by simpa[ah.only] using k1)).2 q4;cases hbb:aA with
     |true =>
      have h4:af w' D2 E' y cs.toList:=af.c6 y _ (k2 hbb) q4;exact (af.aN (w:=w') (D:=D2) (p:=al os') (ρ:=bA ρ) (E:=E') (E':=E2) (fun n hn=>E2m n hn) y cs.toList (by simpa[ah.only] using k1)).2 h4
     |false=>exact toD2 (fun h=>by rw[hbb] at h;cases h) h3
 ·intro n m e e' b h1 h2 h3 h4;have blk':∀ n m e,pre ρ os' n=some m→E2 n=some e→e.aF=some b→M1 b∧E' m=some e:=fun n m e hp he hb'=>by
   obtain ⟨k1,k2⟩:=mn hp;rw[←k2,E2m m k1] at he;cases hx:aj os' m with
   |none=>simp[al,hx] at k1
   |some x =>
    obtain ⟨_,kf,_⟩:=hb.bF m x hx;have ho:=hh.bS m;rw[hx] at ho;cases x with
    |bY T sz es =>
     obtain ⟨aF,q1,q2,q3⟩:=ho;rw[q1,u8] at he;subst he;cases aF with
     |none=>cases hb'
     |some bc =>
      obtain ⟨b',cap⟩:=bc;cases hb';obtain ⟨cs,pr,rest,g1,_⟩:=q3;exact ⟨g1,q1⟩
    |it ks vs left cur=>cases kf
    |cT T xs =>
     obtain ⟨aF,q1,q2,q3⟩:=ho;rw[q1,u8] at he;subst he;cases aF with
     |none=>cases hb'
     |some bc =>
      obtain ⟨b',cap⟩:=bc;cases hb';obtain ⟨cs,r,g1,_⟩:=q3;exact ⟨g1,q1⟩
    |cB ks vs =>
     obtain ⟨b',es,ck,q1,q2,_⟩:=ho;rw[q1,u8] at he;subst he;cases hb';exact ⟨q2,q1⟩
    |dU x =>
     obtain ⟨b',q1,q2,_⟩:=ho;rw[q1,u8] at he;subst he;cases hb';exact ⟨q2,q1⟩
    |box y =>
     obtain ⟨b',cs,T,q1,q2,_⟩:=ho;rw[q1,u8] at he;subst he;cases hb';exact ⟨q2,q1⟩
  cases hn:pre ρ os' n with
  |none =>
   have g1:E n=some e:=by rw[←E2o n hn];exact h1
   cases hm:pre ρ os' m with
   |none=>exact hs.cZ n m e e' b g1 (by rw[←E2o m hm];exact h2) h3 h4
   |some m'=>exact absurd (blk' m m' e' hm h2 h4).1 (other n e b hn g1 h3)
  |some n' =>
   have g1:=blk' n n' e hn h1 h3;cases hm:pre ρ os' m with
   |none=>exact absurd g1.1 (other m e' b hm (by rw[←E2o m hm];exact h2) h4)
   |some m' =>
    have g2:=blk' m m' e' hm h2 h4;have:=hh.cZ n' m' e e' b g1.2 g2.2 h3 h4;rw[←(mn hn).2,←(mn hm).2,this]
 ·cases hp:pre ρ os' n with
  |none=>rw[E2o n hp];exact hs.ed n e hn
  |some m =>
   rcases cas n m hp with ⟨_,e1,e2,k1,k2,k3⟩ | ⟨_,_,k1⟩
   ·rcases hs.ed n e hn with h | ⟨e3,h,h'⟩
    ·rw[h] at k1;cases k1
    ·rw[k1,u8] at h;subst h
     right
     rw[hE2];simp only[hp];exact ⟨e2,k2,h'.trans k3⟩
   ·rw[hn] at k1;cases k1
 ·have h3:=(aY.aN (w:=w') (p:=al os') (ρ:=bA ρ) (E:=E') (E':=E2) (D:=D') (fun n hn=>E2m n hn) (v:=v) hb.zd.1).2 hr;cases hbb:aA with
  |true=>exact (aY.aN (w:=w') (p:=al os') (ρ:=bA ρ) (E:=E') (E':=E2) (D:=D2) (fun n hn=>E2m n hn) (v:=v) hb.zd.1).2 (aY.c6 (hb.zd.2 hbb) hr)
  |false =>
   refine aY.bN (E:=E2) ⟨fun b o hd =>?_,fun _ _ _ _ h=>h,fun _ _ _ h=>h,fun _ aF l h=>⟨aF,l,h,zz7 _,fun _=>rfl⟩,fun _ _ h=>h,fun _ _ h=>h,fun _ _ _ _ h=>h⟩ h3;rw[hD2];by_cases hm:M1 b
   ·exact .inr ⟨hm,hd⟩
   ·rw[hM1] at hm;exact .inl (hbx hbb b o (hold b o hd (Nat.lt_of_not_le fun h=>hm (.inl h)) fun h=>hm (.inr h)))
end
theorem uW(z:Array Value):∀ n:Nat,(Builtin.zeroCells z n).toList=(List.replicate n z.toList).flatten
 |0=>by simp[Builtin.zeroCells]
 |n+1=>by
  rw[List.replicate_succ,List.flatten_cons,←uW z n];apply List.ext_getElem?;intro i;by_cases hz:z.size=0
  ·have hz':z = #[]:=Array.eq_empty_of_size_eq_zero hz;subst hz';simp[Builtin.zeroCells]
  have hpos:0<z.size:=Nat.pos_of_ne_zero hz;by_cases hi:i<z.toList.length
  ·rw[zy8 hi];have hi':i<z.size:=by simpa using hi
   have h1:i<(n+1)*z.size:=by rw[Nat.succ_mul];omega
   simp only[Builtin.zeroCells,Array.toList_map,Array.toList_range,zw6,List.getElem?_range h1,zy5,Nat.mod_eq_of_lt hi'];simp[hi']
  ·rw[zw0 (by omega)];have hi':z.size≤i:=by simpa using hi
   simp only[Builtin.zeroCells,Array.toList_map,Array.toList_range,zw6,zv0];by_cases h2:i<(n+1)*z.size
   ·have h3:i-z.size<n*z.size:=by rw[Nat.succ_mul] at h2;omega
    rw[List.getElem?_range h2,List.getElem?_range h3];simp only[zy5];rw[←Nat.mod_eq_sub_mod hi']
   ·have h3:¬ i-z.size<n*z.size:=by rw[Nat.succ_mul] at h2;omega
    rw[List.getElem?_eq_none (by simpa using h2),List.getElem?_eq_none (by simpa using h3)]
theorem rU{w:World}{D:aR}{E:aZ}{z:I}{cs:List Value}(h:af w D E z cs):∀ n:Nat,aI w D E (List.replicate n z) (List.replicate n cs).flatten
 |0=>by simp[aI]
 |n+1=>by
  simp only[List.replicate_succ,List.flatten_cons,aI];exact ⟨cs,_,rfl,h,rU h n⟩
def eI(A:ae)(sz:Nat):I→Option (List I)
 | .slice z es=>if z=sz then some es else none
 | .nils _=>some []
 | .c0 _=>some []
 | .own n l=>match A.o n with
  |some (.bY _ z es)=>if l=es.length∧z=sz then some es else none
  |_=>none
 | .view n p z lo k=>match cD A (.ptr n p) with
  |some (.agg fs)=>if lo+k≤fs.length∧z=sz then some ((fs.drop lo).take k) else none
  |_=>none
 |_=>none
section
variable {c:cU} {A:ae} {a:Act} {w:World} {D:aR} {E:aZ}
theorem aX.view(h:aX c A a w D E){n:Nat}{p:List Nat}{sz lo k:Nat}{v:Value}{fs:List I}(hv:aY w D E (.view n p sz lo k) v)(hx:cD A (.ptr n p)=some (.agg fs)) :
  ∃ y b cs T off c1 c2 c3,A.o n=some (.box y)∧E n=some (.aA b y.aQ)∧w.heap[b]?=some (.cells cs T (0,0))∧y.at p=some (.agg fs)∧y.aQ.off p=some off∧cs.toList=c1++c2++c3∧c1.length=off∧aI w D E fs c2 ∧
   af w D E y cs.toList∧(∀ f∈fs,f.size=sz)∧lo+k≤fs.length∧fs.length≤maxLen∧v=.slice (some ⟨b,off+lo*sz,none⟩) k (fs.length-lo):=by
 obtain ⟨z,b',cs',T,off',c1,c2,c3,k1,k2,_,k3,k4,k5,k6,k7,k8,k9,_⟩:=h.at hx;obtain ⟨vs,g1,g2⟩:=hv;simp only[af] at g2;obtain ⟨b,aQ,off,l,h1,h2,h3,h4,h5,h6,h7⟩:=g2;rw[k2] at h1;simp only[u8,bW.aA.injEq] at h1;obtain ⟨rfl,rfl⟩:=h1;rw[k5,u8] at h2;subst h2;rw[nv p z _ k4] at h3;simp only[I.aQ,u8,cR.ep.injEq] at h3;subst h3;rw[I.dB,zy2] at h4 h5 h6;refine ⟨z,b',cs',T,off',c1,c2,c3,k1,k2,k3,k4,k5,k6,k7,by simpa only[af] using k8,k9,Pl h7,h6,h5,?_⟩;simpa[bL,I.isAgg,h4] using g1.symm
theorem aX.oo(h:aX c A a w D E){sz:Nat}{x:I}{v:Value}{ys:List I}(hv:aY w D E x v)(hs:eI A sz x=some ys) :
  ∃ ad cp news,v=.slice ad ys.length cp∧ys.length≤cp∧cp≤maxLen∧aI w D E ys news∧(∀ y∈ys,y.size=sz)∧(ys≠[]→∃ b o,ad=some ⟨b,o,none⟩∧∀ j u,news[j]?=some u→w.cell? ⟨b,o+j,none⟩=some u):=by
 cases x <;>simp only[eI] at hs <;>try (cases hs;done)
 case nils z =>
  simp only[u8] at hs;subst hs;obtain ⟨cs,q1,q2⟩:=hv;simp only[af] at q2;exact ⟨none,0,[],by simpa[bL,I.isAgg,q2] using q1.symm,by simp,by simp[maxLen],by simp[aI],by simp,fun h=>absurd rfl h⟩
 case c0 z =>
  simp only[u8] at hs;subst hs;obtain ⟨cs,q1,q2⟩:=hv;simp only[af] at q2;obtain ⟨ad,q2⟩:=q2;exact ⟨ad,0,[],by simpa[bL,I.isAgg,q2] using q1.symm,by simp,by simp[maxLen],by simp[aI],by simp,fun h=>absurd rfl h⟩
 case slice z es =>
  split at hs
  ·rename_i hz;simp only[u8] at hs;subst hs hz;obtain ⟨ad,cap,e1,e2,e3,e4,e5⟩:=oi hv;rcases e4 with rfl | ⟨b,off,cs,rfl,q1,q2⟩
   ·exact ⟨ad,cap,[],e1,e2,e3,by simp[aI],by simp,fun h=>absurd rfl h⟩
   ·exact ⟨_,cap,cs,e1,e2,e3,q2,e5,fun _=>⟨b,off,rfl,fun j u hj=>(q1 j u hj).1⟩⟩
  ·cases hs
 case own n l =>
  split at hs
  ·rename_i T z es hn;split at hs
   ·rename_i hz;obtain ⟨hz1,rfl⟩:=hz;simp only[u8] at hs;subst hs;obtain ⟨aF,k1,k2,k3⟩:=h.bY hn;obtain ⟨cs,q1,q2⟩:=hv;simp only[af] at q2;obtain ⟨blk',l',g1,g2,_,g4⟩:=q2;rw[k1] at g1;simp only[u8,bW.rw.injEq] at g1;obtain ⟨rfl,rfl⟩:=g1
    replace g4:=g4 hz1
    cases aF with
    |none =>
     simp only at k3 g4;subst k3;have hv':v=.slice none 0 0:=by rw[g4] at q1;simpa[bL,I.isAgg] using q1.symm
     exact ⟨none,0,[],hv',by simp,by simp[maxLen],by simp[aI],by simp,fun h=>absurd rfl h⟩
    |some bc =>
     obtain ⟨b,cap⟩:=bc;simp only at g4;obtain ⟨cs',pre,rest,k4,k5,k6,k7,k8,k9,k10,k11⟩:=k3;refine ⟨some ⟨b,0,none⟩,cap,pre,by rw[←hz1];simpa[bL,I.isAgg,g4] using q1.symm,k9,k10,k7,k2,fun _=>⟨b,0,rfl,fun j u hj =>?_⟩⟩;have:=(o5 (D:=fun _ _=>True) (c1:=[]) (c2:=pre) (c3:=rest) k5 (by simpa using k6) (fun _ _=>trivial)) j u hj;simpa using this.1
   ·cases hs
  ·cases hs
 case view n p z lo k =>
  split at hs
  ·rename_i fs hx;split at hs
   ·rename_i hk;obtain ⟨hk,rfl⟩:=hk;simp only[u8] at hs;subst hs;obtain ⟨y,b,cs,T,off,c1,c2,c3,k1,k2,k3,k4,k5,k6,k7,k8,k9,k10,k11,k12,rfl⟩:=h.view hv hx;obtain ⟨d1,d2,d3,rfl,q1,q2,q3⟩:=uw k8 k10 lo k hk;have hlen:((fs.drop lo).take k).length=k:=by rw[zy7,zy9];omega
    refine ⟨some ⟨b,off+lo*z,none⟩,fs.length-lo,d2,by rw[hlen],by rw[hlen];omega,by omega,q2,fun y hy=>k10 y (List.mem_of_mem_drop (List.mem_of_mem_take hy)),fun _=>⟨b,_,rfl,fun j u hj =>?_⟩⟩;have:=(o5 (D:=fun _ _=>True) (c1:=c1++d1) (c2:=d2) (c3:=d3++c3) k3 (by rw[k6];simp) (fun _ _=>trivial)) j u hj;rw[zz3,k7,q1] at this;exact this.1
   ·cases hs
  ·cases hs
theorem aX.jc(h:aX c A a w D E){n:Nat}{p:List Nat}{sz j:Nat}{y:I}{fs ys:List I}{b off:Nat}{cs:Array Value}{T:TypeId}{c1 c2 c3 ds:List Value}(hn:A.o n=some (.box y))(aw:E n=some (.aA b y.aQ))(hb:w.heap[b]?=some (.cells cs T (0,0)))
  (hat:y.at p=some (.agg fs)) (hoff:y.aQ.off p=some off) (hcs:cs.toList=c1++c2++c3) (hc1:c1.length=off) (hfs:aI w D E fs c2) (hy:af w D E y cs.toList) (hsz:∀ f∈fs,f.size=sz) (hys:aI w D E ys ds) (hj:j+ys.length≤fs.length)
  (hsh:I.cS ys=I.cS ((fs.drop j).take ys.length)) (P:Program) :
  ∃ w',(storeCells ⟨b,off+j*sz,none⟩ ds 0).run P w=.ok () w'∧aX c (A.aS n (.box (y.dO p (.agg (fs.take j++(ys++fs.drop (j+ys.length))))))) a w' D E:=by
 obtain ⟨d1,d2,d3,rfl,q1,q2,q3⟩:=uw hfs hsz j ys.length hj;have hd1:aI w D E (fs.take j) d1:=by
  have e1:fs=fs.take j++fs.drop j:=(zx0 j fs).symm;rw[e1] at hfs;obtain ⟨e1,e2,he,k1,k2⟩:=uv _ _ _ hfs;have hl:e1.length=d1.length:=by
   rw[aI.length _ _ k1,I.jd _ (fun x hx=>hsz x (List.mem_of_mem_take hx)),q1,zy7];congr 1;omega
  have:e1=d1:=by
   have:=congrArg (List.take d1.length) he;rw[List.take_left,←hl,List.take_left] at this;exact this.symm
  rw[←this];exact k1
 have hlen:ds.length=d2.length:=by rw[aI.length _ _ hys,aI.length _ _ q2,←I.nw,←I.nw,hsh]
 have hds:af w D E (.agg (fs.take j++(ys++fs.drop (j+ys.length)))) (d1++(ds++d3)):=by
  simp only[af];refine kG _ _ _ _ hd1 (kG _ _ _ _ hys ?_);rw[List.drop_drop] at q3;exact q3
 have hshape:(I.agg (fs.take j++(ys++fs.drop (j+ys.length)))).aQ=(I.agg fs).aQ:=by
  simp only[I.aQ,cR.ep.injEq,I.dB,zx5];rw[←I.dB ys,hsh,I.dB,←zx5,←zx5]
  congr 1
  rw[←List.drop_drop,zx0,zx0]
 obtain ⟨off',g1,g2,g3,g4⟩:=ur p y _ _ _ _ hy hat hds hshape;rw[hoff,u8] at g1;subst g1;have hst:=run_storeCells_at P b (off+j*sz) T ds 0 cs w hb (by
  have:cs.size=cs.toList.length:=by simp
  rw[this,hcs];simp only[zz3];omega) (aI.nd _ _ hys)
 simp only[Nat.add_zero] at hst;refine ⟨_,hst,?_⟩;refine h.Pg hn aw g4 ?_;have e:cs.toList.take (off+j*sz)++ds++cs.toList.drop (off+j*sz+ds.length)=cs.toList.take off++(d1++(ds++d3))++cs.toList.drop (off+(d1++(ds++d3)).length):=by
  rw[hcs];have t1:(c1++(d1++(d2++d3))++c3).take (off+j*sz)=c1++d1:=by
   rw[←hc1,←q1,zz5,List.take_length_add_append,zz5,List.take_left]
  have t2:(c1++(d1++(d2++d3))++c3).drop (off+j*sz+ds.length)=d3++c3:=by
   rw[←hc1,←q1,hlen,zz5,Nat.add_assoc,List.drop_length_add_append,zz5,List.drop_length_add_append,zz5,List.drop_left]
  have t3:(c1++(d1++(d2++d3))++c3).take off=c1:=by rw[←hc1,zz5,List.take_left]
  have t4:(c1++(d1++(d2++d3))++c3).drop (off+(d1++(ds++d3)).length)=c3:=by
   have:(d1++(ds++d3)).length=(d1++(d2++d3)).length:=by simp[hlen]
   rw[this,←hc1,zz5,List.drop_length_add_append,List.drop_left]
  rw[t1,t2,t3,t4];simp
 rw[e];simpa using g3
end
section
variable {c:cU} {A:ae} {o:Oper} {x:I}
theorem nt{P:Program}{w:World}(k:IntKind)(n:Int)(y:Nat)(code:BoundsCode)(g1:0≤n)(g2:n≤y):(Instr.sliceBound (.int k n) y code).run P w=.ok n.toNat w:=by
 simp[Instr.sliceBound,asIntOf,g1,g2]
theorem aiW{t e:TypeId}{y:Operand}{y':aJ}{lo hi mx:Option Operand}{lo' hi' mx':Option aJ}{i:TypeInfo}{fs:List I}{n:Nat}{p:List Nat}{sz l0 k:Nat}(ho:o.op=.slice t y lo hi mx)(hu:c.P.underlying t=some (.slice e))(hi0:c.P.info? e=some i)
  (hy:bK c.P 0 y=some y') (h1:jh c.P lo=some lo') (h2:jh c.P hi=some hi') (h3:jh c.P mx=some mx') (hmh:mx'.isSome=true→hi'.isSome=true) (hsz:sz=c.P.cellsOf e)
  (h:ab A y'=.view n p sz l0 k) (hd:cD A (.ptr n p)=some (.agg fs)) (hx:iA n p sz l0 k fs.length (lo'.map (ab A)) (hi'.map (ab A)) (mx'.map (ab A))=some x):dW c A o x :=
 .same fun a w D E hs=>by
  have opt:∀ {q:Option Operand} {q':Option aJ},jh c.P q=some q'→iY w D E (q'.map (ab A)) (q.map a.eval):=by
   intro q q' hq;cases q with
   |none=>simp only[jh,u8] at hq;subst hq;simp[iY]
   |some z =>
    simp only[jh,zz1] at hq;obtain ⟨z',hz,rfl⟩:=hq;simpa[iY] using ct hs hz
  have h0:=ct hs hy;rw[h] at h0;obtain ⟨yy,b,cs,T,off,c1,c2,c3,k1,k2,k3,k4,k5,k6,k7,k8,k9,k10,k11,k12,hval⟩:=hs.view h0 hd;have hmh':(mx'.map (ab A)).isSome=true→(hi'.map (ab A)).isSome=true:=by simpa using hmh
  unfold iA at hx;split at hx
  ·cases hx
  rename_i hh hbh;split at hx
  ·cases hx
  rename_i ll hbl;have d1:=rO (opt h1) hbl;have d2:=rO (opt h2) hbh;have o3:=opt h3;split at hx
  ·rename_i hmx;split at hx
   case isFalse=>cases hx
   rename_i hb;obtain ⟨b1,b2,b3⟩:=hb;have hvmx:mx.map a.eval=none:=by
    rw[hmx] at o3;cases hq:mx.map a.eval with
    |none=>rfl
    |some v=>rw[hq] at o3;simp[iY] at o3
   have hsb:(Instr.sliceBounds true k (fs.length-l0) (lo.map a.eval) (hi.map a.eval) (mx.map a.eval)).run c.P w=.ok (ll.toNat,hh.toNat,fs.length-l0) w:=by
    rw[hvmx];rcases d2 with ⟨_,g2,hm2⟩ | ⟨_,q2,g2⟩ <;>rcases d1 with ⟨_,g1,hm1⟩ | ⟨_,q1,g1⟩ <;>rw[g1,g2]
    ·subst hm1 hm2;simp[Instr.sliceBounds]
    ·subst hm2;simp[Instr.sliceBounds,nt q1 ll k _ b1 (by omega)]
    ·subst hm1;simp[Instr.sliceBounds,nt q2 hh (fs.length-l0) _ (by omega) (by omega)]
    ·simp[Instr.sliceBounds,nt q2 hh (fs.length-l0) _ (by omega) (by omega),nt q1 ll hh.toNat _ b1 (by omega)]
   have hrun:(Instr.sliceAt t (a.eval y) (lo.map a.eval) (hi.map a.eval) (mx.map a.eval)).run c.P w =
     .ok (.slice (if fs.length-l0=ll.toNat then some ⟨b,off+l0*sz,none⟩ else some ⟨b,off+l0*sz+ll.toNat*c.P.cellsOf e,none⟩) (hh.toNat-ll.toNat) (fs.length-l0-ll.toNat)) w:=by
    rw[hval];simp only[Instr.sliceAt,Instr.slice,Sem.run_bind,run_underlying hu,Result.andThen_ok,hsb,jw hi0,Sem.run_pure,zy5,nB]
   refine ⟨_,by simp only[execOp,ho,Sem.run_bind,hrun];rfl,?_⟩;split at hx
   ·rename_i hl;simp only[u8] at hx;subst hx;have e1:fs.length-l0=ll.toNat:=by omega
    have e2:hh.toNat-ll.toNat=0:=by omega
    rw[if_pos e1,e2,e1,Nat.sub_self];exact ⟨_,by simp[bL,I.isAgg];rfl,by simp only[af];exact ⟨_,rfl⟩⟩
   ·rename_i hl;simp only[u8] at hx;subst hx;rw[if_neg (by omega)];refine ⟨_,by simp[bL,I.isAgg];rfl,?_⟩;simp only[af];refine ⟨b,yy.aQ,off,I.cS fs,k2,k5,nv p yy _ k4,?_,?_,?_,?_⟩
    ·rw[I.dB,zy2,zu4,Nat.add_assoc,hsz,Nat.sub_sub]
    ·rw[I.dB,zy2];exact k12
    ·rw[I.dB,zy2];omega
    ·rw[I.dB];intro s hs';obtain ⟨f,hf,rfl⟩:=zx9.1 hs';rw[I.mA];exact k10 f hf
  ·rename_i kk m hmx;split at hx
   case isFalse=>cases hx
   rename_i hb;obtain ⟨b1,b2,b3,b4⟩:=hb;simp only[u8] at hx;subst hx;obtain ⟨vmx,hvmx,hvm⟩:∃ v,mx.map a.eval=some v∧v=.int kk m:=by
    rw[hmx] at o3;cases hq:mx.map a.eval with
    |none=>rw[hq] at o3;simp[iY] at o3
    |some v=>rw[hq] at o3;simp only[iY] at o3;exact ⟨v,rfl,(fC o3).1⟩
   subst hvm;have hsb:∃ r,(Instr.sliceBounds true k (fs.length-l0) (lo.map a.eval) (hi.map a.eval) (mx.map a.eval)).run c.P w=.ok r w:=by
    rw[hvmx];rcases d2 with ⟨fF,g2,hm2⟩ | ⟨_,q2,g2⟩
    ·rw[hmx,fF] at hmh';simp at hmh'
    ·rcases d1 with ⟨_,g1,hm1⟩ | ⟨_,q1,g1⟩ <;>rw[g1,g2]
     ·exact ⟨_,by simp[Instr.sliceBounds,nt kk m (fs.length-l0) _ (by omega) b4,nt q2 hh m.toNat _ (by omega) (by omega)];rfl⟩
     ·exact ⟨_,by simp[Instr.sliceBounds,nt kk m (fs.length-l0) _ (by omega) b4,nt q2 hh m.toNat _ (by omega) (by omega),nt q1 ll hh.toNat _ b1 (by omega)];rfl⟩
   obtain ⟨⟨r1,dV,od⟩,hsb⟩:=hsb;have hrun:∃ v,(Instr.sliceAt t (a.eval y) (lo.map a.eval) (hi.map a.eval) (mx.map a.eval)).run c.P w=.ok v w:=by
    rw[hval];exact ⟨_,by simp only[Instr.sliceAt,Instr.slice,Sem.run_bind,run_underlying hu,Result.andThen_ok,hsb,jw hi0,Sem.run_pure,zy5];rfl⟩
   obtain ⟨v,hrun⟩:=hrun;exact ⟨v,by simp only[execOp,ho,Sem.run_bind,hrun];rfl,by simp[aY]⟩
  ·cases hx
theorem aiN{t e:TypeId}{y z:Operand}{y' z':aJ}{i:TypeInfo}{fs:List I}{n:Nat}{p:List Nat}{sz lo k:Nat}{kk:IntKind}{j:Int}(ho:o.op=.indexAddr t y z)(hu:c.P.underlying t=some (.slice e))(hi:c.P.info? e=some i)
  (hy:bK c.P 0 y=some y') (hz:bK c.P 0 z=some z') (hsz:sz=c.P.cellsOf e) (h:ab A y'=.view n p sz lo k) (hd:cD A (.ptr n p)=some (.agg fs)) (h':ab A z'=.int kk j) (hj:0≤j∧j<k):dW c A o (.ptr n (p++[lo+j.toNat])) :=
 .same fun a w D E hs=>by
  have h0:=ct hs hy;rw[h] at h0;have h1':=ct hs hz;rw[h'] at h1';obtain ⟨yy,b,cs,T,off,c1,c2,c3,k1,k2,k3,k4,k5,k6,k7,k8,k9,k10,k11,k12,hval⟩:=hs.view h0 hd;refine ⟨.pointer (some ⟨b,off+lo*sz+j.toNat*c.P.cellsOf e,none⟩),by simp only[execOp,ho,hval,(fC h1').1,Sem.run_bind,zl hu hi hj];rfl,?_⟩;refine ⟨_,by simp[bL,I.isAgg];rfl,?_⟩;simp only[af];refine ⟨b,yy.aQ,off+(lo+j.toNat)*sz,k2,?_,by rw[zu4,←Nat.add_assoc,hsz]⟩;have hl:lo+j.toNat<fs.length:=by omega
  rw[cR.tZ p yy.aQ off (lo+j.toNat) _ k5 (nv p yy _ k4) (by rw[I.dB];simpa using hl),I.dB,←List.map_take,←I.dB,I.nw,ph fs _ k10 (by omega)]
theorem xz{ty:TypeId}{y:Operand}{y':aJ}{n:Nat}{e:TypeId}(ho:o.op=.call { callee:=.builtin .cap,args := #[y],argTypes := #[ty] })(hu:c.P.underlying ty=some (.slice e))
  (hy:bK c.P ty y=some y') (h:∀ a w D E,aX c A a w D E→∀ v,aY w D E (ab A y') v→n≤maxLen∧∃ ad l,v=.slice ad l n):dW c A o (.int .i64 n) :=
 .same fun a w D E hs=>by
  obtain ⟨h0,ad,l,hv⟩:=h a w D E hs _ (ct hs hy);exact ⟨.int .i64 n,by simp[execOp,ho,resolve,invoke,builtin,Builtin.cap_,run_underlying hu,hv,goInt],lg (yh h0)⟩
theorem aiA{t e:TypeId}{i:TypeInfo}(ho:o.op=.buildSlice t 0 #[])(hu:c.P.underlying t=some (.slice e))(hi:c.P.info? e=some i):dW c A o (.c0 (c.P.cellsOf e)):=by
 intro a w D E hs;have hs':=hs.newRow (.cells #[] e);refine ⟨.slice (some ⟨w.heap.size,0,none⟩) 0 0,_,_,?_,hs',⟨_,by simp[bL,I.isAgg];rfl,by simp only[af];exact ⟨_,rfl⟩⟩⟩;simp[execOp,ho,Instr.buildSlice,run_underlying hu,jw hi,newRow,Instr.fill,show (Array.range 0) = #[] from rfl]
theorem akk{neg:Bool}{t e:TypeId}{y z:Operand}{y':aJ}{yt:TypeId}{s:Nat}(ho:o.op=.binOp (if neg then .neq else .eql) t y z yt)(hu:c.P.underlying t=some (.slice e))(hy:bK c.P 0 y=some y')(hz:bK c.P 0 z=some (.c (.nils s)))
  (h:∃ sz,ab A y'=.slice sz []∨ab A y'=.c0 sz) {a:Act} {w:World} {D:aR} {E:aZ} (hs:aX c A a w D E):∃ b,(execOp a.eval o).run c.P w=.ok (.value (.bool b)) w:=by
 have h0:=ct hs hy;have h1:aY w D E (.nils s) (a.eval z):=ct hs hz;have hv:∃ ad cp,a.eval y=.slice ad 0 cp:=by
  obtain ⟨sz,h | h⟩:=h <;>rw[h] at h0
  ·obtain ⟨ad,cap,e1,_⟩:=oi h0;exact ⟨ad,cap,by simpa using e1⟩
  ·obtain ⟨cs,q1,q2⟩:=h0;simp only[af] at q2;obtain ⟨ad,q2⟩:=q2;exact ⟨ad,0,by simpa[bL,I.isAgg,q2] using q1.symm⟩
 obtain ⟨ad,cp,hyv⟩:=hv;have hv:a.eval z=.slice none 0 0:=by
  obtain ⟨cs,q1,q2⟩:=h1;simp only[af] at q2;simpa[bL,I.isAgg,q2] using q1.symm
 have he:∀ d,(Op.equalIn (d+1) t (.slice ad 0 cp) (.slice none 0 0)).run c.P w=.ok ad.isNone w:=fun d=>by
  cases ad <;>simp[Op.equalIn,run_underlying hu]
 refine ⟨if neg then !ad.isNone else ad.isNone,?_⟩;cases neg <;>simp only[execOp,ho,hyv,hv,if_true,zz6,if_false,Sem.run_bind,eqGuard] <;>simp[binOp,Op.equal,Op.maxDepth,he]
def jc(y:I)(p:List Nat)(j:Nat)(fs ys:List I):I:=y.dO p (.agg (fs.take j++(ys++fs.drop (j+ys.length))))
theorem ZO{t e:TypeId}{y:Operand}{y':aJ}{z:I}{n:Nat}{p:List Nat}{lo k:Nat}{b:I}{fs:List I}(ho:o.op=.call { callee:=.builtin .clear,args := #[y],argTypes := #[t] })(hu:c.P.underlying t=some (.slice e))(hy:bK c.P t y=some y')
  (hz:gq c.P e=some z) (hv:ab A y'=.view n p (c.P.cellsOf e) lo k) (hn:A.o n=some (.box b)) (hat:b.at p=some (.agg fs)) (hsh:I.cS (List.replicate k z)=I.cS ((fs.drop lo).take k)) (hd:o.dst=none) :
  jf c A o (A.aS n (.box (jc b p lo fs (List.replicate k z)))):=by
 intro a w D E hs;obtain ⟨i,zv,hi,hzv,hzr⟩:=mF hz;have h0:=ct hs hy;rw[hv] at h0;have hx:cD A (.ptr n p)=some (.agg fs):=by simp only[cD,hn,hat]
 obtain ⟨yy,bk,cs,T,off,c1,c2,c3,k1,k2,k3,k4,k5,k6,k7,k8,k9,k10,k11,k12,hval⟩:=hs.view h0 hx;rw[hn] at k1;simp only[u8,ah.box.injEq] at k1;subst k1;have hr:aI w D E (List.replicate k z) (Builtin.zeroCells zv.cells k).toList:=by
  rw[uW];exact rU (hzr w D E) k
 obtain ⟨w',h1,h2⟩:=hs.jc (j:=lo) (ys:=List.replicate k z) hn k2 k3 k4 k5 k6 k7 k8 k9 k10 hr (by simpa using k11) (by simpa using hsh) c.P;cases k with
 |zero =>
  refine ⟨w,.inl ⟨.tuple #[],?_,D,E,?_⟩⟩
  ·simp[execOp,ho,resolve,invoke,builtin,Builtin.clear_,run_underlying hu,hval]
  ·rw[hd];have:jc b p lo fs (List.replicate 0 z)=b.dO p (.agg fs):=by simp[jc]
   have hw:w'=w:=by
    simp[Builtin.zeroCells,storeCells] at h1;exact h1.symm
   rw[hw] at h2;exact h2
 |succ k =>
  refine ⟨w',.inl ⟨.tuple #[],?_,D,E,?_⟩⟩
  ·simp[execOp,ho,resolve,invoke,builtin,Builtin.clear_,run_underlying hu,hval,zeroValue,typeInfo,hi,hzv,h1]
  ·rw[hd];exact h2
theorem ZP{t e:TypeId}{y x:Operand}{y' x':aJ}{n:Nat}{p:List Nat}{lo k m:Nat}{b:I}{fs ys:List I}(ho:o.op=.call { callee:=.builtin .copy,args := #[y,x],argTypes := #[t,t] })(hu:c.P.underlying t=some (.slice e))(hi:(c.P.info? e).isSome=true)
  (hy:bK c.P t y=some y') (hx:bK c.P t x=some x') (hv:ab A y'=.view n p (c.P.cellsOf e) lo k) (hn:A.o n=some (.box b)) (hat:b.at p=some (.agg fs)) (hs:eI A (c.P.cellsOf e) (ab A x')=some ys) (hm:m=min ys.length k)
  (hsh:I.cS (ys.take m)=I.cS ((fs.drop lo).take m)) (hdn:∀ k,o.dst=some k→k<c.n) :
  jf c A o ((A.aS n (.box (jc b p lo fs (ys.take m)))).aP o.dst (.int .i64 m)):=by
 intro a w D E hsim;obtain ⟨i,hi⟩:=zw4.1 hi;have h0:=ct hsim hy;rw[hv] at h0;have hxx:cD A (.ptr n p)=some (.agg fs):=by simp only[cD,hn,hat]
 obtain ⟨yy,bk,cs,T,off,c1,c2,c3,k1,k2,k3,k4,k5,k6,k7,k8,k9,k10,k11,k12,hval⟩:=hsim.view h0 hxx;rw[hn] at k1;simp only[u8,ah.box.injEq] at k1;subst k1;obtain ⟨ad,cp,news,s1,s2,s3,s4,s5,s6⟩:=hsim.oo (ct hsim hx) hs;have hmy:m≤ys.length:=by omega
 have hci:c.P.cellsOf e=i.size:=by simp[Program.cellsOf,hi]
 obtain ⟨d1,d2,d3,e1,e2,e3,e4⟩:=uw s4 s5 0 m (by omega);simp only[Nat.zero_mul,List.drop_zero] at e2 e3;have e2':d1=[]:=List.eq_nil_of_length_eq_zero e2;subst e2';simp only[zy3] at e1;have hlen:(ys.take m).length=m:=by rw[zy7];omega
 have hd2:d2.length=m*i.size:=by rw[aI.length _ _ e3,I.jd (sz:=c.P.cellsOf e) _ (fun y hy=>s5 y (List.mem_of_mem_take hy)),hlen,hci]
 obtain ⟨w',h1,h2⟩:=hsim.jc (j:=lo) (ys:=ys.take m) hn k2 k3 k4 k5 k6 k7 k8 k9 k10 e3 (by rw[hlen];omega) (by rw[hlen];exact hsh) c.P;have hf:(Builtin.firstCells i.size m (.slice ad ys.length cp)).run c.P w=.ok d2.toArray w:=by
  by_cases hm0:m=0
  ·have:d2=[]:=List.eq_nil_of_length_eq_zero (by rw[hd2,hm0];simp);subst this;cases ad with
   |none=>exact run_firstCells_none _ _ _ _ _
   |some ad=>exact run_firstCells_some w i.size m ad ys.length cp [] (by simp[hm0]) (by simp)
  ·obtain ⟨b2,o2,rfl,hr⟩:=s6 (fun h=>by rw[h] at hmy;simp at hmy;omega);refine run_firstCells_some w i.size m _ ys.length cp d2 hd2 fun j v hj =>?_;rw[Addr.add_lit];refine hr j v ?_;rw[e1,zy8 (zy6.1 hj).1];exact hj
 have h63:m≤maxLen:=by omega
 refine ⟨w',.inl ⟨.int .i64 m,?_,D,E,h2.aP hdn (lg (yh h63))⟩⟩;have hmin:Nat.min ys.length k=m:=hm.symm;rw[←hci] at hf;simp only[execOp,ho,resolve,invoke,builtin,Sem.run_bind,Sem.run_pure,Result.andThen_ok,List.map_toArray,zz8,zx1,hval,s1];simp[Builtin.copy_,run_underlying hu,Builtin.lenOf,hmin,jw hi,hf,h1,goInt]
theorem pJ{a:Act}{w:World}{D:aR}{E:aZ}(hs:aX c A a w D E){sz:Nat}{x:I}{v:Value}{es:List I}(hv:aY w D E x v)(he:eI A sz x=some es) :
  ∃ ad cp olds,v=.slice ad es.length cp∧es.length≤cp∧cp≤maxLen∧aI w D E es olds∧(∀ y∈es,y.size=sz)∧∀ (P:Program) (w':World),(∀ p u,w.cell? p=some u→w'.cell? p=some u)→(Builtin.firstCells sz es.length v).run P w'=.ok olds.toArray w':=by
 obtain ⟨ad,cp,news,s1,s2,s3,s4,s5,s6⟩:=hs.oo hv he;refine ⟨ad,cp,news,s1,s2,s3,s4,s5,fun P w' hw =>?_⟩;have hl:news.length=es.length*sz:=by rw[aI.length _ _ s4,I.jd _ s5]
 rw[s1];by_cases h0:es=[]
 ·subst h0;have:news=[]:=List.eq_nil_of_length_eq_zero (by rw[hl];simp);subst this;cases ad with
  |none=>exact run_firstCells_none _ _ _ _ _
  |some ad=>exact run_firstCells_some w' sz _ ad _ cp [] (by simp) (by simp)
 ·obtain ⟨b,o',rfl,hr⟩:=s6 h0;exact run_firstCells_some w' sz _ _ _ cp news hl fun j v hj=>by rw[Addr.add_lit];exact hw _ _ (hr j v hj)
theorem RW{t e:TypeId}{s x:Operand}{s' x':aJ}{es ys:List I}{z:I}{d:Nat}(ho:o.op=.call { callee:=.builtin .append,args := #[s,x],argTypes := #[t,t] })(hu:c.P.underlying t=some (.slice e))(hs':bK c.P t s=some s')(hx':bK c.P t x=some x')
  (hz:gq c.P e=some z) (hzs:z.size=c.P.cellsOf e) (hse:eI A (c.P.cellsOf e) (ab A s')=some es) (hsx:eI A (c.P.cellsOf e) (ab A x')=some ys) (hby:(es.length+ys.length)*c.P.bytesOf e≤140737488355328)
  (hd:o.dst=some d) (hdn:d<c.n) (hf:A.o d=none) (hne:ys≠[]) {a:Act} {w:World} {D:aR} {E:aZ} (hsim:aX c A a w D E) (hfull:∀ ad l cp,a.eval s=.slice ad l cp→cp<l+ys.length) (hml:es.length+ys.length≤maxLen) :
  ∃ v w' m,(execOp a.eval o).run c.P w=.ok (.value v) w'∧es.length+ys.length+m≤maxLen ∧
   cA c ((A.aS d (.box (.agg (es++(ys++List.replicate m z))))).aP o.dst (.view d [] (c.P.cellsOf e) 0 (es.length+ys.length))) (a.put o.dst v) w':=by
 obtain ⟨i,zv,hi,hzv,hzr⟩:=mF hz;have hci:c.P.cellsOf e=i.size:=by simp[Program.cellsOf,hi]
 have hbi:c.P.bytesOf e=i.bytes:=by simp[Program.bytesOf,hi]
 obtain ⟨ad1,cp1,olds,s1,s2,s3,s4,s5,s6⟩:=pJ hsim (ct hsim hs') hse;obtain ⟨ad2,cp2,news,t1,t2,t3,t4,t5,t6⟩:=pJ hsim (ct hsim hx') hsx;have hlt:=hfull _ _ _ s1;obtain ⟨m,hm⟩:∃ m,m=grownCap w (es.length+ys.length) cp1 e-(es.length+ys.length):=⟨_,rfl⟩
 have hge:=grownCap_ge w (es.length+ys.length) cp1 e;have hle:=grownCap_le_maxLen w (es.length+ys.length) cp1 e hml;obtain ⟨cells,hcells⟩:∃ cells:Array Value,cells=olds.toArray++news.toArray++Builtin.zeroCells zv.cells m:=⟨_,rfl⟩
 have hrun:(Builtin.append_ #[t,t] o.type #[a.eval s,a.eval x]).run c.P w=.ok (.slice (some ⟨w.heap.size,0,none⟩) (es.length+ys.length) (grownCap w (es.length+ys.length) cp1 e)) (w.drew.alloc (.cells cells e)):=by
  have hn:¬ (es.length+ys.length≤cp1):=by omega
  have h63:¬ (9223372036854775807<((es.length:Int)+(ys.length:Int))):=by simp only[maxLen] at hml;omega
  have h48:¬ (281474976710656<Builtin.nextslicecap (es.length+ys.length) cp1*i.bytes):=by
   have h3:(es.length+ys.length)*i.bytes≤140737488355328:=by rw[←hbi];exact hby
   have:=growslice_fits hlt h3;omega
  have g1:=s6 c.P w.drew (fun _ _ h=>h);have g2:=t6 c.P w.drew (fun _ _ h=>h);rw[s1,hci] at g1;rw[t1,hci] at g2;rw[s1,t1,hcells,hm];simp[Builtin.append_,run_underlying hu,sizeOf,typeInfo,zeroValue,hi,hzv,Builtin.lenOf,hn,h63,h48,Question.forced,g1,g2,newRow,grownCap]
  congr 2
  apply Array.ext';simp[zz5]
 have hcl:cells.toList=olds++(news++(List.replicate m zv.cells.toList).flatten):=by
  rw[hcells];simp[uW]
 have hrc:af w D E (.agg (es++(ys++List.replicate m z))) cells.toList:=by
  rw[hcl];simp only[af];exact kG _ _ _ _ s4 (kG _ _ _ _ t4 (rU (hzr w D E) m))
 have hsim':aX c A a w.drew D E:=hsim.grow ⟨rfl,rfl,rfl,zz7 _,fun _ _=>rfl⟩ (fun _ _ h=>h) (fun _ _ h _=>h) (fun b o h=>hsim.dv b o h);have hrc':af w.drew D E (.agg (es++(ys++List.replicate m z))) cells.toList:=af.bN (w:=w) (w':=w.drew) (D:=D) (E:=E) ⟨fun _ _ h=>h,fun _ _ _ _ h=>h,fun _ _ _ h=>h,fun _ aF l h=>⟨aF,l,h,zz7 _,fun _=>rfl⟩,fun _ _ h=>h,fun _ _ h=>h,fun _ _ _ _ h=>h⟩ _ _ hrc;have h1:=hsim'.rK (T:=e) (.inl hdn) hf hrc';have hall:∀ y∈es++(ys++List.replicate m z),y.size=c.P.cellsOf e:=by
  intro y hy;rcases zy4.1 hy with hy | hy
  ·exact s5 y hy
  ·rcases zy4.1 hy with hy | hy
   ·exact t5 y hy
   ·rw[List.eq_of_mem_replicate hy];exact hzs
 have hlen:(es++(ys++List.replicate m z)).length=es.length+ys.length+m:=by simp[Nat.add_assoc]
 have h2:=h1.put (d:=d) (x:=.view d [] (c.P.cellsOf e) 0 (es.length+ys.length)) (v:=.slice (some ⟨w.heap.size,0,none⟩) (es.length+ys.length) (grownCap w (es.length+ys.length) cp1 e)) hdn ⟨_,by simp[bL,I.isAgg];rfl,by
  simp only[af,if_true];refine ⟨w.heap.size,(I.agg (es++(ys++List.replicate m z))).aQ,0,I.cS (es++(ys++List.replicate m z)),rfl,by cases (I.agg (es++(ys++List.replicate m z))).aQ <;>simp[cR.off],by simp only[I.aQ,cR.part],?_,?_,?_,?_⟩
  ·rw[I.dB,zy2,hlen,hm];simp;omega
  ·rw[I.dB,zy2,hlen];omega
  ·rw[I.dB,zy2,hlen];omega
  ·rw[I.dB];intro s hs;obtain ⟨f,hf,rfl⟩:=zx9.1 hs;rw[I.mA];exact hall f hf⟩
 refine ⟨.slice (some ⟨w.heap.size,0,none⟩) (es.length+ys.length) (grownCap w (es.length+ys.length) cp1 e),w.drew.alloc (.cells cells e),m,?_,by omega,?_⟩
 ·unfold execOp;simp only[ho,resolve,invoke,builtin,Sem.run_bind,Sem.run_pure,Result.andThen_ok,List.map_toArray,zz8,zx1,hrun]
 ·rw[hd];exact ⟨D,_,h2⟩
theorem RZ{t t' e:TypeId}{s x:Operand}{s' x':aJ}{es:List I}{k:Nat}{kx kt:IntKind}{a8:Int}{z:I}{d:Nat}(ho:o.op=.call { callee:=.builtin .append,args := #[s,x],argTypes := #[t,t'] })(hu:c.P.underlying t=some (.slice e))(hs':bK c.P t s=some s')(hx':bK c.P t' x=some x')(ht':c.P.underlying t'=some (.int kt))(hvx:ab A x'=.int kx a8)(hk:a8.toNat=k)(hk0:0<k)(hpos:0<c.P.cellsOf e)
  (hz:gq c.P e=some z) (hzs:z.size=c.P.cellsOf e) (hse:eI A (c.P.cellsOf e) (ab A s')=some es) (hby:(es.length+k)*c.P.bytesOf e≤140737488355328)
  (hd:o.dst=some d) (hdn:d<c.n) (hf:A.o d=none) {a:Act} {w:World} {D:aR} {E:aZ} (hsim:aX c A a w D E) (hfull:∀ ad l cp,a.eval s=.slice ad l cp→cp<l+k) (hml:es.length+k≤maxLen) :
  ∃ v w' m,(execOp a.eval o).run c.P w=.ok (.value v) w'∧es.length+k+m≤maxLen ∧
   cA c ((A.aS d (.box (.agg (es++(List.replicate k z++List.replicate m z))))).aP o.dst (.view d [] (c.P.cellsOf e) 0 (es.length+k))) (a.put o.dst v) w':=by
 obtain ⟨i,zv,hi,hzv,hzr⟩:=mF hz;have hci:c.P.cellsOf e=i.size:=by simp[Program.cellsOf,hi]
 have hbi:c.P.bytesOf e=i.bytes:=by simp[Program.bytesOf,hi]
 obtain ⟨ad1,cp1,olds,s1,s2,s3,s4,s5,s6⟩:=pJ hsim (ct hsim hs') hse;have v2:=ct hsim hx';rw[hvx] at v2;have t1:a.eval x=.int kx ((k:Nat):Int):=by rw[(fC v2).1];congr 1;omega
 have t4:aI w D E (List.replicate k z) (List.replicate k zv.cells.toList).flatten:=rU (hzr w D E) k;have t5:∀ y∈List.replicate k z,y.size=c.P.cellsOf e:=fun y hy=>by rw[List.eq_of_mem_replicate hy];exact hzs
 have hlt:=hfull _ _ _ s1;obtain ⟨m,hm⟩:∃ m,m=grownCap w (es.length+k) cp1 e-(es.length+k):=⟨_,rfl⟩
 have hge:=grownCap_ge w (es.length+k) cp1 e;have hle:=grownCap_le_maxLen w (es.length+k) cp1 e hml;obtain ⟨cells,hcells⟩:∃ cells:Array Value,cells=olds.toArray++Builtin.zeroCells zv.cells k++Builtin.zeroCells zv.cells m:=⟨_,rfl⟩
 have hrun:(Builtin.append_ #[t,t'] o.type #[a.eval s,a.eval x]).run c.P w=.ok (.slice (some ⟨w.heap.size,0,none⟩) (es.length+k) (grownCap w (es.length+k) cp1 e)) (w.drew.alloc (.cells cells e)):=by
  have h3:(es.length+k)*i.bytes≤140737488355328:=by rw[←hbi];exact hby
  have g1:=s6 c.P w.drew (fun _ _ h=>h);rw[s1,hci] at g1;have hfit:=growslice_fits hlt h3;have hkb:k*i.bytes≤(es.length+k)*i.bytes:=Nat.mul_le_mul_right _ (by omega);rw[s1,t1,hcells,hm];exact Lib.run_append_grow_zeros w t t' o.type e i zv kx kt hu ht' hi hzv ad1 es.length cp1 olds g1 k hk0 (by rw[←hci];exact hpos) hlt (by simp only[maxLen] at hml;omega) (by omega) (by omega)
 have hcl:cells.toList=olds++((List.replicate k zv.cells.toList).flatten++(List.replicate m zv.cells.toList).flatten):=by
  rw[hcells];simp[uW]
 have hrc:af w D E (.agg (es++(List.replicate k z++List.replicate m z))) cells.toList:=by
  rw[hcl];simp only[af];exact kG _ _ _ _ s4 (kG _ _ _ _ t4 (rU (hzr w D E) m))
 have hsim':aX c A a w.drew D E:=hsim.grow ⟨rfl,rfl,rfl,zz7 _,fun _ _=>rfl⟩ (fun _ _ h=>h) (fun _ _ h _=>h) (fun b o h=>hsim.dv b o h);have hrc':af w.drew D E (.agg (es++(List.replicate k z++List.replicate m z))) cells.toList:=af.bN (w:=w) (w':=w.drew) (D:=D) (E:=E) ⟨fun _ _ h=>h,fun _ _ _ _ h=>h,fun _ _ _ h=>h,fun _ aF l h=>⟨aF,l,h,zz7 _,fun _=>rfl⟩,fun _ _ h=>h,fun _ _ h=>h,fun _ _ _ _ h=>h⟩ _ _ hrc;have h1:=hsim'.rK (T:=e) (.inl hdn) hf hrc';have hall:∀ y∈es++(List.replicate k z++List.replicate m z),y.size=c.P.cellsOf e:=by
  intro y hy;rcases zy4.1 hy with hy | hy
  ·exact s5 y hy
  ·rcases zy4.1 hy with hy | hy
   ·exact t5 y hy
   ·rw[List.eq_of_mem_replicate hy];exact hzs
 have hlen:(es++(List.replicate k z++List.replicate m z)).length=es.length+k+m:=by simp[Nat.add_assoc]
 have h2:=h1.put (d:=d) (x:=.view d [] (c.P.cellsOf e) 0 (es.length+k)) (v:=.slice (some ⟨w.heap.size,0,none⟩) (es.length+k) (grownCap w (es.length+k) cp1 e)) hdn ⟨_,by simp[bL,I.isAgg];rfl,by
  simp only[af,if_true];refine ⟨w.heap.size,(I.agg (es++(List.replicate k z++List.replicate m z))).aQ,0,I.cS (es++(List.replicate k z++List.replicate m z)),rfl,by cases (I.agg (es++(List.replicate k z++List.replicate m z))).aQ <;>simp[cR.off],by simp only[I.aQ,cR.part],?_,?_,?_,?_⟩
  ·rw[I.dB,zy2,hlen,hm];simp;omega
  ·rw[I.dB,zy2,hlen];omega
  ·rw[I.dB,zy2,hlen];omega
  ·rw[I.dB];intro s hs;obtain ⟨f,hf,rfl⟩:=zx9.1 hs;rw[I.mA];exact hall f hf⟩
 refine ⟨.slice (some ⟨w.heap.size,0,none⟩) (es.length+k) (grownCap w (es.length+k) cp1 e),w.drew.alloc (.cells cells e),m,?_,by omega,?_⟩
 ·unfold execOp;simp only[ho,resolve,invoke,builtin,Sem.run_bind,Sem.run_pure,Result.andThen_ok,List.map_toArray,zz8,zx1,hrun]
 ·rw[hd];exact ⟨D,_,h2⟩
theorem ZL{t e:TypeId}{s x:Operand}{s' x':aJ}{ys:List I}{n:Nat}{p:List Nat}{lo k:Nat}{b:I}{fs:List I}(ho:o.op=.call { callee:=.builtin .append,args := #[s,x],argTypes := #[t,t] })(hu:c.P.underlying t=some (.slice e))(hi:(c.P.info? e).isSome=true)
  (hs':bK c.P t s=some s') (hx':bK c.P t x=some x') (hv:ab A s'=.view n p (c.P.cellsOf e) lo k) (hn:A.o n=some (.box b)) (hat:b.at p=some (.agg fs)) (hsx:eI A (c.P.cellsOf e) (ab A x')=some ys) (hroom:lo+k+ys.length≤fs.length)
  (hsh:I.cS ys=I.cS ((fs.drop (lo+k)).take ys.length)) (hdn:∀ k,o.dst=some k→k<c.n) :
  jf c A o ((A.aS n (.box (jc b p (lo+k) fs ys))).aP o.dst (.view n p (c.P.cellsOf e) lo (k+ys.length))):=by
 intro a w D E hsim;obtain ⟨i,hi⟩:=zw4.1 hi;have hci:c.P.cellsOf e=i.size:=by simp[Program.cellsOf,hi]
 have h0:=ct hsim hs';rw[hv] at h0;have hxx:cD A (.ptr n p)=some (.agg fs):=by simp only[cD,hn,hat]
 obtain ⟨yy,bk,cs,T,off,c1,c2,c3,k1,k2,k3,k4,k5,k6,k7,k8,k9,k10,k11,k12,hval⟩:=hsim.view h0 hxx;rw[hn] at k1;simp only[u8,ah.box.injEq] at k1;subst k1;obtain ⟨ad2,cp2,news,t1,t2,t3,t4,t5,t6⟩:=pJ hsim (ct hsim hx') hsx;obtain ⟨w',h1,h2⟩:=hsim.jc (j:=lo+k) (ys:=ys) hn k2 k3 k4 k5 k6 k7 k8 k9 k10 t4 hroom hsh c.P;have g2:=t6 c.P w (fun _ _ h=>h);rw[t1,hci] at g2;have hr:k+ys.length≤fs.length-lo:=by omega
 refine ⟨w',.inl ⟨.slice (some ⟨bk,off+lo*c.P.cellsOf e,none⟩) (k+ys.length) (fs.length-lo),?_,D,E,h2.aP hdn ?_⟩⟩
 ·have e1:off+lo*i.size+k*i.size=off+(lo+k)*c.P.cellsOf e:=by rw[hci,zu4];omega
  unfold execOp;simp only[ho,resolve,invoke,builtin,Sem.run_bind,Sem.run_pure,Result.andThen_ok,List.map_toArray,zz8,zx1,hval,t1];simp[Builtin.append_,run_underlying hu,sizeOf,typeInfo,hi,Builtin.lenOf,hr,g2,Addr.add_lit,hci,e1];rw[hci] at h1;simp[h1]
 ·refine ⟨_,by simp[bL,I.isAgg];rfl,?_⟩;simp only[af];refine ⟨bk,b.aQ,off,I.cS fs,k2,k5,nv p b _ k4,?_,?_,?_,?_⟩
  ·rw[I.dB,zy2]
  ·rw[I.dB,zy2];exact k12
  ·rw[I.dB,zy2];omega
  ·rw[I.dB];intro s hs;obtain ⟨f,hf,rfl⟩:=zx9.1 hs;rw[I.mA];exact k10 f hf
theorem ZM{t e:TypeId}{s x:Operand}{s' x':aJ}{es:List I}(ho:o.op=.call { callee:=.builtin .append,args := #[s,x],argTypes := #[t,t] })(hu:c.P.underlying t=some (.slice e))(hi:(c.P.info? e).isSome=true)(hs':bK c.P t s=some s')(hx':bK c.P t x=some x')
  (hse:eI A (c.P.cellsOf e) (ab A s')=some es) (hsx:eI A (c.P.cellsOf e) (ab A x')=some []):dW c A o (ab A s') :=
 .same fun a w D E hsim=>by
  obtain ⟨i,hi⟩:=zw4.1 hi;have hci:c.P.cellsOf e=i.size:=by simp[Program.cellsOf,hi]
  obtain ⟨ad1,cp1,olds,s1,s2,s3,s4,s5,s6⟩:=pJ hsim (ct hsim hs') hse;obtain ⟨ad2,cp2,news,t1,t2,t3,t4,t5,t6⟩:=pJ hsim (ct hsim hx') hsx;have g2:=t6 c.P w (fun _ _ h=>h);rw[t1,hci] at g2;simp only[aI] at t4;subst t4;refine ⟨a.eval s,?_,ct hsim hs'⟩;simp only[zu2] at g2 t1;unfold execOp;simp only[ho,resolve,invoke,builtin,Sem.run_bind,Sem.run_pure,Result.andThen_ok,List.map_toArray,zz8,zx1,s1,t1];cases ad1 <;>simp[Builtin.append_,run_underlying hu,sizeOf,typeInfo,hi,Builtin.lenOf,s2,g2,storeCells]
end
end Go.Abs
